/- Written by a program of this repo: what the program's functions do, each as a Lean function, shown of the loaded code; or a statement's row over that; no condition of its own. -/
import Derived.Test.YtipeglbeongfmaaPJournalOpensx12
namespace Go.Proofs.Ytipeglbeongfmaa.PJournalOpens
open Go Go.RowKit Go.Proofs.YtipeglbeongfmaaV
set_option linter.unusedVariables false
set_option linter.unusedSimpArgs false
set_option maxHeartbeats 4000000
set_option maxRecDepth 100000

theorem pack_Number.ok (k : Nat) (a0 : Int)  (r1 : ByteArray) (r2 : Int) (h : pack_Number.f k a0 = some (r1, r2)) :
    VCalls Try.prog 94 [iv a0] [] (fun v G own => v = .tuple #[.string r1, iv r2] ∧ G = [] ∧ own = []) := by
  refine VCalls.intro Try.func94 rfl (len rfl) fun E hC hW hD hU => ?_
  unfold pack_Number.f at h
  refine sr <| vs rfl <| vs rfl <| ds <| sr <| vm rfl <| ?_
  replace h := bd h
  obtain ⟨t25461, hA25462, h⟩ := h
  refine sC (o_call0 FO99 (pack_may.ok a0 t25461 hA25462) rfl rfl (ltn rfl) (All_of .nil)) <| ?_
  rintro _ _ _ ⟨rfl, rfl, rfl⟩
  replace h := iC h
  rcases h with ⟨c25463, h⟩ | ⟨c25463, h⟩
  · obtain rfl := c25463
    refine va (op_not rfl rfl) <| dt <| cf <| sk <| sr <| vm rfl <| va (op_ari64 rfl rfl rfl) <| vs rfl <| ds <| sr <| vm rfl <| VL.letter (decide (a0 < 0)) fun b25466 hb25466 => va (op_cmp rfl rfl (congrArg some hb25466)) <| dt <| ?_
    replace h := iC h
    rcases h with ⟨c25467, h⟩ | ⟨c25467, h⟩
    · cases lT c25467 hb25466
      refine ct <| rg <| vm rfl <| va (op_ari64 rfl rfl rfl) <| va (op_ari64 rfl rfl rfl) <| vs rfl <| nx <| vs rfl <| ds <| VC.block <| VC.nilRow' 5 1 <|
       VC.loop3 (fun (i25511 : Int) (v25513 : Value) (l25514 : List Int) => ⟨33, [(2, .string (⟨#[]⟩ : ByteArray)), (3, iv 0), (4, iv i25511), (5, v25513)], [], [], [(v25513, 5, 1, l25514.map enc_intu8)]⟩) (fun (ml1 : Nat) (i25511 : Int) (v25513 : Value) (l25514 : List Int) => pack_Number.l1 k ml1 i25511 l25514 = some (r1, r2)) k (wrap64 ((wrap64 ((-2) * a0)) - 1)) sn ([] : List Int) [] [0] h ⟨rfl, ⟨rfl, rfl, rfl, rfl, trivial⟩, trivial, rfl, by decide, rfl, by decide⟩ (by intros; simp [pack_Number.l1]) <|
       ?_
      clear h
      intro ml1 ihl1 i25511 v25513 l25514 h
      simp only [pack_Number.l1] at h
      refine sq <| sr <| vm rfl <| VL.letter (decide (i25511 ≥ 128)) fun b25532 hb25532 => va (op_cmp rfl rfl (congrArg some hb25532)) <| dt <| ?_
      replace h := iC h
      rcases h with ⟨c25533, h⟩ | ⟨c25533, h⟩
      · cases lT c25533 hb25532
        refine ct <| sk <| sq <| VC.block <| rg <| vm rfl <| vm rfl <| va (op_rem rfl rfl (by decide) rfl) <| va (op_ari64 rfl rfl rfl) <| va (op_conv Try.underlying3 Try.underlying5 rfl rfl) <|
         sG (o_buildSlice (vals := [(0, .int .u8 (IntKind.u8.wrap (wrap64 ((i25511.tmod 128) + 128))))]) (cells := #[.int .u8 (IntKind.u8.wrap (wrap64 ((i25511.tmod 128) + 128)))]) (es := List.map enc_intu8 ([IntKind.u8.wrap (wrap64 ((i25511.tmod 128) + 128))] : List Int)) Try.underlying41 TI5 Z5 rfl (by decide) (by decide) (by kernel_rfl) (by kernel_rfl) rfl (flat_map enc_intu8_ok _)) fun v25535 => ?_
        replace h := iN h
        obtain ⟨c25536, h⟩ := h
        refine sG (o_append 1 appm Try.underlying41 EI5 rfl rfl rfl (.inr ⟨0, _, rfl⟩) (bndm c25536)) fun v25537 => vs rfl <| dn <| VN.block <| tr <| vm rfl <| va (op_quo rfl rfl (by decide) rfl) <| vs rfl <| dn <|
         VN.again [] [1] (ihl1 (IntKind.i64.wrap (i25511.tdiv 128)) v25537 (l25514 ++ ([IntKind.u8.wrap (wrap64 ((i25511.tmod 128) + 128))] : List Int)) h)
      cases lF c25533 hb25532
      refine cf <| VC.exit <| VX.then <| VX.then <| VX.hit <| tx <| vm rfl <| vm rfl <| va (op_conv Try.underlying3 Try.underlying5 rfl rfl) <|
       sG (o_buildSlice (vals := [(0, .int .u8 (IntKind.u8.wrap i25511))]) (cells := #[.int .u8 (IntKind.u8.wrap i25511)]) (es := List.map enc_intu8 ([IntKind.u8.wrap i25511] : List Int)) Try.underlying41 TI5 Z5 rfl (by decide) (by decide) (by kernel_rfl) (by kernel_rfl) rfl (flat_map enc_intu8_ok _)) fun v25540 => ?_
      replace h := iN h
      obtain ⟨c25541, h⟩ := h
      refine sG (o_append 1 appm Try.underlying41 EI5 rfl rfl rfl (.inr ⟨0, _, rfl⟩) (bndm c25541)) fun v25542 => va (op_bytesStr_own (xs := (l25514 ++ ([IntKind.u8.wrap i25511] : List Int))) 1 rfl rfl Try.underlying41 Try.underlying9 Try.underlying5 rfl rfl) <| vs rfl <| vs rfl <| dt <| VC.ret <| ?_
      simp only [Option.some.injEq, Prod.mk.injEq] at h
      obtain ⟨rfl, rfl⟩ := h
      exact rf [.tmp 2, .tmp 3] [] (.tmp rfl (.tmp rfl .nil)) ⟨rfl, rfl, rfl⟩
    cases lF c25467 hb25466
    refine cf <| sk <| sr <| vs rfl <| ds <| VC.block <| VC.nilRow' 5 1 <|
     VC.loop3 (fun (i25587 : Int) (v25589 : Value) (l25590 : List Int) => ⟨33, [(2, .string (⟨#[]⟩ : ByteArray)), (3, iv 0), (4, iv i25587), (5, v25589)], [], [], [(v25589, 5, 1, l25590.map enc_intu8)]⟩) (fun (ml3 : Nat) (i25587 : Int) (v25589 : Value) (l25590 : List Int) => pack_Number.l3 k ml3 i25587 l25590 = some (r1, r2)) k (wrap64 (2 * a0)) sn ([] : List Int) [] [0] h ⟨rfl, ⟨rfl, rfl, rfl, rfl, trivial⟩, trivial, rfl, by decide, rfl, by decide⟩ (by intros; simp [pack_Number.l3]) <|
     ?_
    clear h
    intro ml3 ihl3 i25587 v25589 l25590 h
    simp only [pack_Number.l3] at h
    refine sq <| sr <| vm rfl <| VL.letter (decide (i25587 ≥ 128)) fun b25608 hb25608 => va (op_cmp rfl rfl (congrArg some hb25608)) <| dt <| ?_
    replace h := iC h
    rcases h with ⟨c25609, h⟩ | ⟨c25609, h⟩
    · cases lT c25609 hb25608
      refine ct <| sk <| sq <| VC.block <| rg <| vm rfl <| vm rfl <| va (op_rem rfl rfl (by decide) rfl) <| va (op_ari64 rfl rfl rfl) <| va (op_conv Try.underlying3 Try.underlying5 rfl rfl) <|
       sG (o_buildSlice (vals := [(0, .int .u8 (IntKind.u8.wrap (wrap64 ((i25587.tmod 128) + 128))))]) (cells := #[.int .u8 (IntKind.u8.wrap (wrap64 ((i25587.tmod 128) + 128)))]) (es := List.map enc_intu8 ([IntKind.u8.wrap (wrap64 ((i25587.tmod 128) + 128))] : List Int)) Try.underlying41 TI5 Z5 rfl (by decide) (by decide) (by kernel_rfl) (by kernel_rfl) rfl (flat_map enc_intu8_ok _)) fun v25611 => ?_
      replace h := iN h
      obtain ⟨c25612, h⟩ := h
      refine sG (o_append 1 appm Try.underlying41 EI5 rfl rfl rfl (.inr ⟨0, _, rfl⟩) (bndm c25612)) fun v25613 => vs rfl <| dn <| VN.block <| tr <| vm rfl <| va (op_quo rfl rfl (by decide) rfl) <| vs rfl <| dn <|
       VN.again [] [1] (ihl3 (IntKind.i64.wrap (i25587.tdiv 128)) v25613 (l25590 ++ ([IntKind.u8.wrap (wrap64 ((i25587.tmod 128) + 128))] : List Int)) h)
    cases lF c25609 hb25608
    refine cf <| VC.exit <| VX.then <| VX.then <| VX.hit <| tx <| vm rfl <| vm rfl <| va (op_conv Try.underlying3 Try.underlying5 rfl rfl) <|
     sG (o_buildSlice (vals := [(0, .int .u8 (IntKind.u8.wrap i25587))]) (cells := #[.int .u8 (IntKind.u8.wrap i25587)]) (es := List.map enc_intu8 ([IntKind.u8.wrap i25587] : List Int)) Try.underlying41 TI5 Z5 rfl (by decide) (by decide) (by kernel_rfl) (by kernel_rfl) rfl (flat_map enc_intu8_ok _)) fun v25616 => ?_
    replace h := iN h
    obtain ⟨c25617, h⟩ := h
    refine sG (o_append 1 appm Try.underlying41 EI5 rfl rfl rfl (.inr ⟨0, _, rfl⟩) (bndm c25617)) fun v25618 => va (op_bytesStr_own (xs := (l25590 ++ ([IntKind.u8.wrap i25587] : List Int))) 1 rfl rfl Try.underlying41 Try.underlying9 Try.underlying5 rfl rfl) <| vs rfl <| vs rfl <| dt <| VC.ret <| ?_
    simp only [Option.some.injEq, Prod.mk.injEq] at h
    obtain ⟨rfl, rfl⟩ := h
    exact rf [.tmp 2, .tmp 3] [] (.tmp rfl (.tmp rfl .nil)) ⟨rfl, rfl, rfl⟩
  obtain rfl := Bool.eq_false_iff.2 c25463
  refine va (op_not rfl rfl) <| dt <| ct <| sr <| vs rfl <| vs rfl <| dt <| VC.ret <| VR.then <| ?_
  simp only [Option.some.injEq, Prod.mk.injEq] at h
  obtain ⟨rfl, rfl⟩ := h
  exact rf [.tmp 2, .tmp 3] [] (.tmp rfl (.tmp rfl .nil)) ⟨rfl, rfl, rfl⟩

theorem frame_Frame.ok (k : Nat) (a0 : ByteArray)  (r1 : ByteArray) (r2 : Int) (h : frame_Frame.f k a0 = some (r1, r2)) :
    VCalls Try.prog 82 [.string a0] [] (fun v G own => v = .tuple #[.string r1, iv r2] ∧ G = [] ∧ own = []) := by
  refine VCalls.intro Try.func82 rfl (len rfl) fun E hC hW hD hU => ?_
  unfold frame_Frame.f at h
  refine sr <| vs rfl <| vs rfl <| ds <| sr <| vm rfl <| va (op_lens Try.underlying9 rfl) <| VL.letter (decide ((a0.size : Int) > 4096)) fun b25450 hb25450 => va (op_cmp rfl rfl (congrArg some hb25450)) <| dt <| ?_
  replace h := iC h
  rcases h with ⟨c25451, h⟩ | ⟨c25451, h⟩
  · cases lT c25451 hb25450
    refine ct <| sr <| vs rfl <| vs rfl <| dt <| VC.ret <| VR.then <| ?_
    simp only [Option.some.injEq, Prod.mk.injEq] at h
    obtain ⟨rfl, rfl⟩ := h
    exact rf [.tmp 2, .tmp 3] [] (.tmp rfl (.tmp rfl .nil)) ⟨rfl, rfl, rfl⟩
  cases lF c25451 hb25450
  refine cf <| sk <| sr <| vm rfl <| va (op_lens Try.underlying9 rfl) <| ?_
  replace h := bd h
  obtain ⟨⟨t25620, t25621⟩, hA25622, h⟩ := h
  dsimp only at h
  refine sC (o_call0 FO94 (pack_Number.ok k (a0.size : Int) t25620 t25621 hA25622) rfl rfl (ltn rfl) (All_of .nil)) <| ?_
  rintro _ _ _ ⟨rfl, rfl, rfl⟩
  refine vm rfl <| va (op_extract rfl rfl) <| va (op_extract rfl rfl) <| vs rfl <| vs rfl <| nx <| vm rfl <| vm rfl <| ?_
  replace h := iN h
  obtain ⟨c25623, h⟩ := h
  refine va (op_adds rfl rfl rfl c25623) <| vm rfl <| ?_
  replace h := bd h
  obtain ⟨t25624, hA25625, h⟩ := h
  refine sC (o_call0 FO90 (check_Of.ok k a0 t25624 hA25625) rfl rfl (ltn rfl) (All_of .nil)) <| ?_
  rintro _ _ _ ⟨rfl, rfl, rfl⟩
  replace h := bd h
  obtain ⟨t25626, hA25627, h⟩ := h
  refine sC (o_call0 FO89 (check_Bytes.ok k t25624 t25626 hA25627) rfl rfl (ltn rfl) (All_of .nil)) <| ?_
  rintro _ _ _ ⟨rfl, rfl, rfl⟩
  replace h := iN h
  obtain ⟨c25628, h⟩ := h
  refine va (op_adds rfl rfl rfl c25628) <| vs rfl <| vs rfl <| dt <| VC.ret <| ?_
  simp only [Option.some.injEq, Prod.mk.injEq] at h
  obtain ⟨rfl, rfl⟩ := h
  exact rf [.tmp 2, .tmp 3] [] (.tmp rfl (.tmp rfl .nil)) ⟨rfl, rfl, rfl⟩

def lay_58_ren : Go.Shelf.Ren := ⟨fun | 166 => 58 | 240 => 77 | 276 => 91 | n => n, fun | 70 => 94 | 9 => 9 | 3 => 3 | 75 => 99 | 0 => 0 | 72 => 96 | 37 => 41 | 4 => 4 | 164 => 133 | 80 => 76 | 5 => 5 | n => n, fun | n => n⟩
theorem lay_58 : Go.Proofs.Lays.n166 Try.prog lay_58_ren where
  mixed := by kernel_rfl
  f166 := Try.func58.trans (congrArg some (by kernel_rfl))
  f240 := Try.func77.trans (congrArg some (by kernel_rfl))
  f276 := Try.func91.trans (congrArg some (by kernel_rfl))
  t0 := Try.underlying0
  a0 := Try.isAgg0
  z0 := Try.sizeOf0
  v0 := Try.zeroValue0
  t3 := Try.underlying3
  a3 := Try.isAgg3
  z3 := Try.sizeOf3
  v3 := Try.zeroValue3
  t4 := Try.underlying4
  a4 := Try.isAgg4
  z4 := Try.sizeOf4
  v4 := Try.zeroValue4
  t9 := Try.underlying9
  a9 := Try.isAgg9
  z9 := Try.sizeOf9
  v9 := Try.zeroValue9
  t20 := Try.underlying20
  a20 := Try.isAgg20
  z20 := Try.sizeOf20
  v20 := Try.zeroValue20
  t37 := Try.underlying41
  a37 := Try.isAgg41
  z37 := Try.sizeOf41
  v37 := Try.zeroValue41
  t70 := Try.underlying94
  a70 := Try.isAgg94
  z70 := Try.sizeOf94
  v70 := Try.zeroValue94
  t72 := Try.underlying96
  a72 := Try.isAgg96
  z72 := Try.sizeOf96
  v72 := Try.zeroValue96
  t75 := Try.underlying99
  a75 := Try.isAgg99
  z75 := Try.sizeOf99
  v75 := Try.zeroValue99
  t164 := Try.underlying133
  a164 := Try.isAgg133
  z164 := Try.sizeOf133
  v164 := Try.zeroValue133
theorem lay_58x : Go.Proofs.Builder.Extra Try.prog lay_58_ren where
  sizeBuilder := by kernel_rfl
  liesBuilder := by kernel_rfl
  t5 := Try.underlying5
  a5 := Try.isAgg5
  z5 := Try.sizeOf5
  v5 := Try.zeroValue5
  infoByte := by kernel_rfl
  cellsByte := by kernel_rfl
  sizeByte := by kernel_rfl
  neB5 := by decide

def lay_59_ren : Go.Shelf.Ren := ⟨fun | 169 => 59 | n => n, fun | 70 => 94 | 9 => 9 | 0 => 0 | 72 => 96 | 37 => 41 | 127 => 119 | 3 => 3 | 5 => 5 | n => n, fun | n => n⟩
theorem lay_59 : Go.Proofs.Lays.n169 Try.prog lay_59_ren where
  mixed := by kernel_rfl
  f169 := Try.func59.trans (congrArg some (by kernel_rfl))
  t0 := Try.underlying0
  a0 := Try.isAgg0
  z0 := Try.sizeOf0
  v0 := Try.zeroValue0
  t3 := Try.underlying3
  a3 := Try.isAgg3
  z3 := Try.sizeOf3
  v3 := Try.zeroValue3
  t9 := Try.underlying9
  a9 := Try.isAgg9
  z9 := Try.sizeOf9
  v9 := Try.zeroValue9
  t37 := Try.underlying41
  a37 := Try.isAgg41
  z37 := Try.sizeOf41
  v37 := Try.zeroValue41
  t70 := Try.underlying94
  a70 := Try.isAgg94
  z70 := Try.sizeOf94
  v70 := Try.zeroValue94
  t72 := Try.underlying96
  a72 := Try.isAgg96
  z72 := Try.sizeOf96
  v72 := Try.zeroValue96
  t127 := Try.underlying119
  a127 := Try.isAgg119
  z127 := Try.sizeOf119
  v127 := Try.zeroValue119
theorem lay_59x : Go.Proofs.Builder.Extra Try.prog lay_59_ren where
  sizeBuilder := by kernel_rfl
  liesBuilder := by kernel_rfl
  t5 := Try.underlying5
  a5 := Try.isAgg5
  z5 := Try.sizeOf5
  v5 := Try.zeroValue5
  infoByte := by kernel_rfl
  cellsByte := by kernel_rfl
  sizeByte := by kernel_rfl
  neB5 := by decide

theorem journal_frames.zb : (Try.prog.info? 96).bind (·.zero) = some (.agg #[.pointer none, sn]) := by kernel_rfl
theorem journal_frames.grows : ∀ (m : List ByteArray) (x : ByteArray), x.size ≤ (m.foldl (fun r s => r ++ s) x).size
  | [], x => Nat.le_refl _
  | s :: m, x => by
    have := journal_frames.grows m (x ++ s)
    rw [ByteArray.size_append] at this
    exact Nat.le_trans (Nat.le_add_right _ _) this
theorem journal_frames.ok (k : Nat) (l0 : List ByteArray) (v0 : Value) (r1 : ByteArray) (h : journal_frames.f k l0 = some r1) :
    VCalls Try.prog 68 [v0] [.row v0 1 (l0.map enc_str)] (fun v G own => v = .string r1 ∧ G = [] ∧ own = []) := by
  refine VCalls.introF Try.func68 rfl (len rfl) fun E hE hC hW hD hU => ?_
  unfold journal_frames.f at h
  by_cases ca : ¬ (l0.length ≤ 140737488355328 ∧ l0.all (fun s => (frame_Frame.f k s).isSome) = true ∧ ((l0.map (journal_frames.q k)).foldl (fun r s => r ++ s) (⟨#[]⟩ : ByteArray)).size ≤ 140737488355328)
  · rw [if_neg ca] at h; cases h
  replace ca := Decidable.not_not.1 ca
  rw [if_pos ca] at h
  obtain ⟨hlen, cb, cc⟩ := ca
  have h5 := Option.some.inj h
  clear h
  rw [h5] at cc
  rw [List.all_eq_true] at cb
  refine VC.seq (VC.region ?_)
  refine VL.va (op_assign rfl (ltn rfl)) rfl ?_
  refine VL.done (VN.then ?_)
  refine VC.seq (VC.region ?_)
  refine VL.sG (o_alloc journal_frames.zb rfl (ltn rfl)) rfl ?_
  intro b
  refine VL.done (VN.then ?_)
  refine VC.toBld (e := 5) 0 hU rfl fun hbB _ => ?_
  refine VC.seq ?_
  refine VC.seq (VC.region ?_)
  refine VL.va (op_move rfl (ltn rfl)) rfl ?_
  refine VL.va (op_len (m := l0.length) 1 lenm Try.underlying22 rfl rfl (ltn rfl)) rfl ?_
  refine VL.va (op_move rfl (ltn rfl)) rfl ?_
  refine VL.done (VN.then ?_)
  refine VC.block ?_
  refine VC.loop3 (fun (i : Nat) (g : Nat) (X : ByteArray) => ⟨23, [(3, pt b 0), (8, v0), (9, iv (l0.length : Int)), (10, iv i)], [.bld 96 5 b g X, .row v0 1 (l0.map enc_str)], [], []⟩)
    (fun k' i g X => i + k' = l0.length + 1 ∧ i ≤ l0.length ∧ ((l0.drop i).map (journal_frames.q k)).foldl (fun r s => r ++ s) X = r1)
    (l0.length + 1) 0 b ⟨#[]⟩ [] [] ⟨by omega, by omega, h5⟩ ⟨rfl, ⟨rfl, rfl, rfl, rfl, trivial⟩, ⟨⟨0, rfl⟩, ⟨1, rfl⟩, trivial⟩, rfl, by decide, rfl, by decide⟩ (by rintro i g X ⟨h1, h2, _⟩; omega) ?_
  clear h5
  rintro k' ih i g X ⟨hk, hil, h5⟩
  refine VC.seq (VC.region ?_)
  refine VL.letter (decide ((i : Int) < (l0.length : Int))) fun b1 hb1 => ?_
  refine VL.va (op_cmp rfl rfl (congrArg some hb1) (ltn rfl)) rfl ?_
  refine VL.done (VN.then ?_)
  refine VC.seq ?_
  by_cases c1 : i < l0.length
  · obtain rfl : b1 = true := hb1.symm.trans (decide_eq_true (by omega))
    clear hb1
    refine VC.cond_t rfl (VC.skip (VN.then ?_))
    have hx : l0[i]? = some l0[i] := List.getElem?_eq_getElem c1
    have hsm : l0[i] ∈ l0 := List.getElem_mem c1
    have hdr : l0.drop i = l0[i] :: l0.drop (i + 1) := List.drop_eq_getElem_cons c1
    generalize l0[i] = s at hx hsm hdr
    rw [hdr, List.map_cons, List.foldl_cons] at h5
    obtain ⟨⟨nn, ee⟩, hn⟩ := Option.isSome_iff_exists.1 (cb s hsm)
    have hq : journal_frames.q k s = nn := by unfold journal_frames.q; rw [hn]; rfl
    rw [hq] at h5
    have hsz := journal_frames.grows ((l0.drop (i + 1)).map (journal_frames.q k)) (X ++ nn)
    rw [h5, ByteArray.size_append] at hsz
    refine VC.seq (VC.block ?_)
    refine VC.seq (VC.region ?_)
    refine VL.open (m := l0.length) 1 lenm rfl (by omega) ?_
    rintro ad n rfl
    refine VL.va (op_indexAddr Try.underlying22 TI9 rfl rfl (Int.natCast_nonneg i) (by omega) rfl (ltn rfl)) rfl ?_
    refine VL.va (op_load_row (sz := 1) (o := 0) 1 i 1 rfl rfl (get_map hx) TI9 rfl (by decide) (ltn rfl)) rfl ?_
    refine VL.va (op_assign rfl (ltn rfl)) rfl ?_
    refine VL.done (VN.then ?_)
    refine VC.seq (VC.region ?_)
    refine VL.va (op_move rfl (ltn rfl)) rfl ?_
    refine VL.sC (o_call0 FO82 (frame_Frame.ok k s nn ee hn) rfl rfl (ltn rfl) (All_of .nil)) rfl ?_
    rintro _ _ _ ⟨rfl, rfl, rfl⟩
    refine VL.va (op_move rfl (ltn rfl)) rfl ?_
    refine VL.va (op_extract (vs := [.string nn, iv ee]) rfl rfl (ltn rfl)) rfl ?_
    refine VL.va (op_extract (vs := [.string nn, iv ee]) rfl rfl (ltn rfl)) rfl ?_
    refine VL.va (op_assign rfl (ltn rfl)) rfl ?_
    refine VL.va (op_assign rfl (ltn rfl)) rfl ?_
    refine VL.done (VN.then ?_)
    refine VC.region ?_
    refine VL.va (op_move rfl (ltn rfl)) rfl ?_
    refine VL.step (o_write [] [.row (.slice (some ad) l0.length n) 1 (l0.map enc_str)] FO58 lay_58 lay_58x rfl rfl rfl hbB (List.mem_cons_self ..) (fun _ h => by cases h) hE hC rfl rfl rfl (by omega) (ltn rfl)) rfl ?_
    rintro _ ⟨g2, -, rfl⟩
    refine VL.done (VN.block (VN.then ?_))
    refine VC.region ?_
    refine VL.va (op_ari64 (q := ((i + 1 : Nat) : Int)) rfl rfl (congrArg some (by show wrap64 ((i : Int) + 1) = _; unfold wrap64; omega)) (ltn rfl)) rfl ?_
    refine VL.va (op_move rfl (ltn rfl)) rfl ?_
    refine VL.done ?_
    exact VN.again [] [] (ih (i + 1) g2 (X ++ nn) ⟨by omega, by omega, h5⟩) ⟨rfl, ⟨rfl, rfl, rfl, rfl, trivial⟩, ⟨⟨0, rfl⟩, ⟨1, rfl⟩, trivial⟩, rfl, by decide, rfl, by decide⟩
  obtain rfl : b1 = false := hb1.symm.trans (decide_eq_false (by omega))
  clear hb1 ih
  obtain rfl : i = l0.length := by omega
  rw [List.drop_length] at h5
  obtain rfl := h5
  refine VC.cond_f rfl ?_
  refine VC.exit (VX.then (VX.then (VX.hit (VN.then ?_))))
  refine VC.seq (VC.region ?_)
  refine VL.step1 (o_bstring FO59 lay_59 lay_59x rfl rfl rfl hbB (List.mem_cons_self ..) rfl rfl (ltn rfl)) rfl ?_
  refine VL.va (op_assign rfl (ltn rfl)) rfl ?_
  refine VL.done (VN.then ?_)
  refine VC.ret ?_
  exact VR.fn (rs := [.tmp 2]) [] [] [] rfl (.tmp rfl .nil) ⟨rfl, rfl, rfl⟩ trivial rfl (by decide)

theorem journal_waits.ok (k : Nat) (l0_0 : List ByteArray) (l0_1 : List S55) (a0_2 : Int) (a0_3 : Int) (a0_4 : Int) (l0_5 : List ByteArray) (l0_6 : List ByteArray) (l1 : List ByteArray) (v0_0 : Value) (v0_1 : Value) (v0_5 : Value) (v0_6 : Value) (v1 : Value) (r1 : Int) (h : journal_waits.f k l0_0 l0_1 a0_2 a0_3 a0_4 l0_5 l0_6 l1 = some r1) :
    VCalls Try.prog 35 [.agg #[v0_0, v0_1, iv a0_2, iv a0_3, iv a0_4, v0_5, v0_6], v1] [.row v0_0 1 (l0_0.map enc_str), .row v0_1 2 (l0_1.map enc55), .row v0_5 1 (l0_5.map enc_str), .row v0_6 1 (l0_6.map enc_str), .row v1 1 (l1.map enc_str)] (fun v G own => v = iv r1 ∧ G = [] ∧ own = []) := by
  refine VCalls.intro Try.func35 rfl (len rfl) fun E hC hW hD hU => ?_
  unfold journal_waits.f at h
  refine sr <| sG (o_box rfl (.agg (.f 0 rfl (.f 1 rfl (.c rfl (.c rfl (.c rfl (.f 2 rfl (.f 3 rfl .nil))))))))) fun g25335 => vs rfl <| ds <| sr <| vm rfl <| ?_
  replace h := bd h
  obtain ⟨t25445, hA25446, h⟩ := h
  refine sC (o_call0 FO53 (slices_ContainsFunc_string_string_s47.ok k l1 v1 t25445 hA25446) rfl rfl (ltn rfl) (All_of (.cons (mG 4 rfl) .nil))) <| ?_
  rintro _ _ _ ⟨rfl, rfl, rfl⟩
  refine dt <| ?_
  replace h := iC h
  rcases h with ⟨c25447, h⟩ | ⟨c25447, h⟩
  · obtain rfl := c25447
    refine ct <| sr <| vs rfl <| dt <| VC.ret <| VR.then <| ?_
    obtain rfl := Option.some.inj h
    exact rq 4 rfl ⟨rfl, rfl, rfl⟩
  obtain rfl := Bool.eq_false_iff.2 c25447
  refine cf <| sk <| sq <| sr <| vm rfl <| ?_
  replace h := bd h
  obtain ⟨t25639, hA25640, h⟩ := h
  refine sC (o_call0 FO68 (journal_frames.ok k l1 v1 t25639 hA25640) rfl rfl (ltn rfl) (All_of (.cons (mG 4 rfl) .nil))) <| ?_
  rintro _ _ _ ⟨rfl, rfl, rfl⟩
  refine va (op_lens Try.underlying9 rfl) <| vs rfl <| dt <| VC.letter (decide ((l1.length : Int) > 16)) fun b25641 hb25641 => ?_
  replace h := iC h
  rcases h with ⟨c25642, h⟩ | ⟨c25642, h⟩
  · cases lT c25642 hb25641
    refine VC.join0 (⟨30, [(4, iv 0), (29, .bool true)], [], [], []⟩) (True) ?_ ?_
    · exact dw ⟨0, [], [.row v1 1 (l1.map enc_str)], [], []⟩ 19 <| av 0 1 rfl (mv rfl) <| av 1 3 rfl (op_len (m := l1.length) 0 lenm Try.underlying22 rfl rfl) <| av 2 7 rfl (op_cmp rfl rfl (congrArg some hb25641)) <| av 3 15 rfl (mv rfl) <| au 4 31 rfl rfl <| au 5 63 rfl rfl <|
       av 6 127 rfl (op_pick rfl rfl) <| av 7 255 rfl (mv rfl) <| au 8 511 rfl rfl <| au 9 1023 rfl rfl <| au 10 2047 rfl rfl <| au 11 4095 rfl rfl <| au 12 8191 rfl rfl <| au 13 16383 rfl rfl <| au 14 32767 rfl rfl <| au 15 65535 rfl rfl <| au 16 131071 rfl rfl <| au 17 262143 rfl rfl <|
       av 18 524287 rfl (op_pick rfl rfl) <| ad <| VN.meet0 [] [] trivial
    intro _
    refine ct <| sr <| vs rfl <| dt <| VC.ret <| VR.then <| ?_
    obtain rfl := Option.some.inj h
    exact rq 4 rfl ⟨rfl, rfl, rfl⟩
  cases lF c25642 hb25641
  refine VC.letter (decide ((t25639.size : Int) > 3000)) fun b25643 hb25643 => ?_
  replace h := iC h
  rcases h with ⟨c25644, h⟩ | ⟨c25644, h⟩
  · cases lT c25644 hb25643
    refine VC.join0 (⟨30, [(4, iv 0), (29, .bool true)], [], [], []⟩) (True) ?_ ?_
    · exact dw ⟨0, [], [.row v1 1 (l1.map enc_str)], [], []⟩ 19 <| av 0 1 rfl (mv rfl) <| av 1 3 rfl (op_len (m := l1.length) 0 lenm Try.underlying22 rfl rfl) <| av 2 7 rfl (op_cmp rfl rfl (congrArg some hb25641)) <| av 3 15 rfl (mv rfl) <| av 4 31 rfl (mv rfl) <|
       av 5 63 rfl (op_cmp rfl rfl (congrArg some hb25643)) <| av 6 127 rfl (op_pick rfl rfl) <| av 7 255 rfl (mv rfl) <| au 8 511 rfl rfl <| au 9 1023 rfl rfl <| au 10 2047 rfl rfl <| au 11 4095 rfl rfl <| au 12 8191 rfl rfl <| au 13 16383 rfl rfl <| au 14 32767 rfl rfl <| au 15 65535 rfl rfl <|
       au 16 131071 rfl rfl <| au 17 262143 rfl rfl <| av 18 524287 rfl (op_pick rfl rfl) <| ad <| VN.meet0 [] [] trivial
    intro _
    refine ct <| sr <| vs rfl <| dt <| VC.ret <| VR.then <| ?_
    obtain rfl := Option.some.inj h
    exact rq 4 rfl ⟨rfl, rfl, rfl⟩
  cases lF c25644 hb25643
  replace h := bd h
  obtain ⟨t25645, hA25646, h⟩ := h
  refine VC.letter (decide ((wrap64 (a0_4 + (t25639.size : Int))) > t25645)) fun b25647 hb25647 => VC.join0 (⟨30, [(4, iv 0), (29, .bool b25647)], [], [], []⟩) (True) ?_ ?_
  · refine dw ⟨0, [], [.row v0_0 1 (l0_0.map enc_str), .row v1 1 (l1.map enc_str)], [(g25335, 27, [v0_0, v0_1, iv a0_2, iv a0_3, iv a0_4, v0_5, v0_6])], []⟩ 19 <| av 0 1 rfl (mv rfl) <| av 1 3 rfl (op_len (m := l1.length) 1 lenm Try.underlying22 rfl rfl) <|
     av 2 7 rfl (op_cmp rfl rfl (congrArg some hb25641)) <| av 3 15 rfl (mv rfl) <| av 4 31 rfl (mv rfl) <| av 5 63 rfl (op_cmp rfl rfl (congrArg some hb25643)) <| av 6 127 rfl (op_pick rfl rfl) <| av 7 255 rfl (mv rfl) <| av 8 511 rfl (op_fieldAddr FI27_3 rfl (add_at _ _ _)) <|
     av 9 1023 rfl (op_load 0 1 rfl rfl TI3 rfl (by decide)) <| av 10 2047 rfl (mv rfl) <| av 11 4095 rfl (op_ari64 rfl rfl rfl) <| av 12 8191 rfl (op_fieldAddr FI27_0 rfl (add_at _ _ _)) <| av 13 16383 rfl (op_fieldAddr FI25_0 rfl (add_at _ _ _)) <|
     av 14 32767 rfl (op_load 0 1 rfl rfl TI22 rfl (by decide)) <| av 15 65535 rfl (op_len (m := l0_0.length) 0 lenm Try.underlying22 rfl rfl) <| aC 16 131071 rfl (o_call0 FO55 (journal_room.ok (l0_0.length : Int) t25645 hA25646) rfl rfl (ltn rfl) (All_of .nil)) <| ?_
    rintro _ _ _ ⟨rfl, rfl, rfl⟩
    refine ⟨⟨⟨⟨0, rfl⟩, ⟨4, rfl⟩, trivial⟩, ⟨⟨0, rfl⟩, trivial⟩, trivial⟩, ?_⟩
    exact av 17 262143 rfl (op_cmp rfl rfl (congrArg some hb25647)) <| av 18 524287 rfl (op_pick rfl rfl) <| ad <| VN.meet0 [] [] trivial
  intro _
  replace h := iC h
  rcases h with ⟨c25648, h⟩ | ⟨c25648, h⟩
  · cases lT c25648 hb25647
    refine ct <| sr <| vs rfl <| dt <| VC.ret <| VR.then <| ?_
    obtain rfl := Option.some.inj h
    exact rq 4 rfl ⟨rfl, rfl, rfl⟩
  cases lF c25648 hb25647
  refine cf <| sk <| sr <| vs rfl <| dt <| VC.ret <| ?_
  obtain rfl := Option.some.inj h
  exact rq 4 rfl ⟨rfl, rfl, rfl⟩

end Go.Proofs.Ytipeglbeongfmaa.PJournalOpens
