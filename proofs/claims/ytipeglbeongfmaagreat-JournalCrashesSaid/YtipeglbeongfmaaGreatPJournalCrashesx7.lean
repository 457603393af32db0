/- Written by a program of this repo: what the program's functions do, each as a Lean function, shown of the loaded code; or a statement's row over that; no condition of its own. -/
import Derived.Test.YtipeglbeongfmaaGreatPJournalCrashesx6
namespace Go.Proofs.YtipeglbeongfmaaGreat.PJournalCrashes
open Go Go.RowKit Go.Proofs.YtipeglbeongfmaaGreatV
set_option linter.unusedVariables false
set_option linter.unusedSimpArgs false
set_option maxHeartbeats 4000000
set_option maxRecDepth 100000

theorem pack_Number.ok (k : Nat) (a0 : Int)  (r1 : ByteArray) (r2 : Int) (h : pack_Number.f k a0 = some (r1, r2)) :
    VCalls Tryz.prog 90 [iv a0] [] (fun v G own => v = .tuple #[.string r1, iv r2] ∧ G = [] ∧ own = []) := by
  refine VCalls.intro Tryz.func90 rfl (len rfl) fun E hC hW hD hU => ?_
  unfold pack_Number.f at h
  refine sr <| vs rfl <| vs rfl <| ds <| sr <| vm rfl <| ?_
  replace h := bd h
  obtain ⟨t6817, hA6818, h⟩ := h
  refine sC (o_call0 FO102 (pack_may.ok a0 t6817 hA6818) rfl rfl (ltn rfl) (All_of .nil)) <| ?_
  rintro _ _ _ ⟨rfl, rfl, rfl⟩
  replace h := iC h
  rcases h with ⟨c6819, h⟩ | ⟨c6819, h⟩
  · obtain rfl := c6819
    refine va (op_not rfl rfl) <| dt <| cf <| sk <| sr <| vm rfl <| va (op_ari64 rfl rfl rfl) <| vs rfl <| ds <| sr <| vm rfl <| VL.letter (decide (a0 < 0)) fun b6822 hb6822 => va (op_cmp rfl rfl (congrArg some hb6822)) <| dt <| ?_
    replace h := iC h
    rcases h with ⟨c6823, h⟩ | ⟨c6823, h⟩
    · cases lT c6823 hb6822
      refine ct <| rg <| vm rfl <| va (op_ari64 rfl rfl rfl) <| va (op_ari64 rfl rfl rfl) <| vs rfl <| nx <| vs rfl <| ds <| VC.block <| VC.nilRow' 5 1 <|
       VC.loop3 (fun (i6867 : Int) (v6869 : Value) (l6870 : List Int) => ⟨33, [(2, .string (⟨#[]⟩ : ByteArray)), (3, iv 0), (4, iv i6867), (5, v6869)], [], [], [(v6869, 5, 1, l6870.map enc_intu8)]⟩) (fun (ml1 : Nat) (i6867 : Int) (v6869 : Value) (l6870 : List Int) => pack_Number.l1 k ml1 i6867 l6870 = some (r1, r2)) k (wrap64 ((wrap64 ((-2) * a0)) - 1)) sn ([] : List Int) [] [0] h ⟨rfl, ⟨rfl, rfl, rfl, rfl, trivial⟩, trivial, rfl, by decide, rfl, by decide⟩ (by intros; simp [pack_Number.l1]) <|
       ?_
      clear h
      intro ml1 ihl1 i6867 v6869 l6870 h
      simp only [pack_Number.l1] at h
      refine sq <| sr <| vm rfl <| VL.letter (decide (i6867 ≥ 128)) fun b6888 hb6888 => va (op_cmp rfl rfl (congrArg some hb6888)) <| dt <| ?_
      replace h := iC h
      rcases h with ⟨c6889, h⟩ | ⟨c6889, h⟩
      · cases lT c6889 hb6888
        refine ct <| sk <| sq <| VC.block <| rg <| vm rfl <| vm rfl <| va (op_rem rfl rfl (by decide) rfl) <| va (op_ari64 rfl rfl rfl) <| va (op_conv Tryz.underlying3 Tryz.underlying5 rfl rfl) <|
         sG (o_buildSlice (vals := [(0, .int .u8 (IntKind.u8.wrap (wrap64 ((i6867.tmod 128) + 128))))]) (cells := #[.int .u8 (IntKind.u8.wrap (wrap64 ((i6867.tmod 128) + 128)))]) (es := List.map enc_intu8 ([IntKind.u8.wrap (wrap64 ((i6867.tmod 128) + 128))] : List Int)) Tryz.underlying68 TI5 Z5 rfl (by decide) (by decide) (by kernel_rfl) (by kernel_rfl) rfl (flat_map enc_intu8_ok _)) fun v6891 => ?_
        replace h := iN h
        obtain ⟨c6892, h⟩ := h
        refine sG (o_append 1 appm Tryz.underlying68 EI5 rfl rfl rfl (.inr ⟨0, _, rfl⟩) (bndm c6892)) fun v6893 => vs rfl <| dn <| VN.block <| tr <| vm rfl <| va (op_quo rfl rfl (by decide) rfl) <| vs rfl <| dn <|
         VN.again [] [1] (ihl1 (IntKind.i64.wrap (i6867.tdiv 128)) v6893 (l6870 ++ ([IntKind.u8.wrap (wrap64 ((i6867.tmod 128) + 128))] : List Int)) h)
      cases lF c6889 hb6888
      refine cf <| VC.exit <| VX.then <| VX.then <| VX.hit <| tx <| vm rfl <| vm rfl <| va (op_conv Tryz.underlying3 Tryz.underlying5 rfl rfl) <|
       sG (o_buildSlice (vals := [(0, .int .u8 (IntKind.u8.wrap i6867))]) (cells := #[.int .u8 (IntKind.u8.wrap i6867)]) (es := List.map enc_intu8 ([IntKind.u8.wrap i6867] : List Int)) Tryz.underlying68 TI5 Z5 rfl (by decide) (by decide) (by kernel_rfl) (by kernel_rfl) rfl (flat_map enc_intu8_ok _)) fun v6896 => ?_
      replace h := iN h
      obtain ⟨c6897, h⟩ := h
      refine sG (o_append 1 appm Tryz.underlying68 EI5 rfl rfl rfl (.inr ⟨0, _, rfl⟩) (bndm c6897)) fun v6898 => va (op_bytesStr_own (xs := (l6870 ++ ([IntKind.u8.wrap i6867] : List Int))) 1 rfl rfl Tryz.underlying68 Tryz.underlying9 Tryz.underlying5 rfl rfl) <| vs rfl <| vs rfl <| dt <| VC.ret <| ?_
      simp only [Option.some.injEq, Prod.mk.injEq] at h
      obtain ⟨rfl, rfl⟩ := h
      exact rf [.tmp 2, .tmp 3] [] (.tmp rfl (.tmp rfl .nil)) ⟨rfl, rfl, rfl⟩
    cases lF c6823 hb6822
    refine cf <| sk <| sr <| vs rfl <| ds <| VC.block <| VC.nilRow' 5 1 <|
     VC.loop3 (fun (i6943 : Int) (v6945 : Value) (l6946 : List Int) => ⟨33, [(2, .string (⟨#[]⟩ : ByteArray)), (3, iv 0), (4, iv i6943), (5, v6945)], [], [], [(v6945, 5, 1, l6946.map enc_intu8)]⟩) (fun (ml3 : Nat) (i6943 : Int) (v6945 : Value) (l6946 : List Int) => pack_Number.l3 k ml3 i6943 l6946 = some (r1, r2)) k (wrap64 (2 * a0)) sn ([] : List Int) [] [0] h ⟨rfl, ⟨rfl, rfl, rfl, rfl, trivial⟩, trivial, rfl, by decide, rfl, by decide⟩ (by intros; simp [pack_Number.l3]) <|
     ?_
    clear h
    intro ml3 ihl3 i6943 v6945 l6946 h
    simp only [pack_Number.l3] at h
    refine sq <| sr <| vm rfl <| VL.letter (decide (i6943 ≥ 128)) fun b6964 hb6964 => va (op_cmp rfl rfl (congrArg some hb6964)) <| dt <| ?_
    replace h := iC h
    rcases h with ⟨c6965, h⟩ | ⟨c6965, h⟩
    · cases lT c6965 hb6964
      refine ct <| sk <| sq <| VC.block <| rg <| vm rfl <| vm rfl <| va (op_rem rfl rfl (by decide) rfl) <| va (op_ari64 rfl rfl rfl) <| va (op_conv Tryz.underlying3 Tryz.underlying5 rfl rfl) <|
       sG (o_buildSlice (vals := [(0, .int .u8 (IntKind.u8.wrap (wrap64 ((i6943.tmod 128) + 128))))]) (cells := #[.int .u8 (IntKind.u8.wrap (wrap64 ((i6943.tmod 128) + 128)))]) (es := List.map enc_intu8 ([IntKind.u8.wrap (wrap64 ((i6943.tmod 128) + 128))] : List Int)) Tryz.underlying68 TI5 Z5 rfl (by decide) (by decide) (by kernel_rfl) (by kernel_rfl) rfl (flat_map enc_intu8_ok _)) fun v6967 => ?_
      replace h := iN h
      obtain ⟨c6968, h⟩ := h
      refine sG (o_append 1 appm Tryz.underlying68 EI5 rfl rfl rfl (.inr ⟨0, _, rfl⟩) (bndm c6968)) fun v6969 => vs rfl <| dn <| VN.block <| tr <| vm rfl <| va (op_quo rfl rfl (by decide) rfl) <| vs rfl <| dn <|
       VN.again [] [1] (ihl3 (IntKind.i64.wrap (i6943.tdiv 128)) v6969 (l6946 ++ ([IntKind.u8.wrap (wrap64 ((i6943.tmod 128) + 128))] : List Int)) h)
    cases lF c6965 hb6964
    refine cf <| VC.exit <| VX.then <| VX.then <| VX.hit <| tx <| vm rfl <| vm rfl <| va (op_conv Tryz.underlying3 Tryz.underlying5 rfl rfl) <|
     sG (o_buildSlice (vals := [(0, .int .u8 (IntKind.u8.wrap i6943))]) (cells := #[.int .u8 (IntKind.u8.wrap i6943)]) (es := List.map enc_intu8 ([IntKind.u8.wrap i6943] : List Int)) Tryz.underlying68 TI5 Z5 rfl (by decide) (by decide) (by kernel_rfl) (by kernel_rfl) rfl (flat_map enc_intu8_ok _)) fun v6972 => ?_
    replace h := iN h
    obtain ⟨c6973, h⟩ := h
    refine sG (o_append 1 appm Tryz.underlying68 EI5 rfl rfl rfl (.inr ⟨0, _, rfl⟩) (bndm c6973)) fun v6974 => va (op_bytesStr_own (xs := (l6946 ++ ([IntKind.u8.wrap i6943] : List Int))) 1 rfl rfl Tryz.underlying68 Tryz.underlying9 Tryz.underlying5 rfl rfl) <| vs rfl <| vs rfl <| dt <| VC.ret <| ?_
    simp only [Option.some.injEq, Prod.mk.injEq] at h
    obtain ⟨rfl, rfl⟩ := h
    exact rf [.tmp 2, .tmp 3] [] (.tmp rfl (.tmp rfl .nil)) ⟨rfl, rfl, rfl⟩
  obtain rfl := Bool.eq_false_iff.2 c6819
  refine va (op_not rfl rfl) <| dt <| ct <| sr <| vs rfl <| vs rfl <| dt <| VC.ret <| VR.then <| ?_
  simp only [Option.some.injEq, Prod.mk.injEq] at h
  obtain ⟨rfl, rfl⟩ := h
  exact rf [.tmp 2, .tmp 3] [] (.tmp rfl (.tmp rfl .nil)) ⟨rfl, rfl, rfl⟩

theorem frame_Frame.ok (k : Nat) (a0 : ByteArray)  (r1 : ByteArray) (r2 : Int) (h : frame_Frame.f k a0 = some (r1, r2)) :
    VCalls Tryz.prog 72 [.string a0] [] (fun v G own => v = .tuple #[.string r1, iv r2] ∧ G = [] ∧ own = []) := by
  refine VCalls.intro Tryz.func72 rfl (len rfl) fun E hC hW hD hU => ?_
  unfold frame_Frame.f at h
  refine sr <| vs rfl <| vs rfl <| ds <| sr <| vm rfl <| va (op_lens Tryz.underlying9 rfl) <| VL.letter (decide ((a0.size : Int) > 4096)) fun b6806 hb6806 => va (op_cmp rfl rfl (congrArg some hb6806)) <| dt <| ?_
  replace h := iC h
  rcases h with ⟨c6807, h⟩ | ⟨c6807, h⟩
  · cases lT c6807 hb6806
    refine ct <| sr <| vs rfl <| vs rfl <| dt <| VC.ret <| VR.then <| ?_
    simp only [Option.some.injEq, Prod.mk.injEq] at h
    obtain ⟨rfl, rfl⟩ := h
    exact rf [.tmp 2, .tmp 3] [] (.tmp rfl (.tmp rfl .nil)) ⟨rfl, rfl, rfl⟩
  cases lF c6807 hb6806
  refine cf <| sk <| sr <| vm rfl <| va (op_lens Tryz.underlying9 rfl) <| ?_
  replace h := bd h
  obtain ⟨⟨t6976, t6977⟩, hA6978, h⟩ := h
  dsimp only at h
  refine sC (o_call0 FO90 (pack_Number.ok k (a0.size : Int) t6976 t6977 hA6978) rfl rfl (ltn rfl) (All_of .nil)) <| ?_
  rintro _ _ _ ⟨rfl, rfl, rfl⟩
  refine vm rfl <| va (op_extract rfl rfl) <| va (op_extract rfl rfl) <| vs rfl <| vs rfl <| nx <| vm rfl <| vm rfl <| ?_
  replace h := iN h
  obtain ⟨c6979, h⟩ := h
  refine va (op_adds rfl rfl rfl c6979) <| vm rfl <| ?_
  replace h := bd h
  obtain ⟨t6980, hA6981, h⟩ := h
  refine sC (o_call0 FO92 (check_Of.ok k a0 t6980 hA6981) rfl rfl (ltn rfl) (All_of .nil)) <| ?_
  rintro _ _ _ ⟨rfl, rfl, rfl⟩
  replace h := bd h
  obtain ⟨t6982, hA6983, h⟩ := h
  refine sC (o_call0 FO91 (check_Bytes.ok k t6980 t6982 hA6983) rfl rfl (ltn rfl) (All_of .nil)) <| ?_
  rintro _ _ _ ⟨rfl, rfl, rfl⟩
  replace h := iN h
  obtain ⟨c6984, h⟩ := h
  refine va (op_adds rfl rfl rfl c6984) <| vs rfl <| vs rfl <| dt <| VC.ret <| ?_
  simp only [Option.some.injEq, Prod.mk.injEq] at h
  obtain ⟨rfl, rfl⟩ := h
  exact rf [.tmp 2, .tmp 3] [] (.tmp rfl (.tmp rfl .nil)) ⟨rfl, rfl, rfl⟩

def lay_73_ren : Go.Shelf.Ren := ⟨fun | 166 => 73 | 240 => 93 | 276 => 104 | n => n, fun | 70 => 100 | 9 => 9 | 3 => 3 | 75 => 106 | 0 => 0 | 72 => 102 | 37 => 68 | 4 => 4 | 164 => 142 | 80 => 84 | 5 => 5 | n => n, fun | n => n⟩
theorem lay_73 : Go.Proofs.Lays.n166 Tryz.prog lay_73_ren where
  mixed := by kernel_rfl
  f166 := Tryz.func73.trans (congrArg some (by kernel_rfl))
  f240 := Tryz.func93.trans (congrArg some (by kernel_rfl))
  f276 := Tryz.func104.trans (congrArg some (by kernel_rfl))
  t0 := Tryz.underlying0
  a0 := Tryz.isAgg0
  z0 := Tryz.sizeOf0
  v0 := Tryz.zeroValue0
  t3 := Tryz.underlying3
  a3 := Tryz.isAgg3
  z3 := Tryz.sizeOf3
  v3 := Tryz.zeroValue3
  t4 := Tryz.underlying4
  a4 := Tryz.isAgg4
  z4 := Tryz.sizeOf4
  v4 := Tryz.zeroValue4
  t9 := Tryz.underlying9
  a9 := Tryz.isAgg9
  z9 := Tryz.sizeOf9
  v9 := Tryz.zeroValue9
  t20 := Tryz.underlying20
  a20 := Tryz.isAgg20
  z20 := Tryz.sizeOf20
  v20 := Tryz.zeroValue20
  t37 := Tryz.underlying68
  a37 := Tryz.isAgg68
  z37 := Tryz.sizeOf68
  v37 := Tryz.zeroValue68
  t70 := Tryz.underlying100
  a70 := Tryz.isAgg100
  z70 := Tryz.sizeOf100
  v70 := Tryz.zeroValue100
  t72 := Tryz.underlying102
  a72 := Tryz.isAgg102
  z72 := Tryz.sizeOf102
  v72 := Tryz.zeroValue102
  t75 := Tryz.underlying106
  a75 := Tryz.isAgg106
  z75 := Tryz.sizeOf106
  v75 := Tryz.zeroValue106
  t164 := Tryz.underlying142
  a164 := Tryz.isAgg142
  z164 := Tryz.sizeOf142
  v164 := Tryz.zeroValue142
theorem lay_73x : Go.Proofs.Builder.Extra Tryz.prog lay_73_ren where
  sizeBuilder := by kernel_rfl
  liesBuilder := by kernel_rfl
  t5 := Tryz.underlying5
  a5 := Tryz.isAgg5
  z5 := Tryz.sizeOf5
  v5 := Tryz.zeroValue5
  infoByte := by kernel_rfl
  cellsByte := by kernel_rfl
  sizeByte := by kernel_rfl
  neB5 := by decide

def lay_74_ren : Go.Shelf.Ren := ⟨fun | 169 => 74 | n => n, fun | 70 => 100 | 9 => 9 | 0 => 0 | 72 => 102 | 37 => 68 | 127 => 128 | 3 => 3 | 5 => 5 | n => n, fun | n => n⟩
theorem lay_74 : Go.Proofs.Lays.n169 Tryz.prog lay_74_ren where
  mixed := by kernel_rfl
  f169 := Tryz.func74.trans (congrArg some (by kernel_rfl))
  t0 := Tryz.underlying0
  a0 := Tryz.isAgg0
  z0 := Tryz.sizeOf0
  v0 := Tryz.zeroValue0
  t3 := Tryz.underlying3
  a3 := Tryz.isAgg3
  z3 := Tryz.sizeOf3
  v3 := Tryz.zeroValue3
  t9 := Tryz.underlying9
  a9 := Tryz.isAgg9
  z9 := Tryz.sizeOf9
  v9 := Tryz.zeroValue9
  t37 := Tryz.underlying68
  a37 := Tryz.isAgg68
  z37 := Tryz.sizeOf68
  v37 := Tryz.zeroValue68
  t70 := Tryz.underlying100
  a70 := Tryz.isAgg100
  z70 := Tryz.sizeOf100
  v70 := Tryz.zeroValue100
  t72 := Tryz.underlying102
  a72 := Tryz.isAgg102
  z72 := Tryz.sizeOf102
  v72 := Tryz.zeroValue102
  t127 := Tryz.underlying128
  a127 := Tryz.isAgg128
  z127 := Tryz.sizeOf128
  v127 := Tryz.zeroValue128
theorem lay_74x : Go.Proofs.Builder.Extra Tryz.prog lay_74_ren where
  sizeBuilder := by kernel_rfl
  liesBuilder := by kernel_rfl
  t5 := Tryz.underlying5
  a5 := Tryz.isAgg5
  z5 := Tryz.sizeOf5
  v5 := Tryz.zeroValue5
  infoByte := by kernel_rfl
  cellsByte := by kernel_rfl
  sizeByte := by kernel_rfl
  neB5 := by decide

theorem journal_frames.zb : (Tryz.prog.info? 102).bind (·.zero) = some (.agg #[.pointer none, sn]) := by kernel_rfl
theorem journal_frames.grows : ∀ (m : List ByteArray) (x : ByteArray), x.size ≤ (m.foldl (fun r s => r ++ s) x).size
  | [], x => Nat.le_refl _
  | s :: m, x => by
    have := journal_frames.grows m (x ++ s)
    rw [ByteArray.size_append] at this
    exact Nat.le_trans (Nat.le_add_right _ _) this
theorem journal_frames.ok (k : Nat) (l0 : List ByteArray) (v0 : Value) (r1 : ByteArray) (h : journal_frames.f k l0 = some r1) :
    VCalls Tryz.prog 50 [v0] [.row v0 1 (l0.map enc_str)] (fun v G own => v = .string r1 ∧ G = [] ∧ own = []) := by
  refine VCalls.introF Tryz.func50 rfl (len rfl) fun E hE hC hW hD hU => ?_
  unfold journal_frames.f at h
  by_cases ca : ¬ (l0.length ≤ 140737488355328 ∧ l0.all (fun s => (frame_Frame.f k s).isSome) = true ∧ ((l0.map (journal_frames.q k)).foldl (fun r s => r ++ s) (⟨#[]⟩ : ByteArray)).size ≤ 140737488355328)
  · rw [if_neg ca] at h; cases h
  replace ca := Decidable.not_not.1 ca
  rw [if_pos ca] at h
  obtain ⟨hlen, cb, cc⟩ := ca
  have h5 := Option.some.inj h
  clear h
  rw [h5] at cc
  rw [List.all_eq_true] at cb
  refine VC.seq (VC.region ?_)
  refine VL.va (op_assign rfl (ltn rfl)) rfl ?_
  refine VL.done (VN.then ?_)
  refine VC.seq (VC.region ?_)
  refine VL.sG (o_alloc journal_frames.zb rfl (ltn rfl)) rfl ?_
  intro b
  refine VL.done (VN.then ?_)
  refine VC.toBld (e := 5) 0 hU rfl fun hbB _ => ?_
  refine VC.seq ?_
  refine VC.seq (VC.region ?_)
  refine VL.va (op_move rfl (ltn rfl)) rfl ?_
  refine VL.va (op_len (m := l0.length) 1 lenm Tryz.underlying22 rfl rfl (ltn rfl)) rfl ?_
  refine VL.va (op_move rfl (ltn rfl)) rfl ?_
  refine VL.done (VN.then ?_)
  refine VC.block ?_
  refine VC.loop3 (fun (i : Nat) (g : Nat) (X : ByteArray) => ⟨23, [(3, pt b 0), (8, v0), (9, iv (l0.length : Int)), (10, iv i)], [.bld 102 5 b g X, .row v0 1 (l0.map enc_str)], [], []⟩)
    (fun k' i g X => i + k' = l0.length + 1 ∧ i ≤ l0.length ∧ ((l0.drop i).map (journal_frames.q k)).foldl (fun r s => r ++ s) X = r1)
    (l0.length + 1) 0 b ⟨#[]⟩ [] [] ⟨by omega, by omega, h5⟩ ⟨rfl, ⟨rfl, rfl, rfl, rfl, trivial⟩, ⟨⟨0, rfl⟩, ⟨1, rfl⟩, trivial⟩, rfl, by decide, rfl, by decide⟩ (by rintro i g X ⟨h1, h2, _⟩; omega) ?_
  clear h5
  rintro k' ih i g X ⟨hk, hil, h5⟩
  refine VC.seq (VC.region ?_)
  refine VL.letter (decide ((i : Int) < (l0.length : Int))) fun b1 hb1 => ?_
  refine VL.va (op_cmp rfl rfl (congrArg some hb1) (ltn rfl)) rfl ?_
  refine VL.done (VN.then ?_)
  refine VC.seq ?_
  by_cases c1 : i < l0.length
  · obtain rfl : b1 = true := hb1.symm.trans (decide_eq_true (by omega))
    clear hb1
    refine VC.cond_t rfl (VC.skip (VN.then ?_))
    have hx : l0[i]? = some l0[i] := List.getElem?_eq_getElem c1
    have hsm : l0[i] ∈ l0 := List.getElem_mem c1
    have hdr : l0.drop i = l0[i] :: l0.drop (i + 1) := List.drop_eq_getElem_cons c1
    generalize l0[i] = s at hx hsm hdr
    rw [hdr, List.map_cons, List.foldl_cons] at h5
    obtain ⟨⟨nn, ee⟩, hn⟩ := Option.isSome_iff_exists.1 (cb s hsm)
    have hq : journal_frames.q k s = nn := by unfold journal_frames.q; rw [hn]; rfl
    rw [hq] at h5
    have hsz := journal_frames.grows ((l0.drop (i + 1)).map (journal_frames.q k)) (X ++ nn)
    rw [h5, ByteArray.size_append] at hsz
    refine VC.seq (VC.block ?_)
    refine VC.seq (VC.region ?_)
    refine VL.open (m := l0.length) 1 lenm rfl (by omega) ?_
    rintro ad n rfl
    refine VL.va (op_indexAddr Tryz.underlying22 TI9 rfl rfl (Int.natCast_nonneg i) (by omega) rfl (ltn rfl)) rfl ?_
    refine VL.va (op_load_row (sz := 1) (o := 0) 1 i 1 rfl rfl (get_map hx) TI9 rfl (by decide) (ltn rfl)) rfl ?_
    refine VL.va (op_assign rfl (ltn rfl)) rfl ?_
    refine VL.done (VN.then ?_)
    refine VC.seq (VC.region ?_)
    refine VL.va (op_move rfl (ltn rfl)) rfl ?_
    refine VL.sC (o_call0 FO72 (frame_Frame.ok k s nn ee hn) rfl rfl (ltn rfl) (All_of .nil)) rfl ?_
    rintro _ _ _ ⟨rfl, rfl, rfl⟩
    refine VL.va (op_move rfl (ltn rfl)) rfl ?_
    refine VL.va (op_extract (vs := [.string nn, iv ee]) rfl rfl (ltn rfl)) rfl ?_
    refine VL.va (op_extract (vs := [.string nn, iv ee]) rfl rfl (ltn rfl)) rfl ?_
    refine VL.va (op_assign rfl (ltn rfl)) rfl ?_
    refine VL.va (op_assign rfl (ltn rfl)) rfl ?_
    refine VL.done (VN.then ?_)
    refine VC.region ?_
    refine VL.va (op_move rfl (ltn rfl)) rfl ?_
    refine VL.step (o_write [] [.row (.slice (some ad) l0.length n) 1 (l0.map enc_str)] FO73 lay_73 lay_73x rfl rfl rfl hbB (List.mem_cons_self ..) (fun _ h => by cases h) hE hC rfl rfl rfl (by omega) (ltn rfl)) rfl ?_
    rintro _ ⟨g2, -, rfl⟩
    refine VL.done (VN.block (VN.then ?_))
    refine VC.region ?_
    refine VL.va (op_ari64 (q := ((i + 1 : Nat) : Int)) rfl rfl (congrArg some (by show wrap64 ((i : Int) + 1) = _; unfold wrap64; omega)) (ltn rfl)) rfl ?_
    refine VL.va (op_move rfl (ltn rfl)) rfl ?_
    refine VL.done ?_
    exact VN.again [] [] (ih (i + 1) g2 (X ++ nn) ⟨by omega, by omega, h5⟩) ⟨rfl, ⟨rfl, rfl, rfl, rfl, trivial⟩, ⟨⟨0, rfl⟩, ⟨1, rfl⟩, trivial⟩, rfl, by decide, rfl, by decide⟩
  obtain rfl : b1 = false := hb1.symm.trans (decide_eq_false (by omega))
  clear hb1 ih
  obtain rfl : i = l0.length := by omega
  rw [List.drop_length] at h5
  obtain rfl := h5
  refine VC.cond_f rfl ?_
  refine VC.exit (VX.then (VX.then (VX.hit (VN.then ?_))))
  refine VC.seq (VC.region ?_)
  refine VL.step1 (o_bstring FO74 lay_74 lay_74x rfl rfl rfl hbB (List.mem_cons_self ..) rfl rfl (ltn rfl)) rfl ?_
  refine VL.va (op_assign rfl (ltn rfl)) rfl ?_
  refine VL.done (VN.then ?_)
  refine VC.ret ?_
  exact VR.fn (rs := [.tmp 2]) [] [] [] rfl (.tmp rfl .nil) ⟨rfl, rfl, rfl⟩ trivial rfl (by decide)

theorem journal_waits.ok (k : Nat) (l0_0 : List ByteArray) (l0_1 : List S71) (a0_2 : Int) (a0_3 : Int) (a0_4 : Int) (l0_5 : List ByteArray) (l0_6 : List ByteArray) (l1 : List ByteArray) (v0_0 : Value) (v0_1 : Value) (v0_5 : Value) (v0_6 : Value) (v1 : Value) (r1 : Int) (h : journal_waits.f k l0_0 l0_1 a0_2 a0_3 a0_4 l0_5 l0_6 l1 = some r1) :
    VCalls Tryz.prog 26 [.agg #[v0_0, v0_1, iv a0_2, iv a0_3, iv a0_4, v0_5, v0_6], v1] [.row v0_0 1 (l0_0.map enc_str), .row v0_1 2 (l0_1.map enc71), .row v0_5 1 (l0_5.map enc_str), .row v0_6 1 (l0_6.map enc_str), .row v1 1 (l1.map enc_str)] (fun v G own => v = iv r1 ∧ G = [] ∧ own = []) := by
  refine VCalls.intro Tryz.func26 rfl (len rfl) fun E hC hW hD hU => ?_
  unfold journal_waits.f at h
  refine sr <| sG (o_box rfl (.agg (.f 0 rfl (.f 1 rfl (.c rfl (.c rfl (.c rfl (.f 2 rfl (.f 3 rfl .nil))))))))) fun g6691 => vs rfl <| ds <| sr <| vm rfl <| ?_
  replace h := bd h
  obtain ⟨t6801, hA6802, h⟩ := h
  refine sC (o_call0 FO48 (slices_ContainsFunc_string_string_s25.ok k l1 v1 t6801 hA6802) rfl rfl (ltn rfl) (All_of (.cons (mG 4 rfl) .nil))) <| ?_
  rintro _ _ _ ⟨rfl, rfl, rfl⟩
  refine dt <| ?_
  replace h := iC h
  rcases h with ⟨c6803, h⟩ | ⟨c6803, h⟩
  · obtain rfl := c6803
    refine ct <| sr <| vs rfl <| dt <| VC.ret <| VR.then <| ?_
    obtain rfl := Option.some.inj h
    exact rq 4 rfl ⟨rfl, rfl, rfl⟩
  obtain rfl := Bool.eq_false_iff.2 c6803
  refine cf <| sk <| sq <| sr <| vm rfl <| ?_
  replace h := bd h
  obtain ⟨t6995, hA6996, h⟩ := h
  refine sC (o_call0 FO50 (journal_frames.ok k l1 v1 t6995 hA6996) rfl rfl (ltn rfl) (All_of (.cons (mG 4 rfl) .nil))) <| ?_
  rintro _ _ _ ⟨rfl, rfl, rfl⟩
  refine va (op_lens Tryz.underlying9 rfl) <| vs rfl <| dt <| VC.letter (decide ((l1.length : Int) > 16)) fun b6997 hb6997 => ?_
  replace h := iC h
  rcases h with ⟨c6998, h⟩ | ⟨c6998, h⟩
  · cases lT c6998 hb6997
    refine VC.join0 (⟨30, [(4, iv 0), (29, .bool true)], [], [], []⟩) (True) ?_ ?_
    · exact dw ⟨0, [], [.row v1 1 (l1.map enc_str)], [], []⟩ 19 <| av 0 1 rfl (mv rfl) <| av 1 3 rfl (op_len (m := l1.length) 0 lenm Tryz.underlying22 rfl rfl) <| av 2 7 rfl (op_cmp rfl rfl (congrArg some hb6997)) <| av 3 15 rfl (mv rfl) <| au 4 31 rfl rfl <| au 5 63 rfl rfl <|
       av 6 127 rfl (op_pick rfl rfl) <| av 7 255 rfl (mv rfl) <| au 8 511 rfl rfl <| au 9 1023 rfl rfl <| au 10 2047 rfl rfl <| au 11 4095 rfl rfl <| au 12 8191 rfl rfl <| au 13 16383 rfl rfl <| au 14 32767 rfl rfl <| au 15 65535 rfl rfl <| au 16 131071 rfl rfl <| au 17 262143 rfl rfl <|
       av 18 524287 rfl (op_pick rfl rfl) <| ad <| VN.meet0 [] [] trivial
    intro _
    refine ct <| sr <| vs rfl <| dt <| VC.ret <| VR.then <| ?_
    obtain rfl := Option.some.inj h
    exact rq 4 rfl ⟨rfl, rfl, rfl⟩
  cases lF c6998 hb6997
  refine VC.letter (decide ((t6995.size : Int) > 3000)) fun b6999 hb6999 => ?_
  replace h := iC h
  rcases h with ⟨c7000, h⟩ | ⟨c7000, h⟩
  · cases lT c7000 hb6999
    refine VC.join0 (⟨30, [(4, iv 0), (29, .bool true)], [], [], []⟩) (True) ?_ ?_
    · exact dw ⟨0, [], [.row v1 1 (l1.map enc_str)], [], []⟩ 19 <| av 0 1 rfl (mv rfl) <| av 1 3 rfl (op_len (m := l1.length) 0 lenm Tryz.underlying22 rfl rfl) <| av 2 7 rfl (op_cmp rfl rfl (congrArg some hb6997)) <| av 3 15 rfl (mv rfl) <| av 4 31 rfl (mv rfl) <|
       av 5 63 rfl (op_cmp rfl rfl (congrArg some hb6999)) <| av 6 127 rfl (op_pick rfl rfl) <| av 7 255 rfl (mv rfl) <| au 8 511 rfl rfl <| au 9 1023 rfl rfl <| au 10 2047 rfl rfl <| au 11 4095 rfl rfl <| au 12 8191 rfl rfl <| au 13 16383 rfl rfl <| au 14 32767 rfl rfl <| au 15 65535 rfl rfl <|
       au 16 131071 rfl rfl <| au 17 262143 rfl rfl <| av 18 524287 rfl (op_pick rfl rfl) <| ad <| VN.meet0 [] [] trivial
    intro _
    refine ct <| sr <| vs rfl <| dt <| VC.ret <| VR.then <| ?_
    obtain rfl := Option.some.inj h
    exact rq 4 rfl ⟨rfl, rfl, rfl⟩
  cases lF c7000 hb6999
  replace h := bd h
  obtain ⟨t7001, hA7002, h⟩ := h
  refine VC.letter (decide ((wrap64 (a0_4 + (t6995.size : Int))) > t7001)) fun b7003 hb7003 => VC.join0 (⟨30, [(4, iv 0), (29, .bool b7003)], [], [], []⟩) (True) ?_ ?_
  · refine dw ⟨0, [], [.row v0_0 1 (l0_0.map enc_str), .row v1 1 (l1.map enc_str)], [(g6691, 27, [v0_0, v0_1, iv a0_2, iv a0_3, iv a0_4, v0_5, v0_6])], []⟩ 19 <| av 0 1 rfl (mv rfl) <| av 1 3 rfl (op_len (m := l1.length) 1 lenm Tryz.underlying22 rfl rfl) <|
     av 2 7 rfl (op_cmp rfl rfl (congrArg some hb6997)) <| av 3 15 rfl (mv rfl) <| av 4 31 rfl (mv rfl) <| av 5 63 rfl (op_cmp rfl rfl (congrArg some hb6999)) <| av 6 127 rfl (op_pick rfl rfl) <| av 7 255 rfl (mv rfl) <| av 8 511 rfl (op_fieldAddr FI27_3 rfl (add_at _ _ _)) <|
     av 9 1023 rfl (op_load 0 1 rfl rfl TI3 rfl (by decide)) <| av 10 2047 rfl (mv rfl) <| av 11 4095 rfl (op_ari64 rfl rfl rfl) <| av 12 8191 rfl (op_fieldAddr FI27_0 rfl (add_at _ _ _)) <| av 13 16383 rfl (op_fieldAddr FI25_0 rfl (add_at _ _ _)) <|
     av 14 32767 rfl (op_load 0 1 rfl rfl TI22 rfl (by decide)) <| av 15 65535 rfl (op_len (m := l0_0.length) 0 lenm Tryz.underlying22 rfl rfl) <| aC 16 131071 rfl (o_call0 FO51 (journal_room.ok (l0_0.length : Int) t7001 hA7002) rfl rfl (ltn rfl) (All_of .nil)) <| ?_
    rintro _ _ _ ⟨rfl, rfl, rfl⟩
    refine ⟨⟨⟨⟨0, rfl⟩, ⟨4, rfl⟩, trivial⟩, ⟨⟨0, rfl⟩, trivial⟩, trivial⟩, ?_⟩
    exact av 17 262143 rfl (op_cmp rfl rfl (congrArg some hb7003)) <| av 18 524287 rfl (op_pick rfl rfl) <| ad <| VN.meet0 [] [] trivial
  intro _
  replace h := iC h
  rcases h with ⟨c7004, h⟩ | ⟨c7004, h⟩
  · cases lT c7004 hb7003
    refine ct <| sr <| vs rfl <| dt <| VC.ret <| VR.then <| ?_
    obtain rfl := Option.some.inj h
    exact rq 4 rfl ⟨rfl, rfl, rfl⟩
  cases lF c7004 hb7003
  refine cf <| sk <| sr <| vs rfl <| dt <| VC.ret <| ?_
  obtain rfl := Option.some.inj h
  exact rq 4 rfl ⟨rfl, rfl, rfl⟩

end Go.Proofs.YtipeglbeongfmaaGreat.PJournalCrashes
