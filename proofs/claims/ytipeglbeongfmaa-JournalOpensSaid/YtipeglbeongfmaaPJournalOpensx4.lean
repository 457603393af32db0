/- Written by a program of this repo: what the program's functions do, each as a Lean function, shown of the loaded code; or a statement's row over that; no condition of its own. -/
import Derived.Test.YtipeglbeongfmaaPJournalOpensx3
namespace Go.Proofs.Ytipeglbeongfmaa.PJournalOpens
open Go Go.RowKit Go.Proofs.YtipeglbeongfmaaV
set_option linter.unusedVariables false
set_option linter.unusedSimpArgs false
set_option maxHeartbeats 4000000
set_option maxRecDepth 100000

theorem journal_begin.ok (a0 : Int) (a1 : Int)  (r1 : Int) (h : journal_begin.f a0 a1 = some r1) :
    VCalls Try.prog 25 [iv a0, iv a1] [] (fun v G own => v = iv r1 ∧ G = [] ∧ own = []) := by
  refine VCalls.intro Try.func25 rfl (len rfl) fun E hC hW hD hU => ?_
  unfold journal_begin.f at h
  refine sr <| vs rfl <| nx <| vm rfl <| vm rfl <| va (op_ari64 rfl rfl rfl) <| va (op_quo rfl rfl (by decide) rfl) <| va (op_ari64 rfl rfl rfl) <| va (op_ari64 rfl rfl rfl) <| vs rfl <| dt <| VC.ret <| ?_
  obtain rfl := Option.some.inj h
  exact rq 4 rfl ⟨rfl, rfl, rfl⟩

def lay_27_ren : Go.Shelf.Ren := ⟨fun | 156 => 27 | 165 => 57 | 166 => 58 | 169 => 59 | 240 => 77 | 241 => 78 | 276 => 91 | 277 => 92 | n => n, fun | 31 => 22 | 9 => 9 | 3 => 3 | 4 => 4 | 0 => 0 | 20 => 20 | 72 => 96 | 76 => 100 | 70 => 94 | 37 => 41 | 75 => 99 | 127 => 119 | 164 => 133 | 5 => 5 | 80 => 76 | n => n, fun | n => n⟩
theorem lay_27 : Go.Proofs.Lays.n156 Try.prog lay_27_ren where
  mixed := by kernel_rfl
  f156 := Try.func27.trans (congrArg some (by kernel_rfl))
  f165 := Try.func57.trans (congrArg some (by kernel_rfl))
  f166 := Try.func58.trans (congrArg some (by kernel_rfl))
  f169 := Try.func59.trans (congrArg some (by kernel_rfl))
  f240 := Try.func77.trans (congrArg some (by kernel_rfl))
  f241 := Try.func78.trans (congrArg some (by kernel_rfl))
  f276 := Try.func91.trans (congrArg some (by kernel_rfl))
  f277 := Try.func92.trans (congrArg some (by kernel_rfl))
  t0 := Try.underlying0
  a0 := Try.isAgg0
  z0 := Try.sizeOf0
  v0 := Try.zeroValue0
  t3 := Try.underlying3
  a3 := Try.isAgg3
  z3 := Try.sizeOf3
  v3 := Try.zeroValue3
  t4 := Try.underlying4
  a4 := Try.isAgg4
  z4 := Try.sizeOf4
  v4 := Try.zeroValue4
  t9 := Try.underlying9
  a9 := Try.isAgg9
  z9 := Try.sizeOf9
  v9 := Try.zeroValue9
  t20 := Try.underlying20
  a20 := Try.isAgg20
  z20 := Try.sizeOf20
  v20 := Try.zeroValue20
  t31 := Try.underlying22
  a31 := Try.isAgg22
  z31 := Try.sizeOf22
  v31 := Try.zeroValue22
  t37 := Try.underlying41
  a37 := Try.isAgg41
  z37 := Try.sizeOf41
  v37 := Try.zeroValue41
  t70 := Try.underlying94
  a70 := Try.isAgg94
  z70 := Try.sizeOf94
  v70 := Try.zeroValue94
  t72 := Try.underlying96
  a72 := Try.isAgg96
  z72 := Try.sizeOf96
  v72 := Try.zeroValue96
  t75 := Try.underlying99
  a75 := Try.isAgg99
  z75 := Try.sizeOf99
  v75 := Try.zeroValue99
  t76 := Try.underlying100
  a76 := Try.isAgg100
  z76 := Try.sizeOf100
  v76 := Try.zeroValue100
  t127 := Try.underlying119
  a127 := Try.isAgg119
  z127 := Try.sizeOf119
  v127 := Try.zeroValue119
  t164 := Try.underlying133
  a164 := Try.isAgg133
  z164 := Try.sizeOf133
  v164 := Try.zeroValue133
theorem lay_27x : Go.Proofs.Builder.Extra Try.prog lay_27_ren where
  sizeBuilder := by kernel_rfl
  liesBuilder := by kernel_rfl
  t5 := Try.underlying5
  a5 := Try.isAgg5
  z5 := Try.sizeOf5
  v5 := Try.zeroValue5
  infoByte := by kernel_rfl
  cellsByte := by kernel_rfl
  sizeByte := by kernel_rfl
  neB5 := by decide

theorem strings_Join.ok (l0 : List ByteArray) (s : ByteArray) (v0 : Value) (r1 : ByteArray) (h : strings_Join.f l0 s = some r1) :
    VCalls Try.prog 27 [v0, .string s] [.row v0 1 (l0.map enc_str)] (fun v G own => v = .string r1 ∧ G = [] ∧ own = []) := by
  unfold strings_Join.f at h
  by_cases hc : ¬ (l0.length ≤ 140737488355328 ∧ (Go.Lib.join (l0.map (·.data.toList)) s.data.toList).length ≤ 140737488355328)
  · rw [if_neg hc] at h; cases h
  replace hc := Decidable.not_not.1 hc
  rw [if_pos hc] at h
  obtain rfl := Option.some.inj h
  clear h
  intro C w hC hF
  obtain ⟨hfl, A, c, hv, h1, h2, h3, h4⟩ := hF _ (List.mem_singleton.2 rfl)
  subst hv
  rw [lenm] at h1 h3 ⊢
  cases l0 with
  | nil => exact (Go.Proofs.Any.strings_Join_none lay_27 lay_27x A c s w).mono fun e w' hq => ⟨_, [], [], hq.1, ⟨rfl, rfl, rfl⟩, by simp, by simp, by simp [ownBs], hq.2 ▸ Below.refl _ _⟩
  | cons x xs =>
    obtain ⟨ad, rfl, hCa⟩ := h3 (by simp)
    have hcell : ∀ (j : Nat) y, (x :: xs)[j]? = some y → w.cell? (ad.add j) = some (.string y) := by
      intro j y hy
      have := h4 j (enc_str y) (by rw [List.getElem?_map, hy]; rfl) ad rfl 0 (.string y) rfl
      simpa using this
    have h0 := hcell 0 x rfl
    have hadd : ad.add 0 = ad := rfl
    rw [hadd] at h0
    obtain ⟨bk, o, sp⟩ := ad
    have hsp : sp = none := by
      cases sp with
      | none => rfl
      | some q =>
        exfalso
        unfold World.cell? at h0
        split at h0
        · simp at h0
        · cases h0
    subst hsp
    refine (Go.Proofs.Any.strings_Join lay_27 lay_27x bk o c (x :: xs) s w (fun j y hy => ?_) (World.block_lt_of_cell? _ _ h0) hc.1 h1 hc.2).mono fun e w' hq => ⟨_, [], [], hq.1, ⟨rfl, rfl, rfl⟩, by simp, by simp, by simp [ownBs], hq.2⟩
    have := hcell j y hy
    rw [add_at] at this
    exact this

theorem pack_may.ok (a0 : Int)  (r1 : Bool) (h : pack_may.f a0 = some r1) :
    VCalls Try.prog 99 [iv a0] [] (fun v G own => v = .bool r1 ∧ G = [] ∧ own = []) := by
  refine VCalls.intro Try.func99 rfl (len rfl) fun E hC hW hD hU => ?_
  unfold pack_may.f at h
  refine sr <| vs rfl <| nx <| vm rfl <| VL.letter (decide (a0 ≥ (-1152921504606846976))) fun b2252 hb2252 => va (op_cmp rfl rfl (congrArg some hb2252)) <| vm rfl <| ?_
  replace h := iC h
  rcases h with ⟨c2253, h⟩ | ⟨c2253, h⟩
  · cases lT c2253 hb2252
    refine vm rfl <| VL.letter (decide (a0 ≤ 1152921504606846976)) fun b2254 hb2254 => va (op_cmp rfl rfl (congrArg some hb2254)) <| va (op_pick rfl rfl) <| vs rfl <| dt <| VC.ret <| ?_
    obtain rfl := Option.some.inj h
    subst hb2254
    exact rq 2 rfl ⟨rfl, rfl, rfl⟩
  cases lF c2253 hb2252
  refine un rfl <| un rfl <| va (op_pick rfl rfl) <| vs rfl <| dt <| VC.ret <| ?_
  obtain rfl := Option.some.inj h
  exact rq 2 rfl ⟨rfl, rfl, rfl⟩

theorem pack_ReadNumber.ok (k : Nat) (a0 : ByteArray)  (r1 : Int) (r2 : ByteArray) (r3 : Int) (h : pack_ReadNumber.f k a0 = some (r1, r2, r3)) :
    VCalls Try.prog 88 [.string a0] [] (fun v G own => v = .tuple #[iv r1, .string r2, iv r3] ∧ G = [] ∧ own = []) := by
  refine VCalls.intro Try.func88 rfl (len rfl) fun E hC hW hD hU => ?_
  unfold pack_ReadNumber.f at h
  refine sr <| vs rfl <| vs rfl <| vs rfl <| nx <| vs rfl <| ds <| sr <| vm rfl <| va (op_lens Try.underlying9 rfl) <| va (op_min rfl rfl) <| vm rfl <| dt <| VC.block <|
   VC.loop2 (fun (i3346 : Int) (i3347 : Int) => ⟨56, [(0, .string a0), (2, iv 0), (3, .string (⟨#[]⟩ : ByteArray)), (4, iv 0), (5, iv i3346), (11, iv (mn (a0.size : Int) 9)), (12, iv i3347)], [], [], []⟩) (fun (ml3 : Nat) (i3346 : Int) (i3347 : Int) => pack_ReadNumber.l3 k a0 ml3 i3346 i3347 = some (r1, r2, r3)) k 0 0 [] [] h ⟨rfl, ⟨rfl, rfl, rfl, rfl, rfl, rfl, rfl, trivial⟩, trivial, rfl, by decide, rfl, by decide⟩ (by intros; simp [pack_ReadNumber.l3]) <|
   ?_
  clear h
  intro ml3 ihl3 i3346 i3347 h
  simp only [pack_ReadNumber.l3] at h
  refine sr <| VL.letter (decide (i3347 < (mn (a0.size : Int) 9))) fun b3649 hb3649 => va (op_cmp rfl rfl (congrArg some hb3649)) <| ds <| ?_
  replace h := iC h
  rcases h with ⟨c3655, h⟩ | ⟨c3655, h⟩
  · cases lT c3655 hb3649
    refine ct <| sk <| sq <| VC.block <| sr <| vm rfl <| vs rfl <| nx <| vm rfl <| vm rfl <| ?_
    replace h := iN h
    obtain ⟨c3805, h⟩ := h
    replace h := iN h
    obtain ⟨c3806, h⟩ := h
    refine va (op_indexS Try.underlying9 rfl rfl c3805 c3806 rfl) <| va (op_conv Try.underlying5 Try.underlying3 rfl (i64w _)) <| vs rfl <| nx <| vm rfl <| vm rfl <| va (op_rem rfl rfl (by decide) rfl) <| vm rfl <| va (op_ari64 rfl rfl rfl) <| ?_
    replace h := iN h
    obtain ⟨c3807, h⟩ := h
    refine va (op_shl rfl rfl c3807 rfl) <| va (op_bits rfl rfl rfl) <| vs rfl <| ds <| sr <| vm rfl <| VL.letter (decide ((wrap64 (bt a0 i3347)) ≥ 128)) fun b3810 hb3810 => va (op_cmp rfl rfl (congrArg some hb3810)) <| dt <| ?_
    replace h := iC h
    rcases h with ⟨c3811, h⟩ | ⟨c3811, h⟩
    · cases lT c3811 hb3810
      refine ct <| VC.exit <| VX.then <| VX.hit <| tr <| va (op_ari64 rfl rfl rfl) <| vm rfl <| dn <| VN.again [] [] (ihl3 (Go.bits .or .i64 i3346 (IntKind.i64.wrap (((wrap64 (bt a0 i3347)).tmod 128) * 2 ^ min (wrap64 (7 * i3347)).toNat IntKind.i64.bits))) (wrap64 (i3347 + 1)) h)
    cases lF c3811 hb3810
    refine cf <| sk <| sr <| vm rfl <| va (op_quo rfl rfl (by decide) rfl) <| vs rfl <| dt <|
     VC.join2 (fun (i3908 : Int) (q3909 : Bool) => ⟨56, [(0, .string a0), (2, iv 0), (3, .string (⟨#[]⟩ : ByteArray)), (4, iv 0), (5, iv (Go.bits .or .i64 i3346 (IntKind.i64.wrap (((wrap64 (bt a0 i3347)).tmod 128) * 2 ^ min (wrap64 (7 * i3347)).toNat IntKind.i64.bits)))), (6, iv i3347), (7, iv (wrap64 (bt a0 i3347))), (8, iv i3908), (11, iv (mn (a0.size : Int) 9)), (12, iv i3347), (13, .bool true), (14, iv i3347), (15, .string a0), (16, iv i3347), (17, .int .u8 (bt a0 i3347)), (18, iv (wrap64 (bt a0 i3347))), (19, iv i3346), (20, iv (wrap64 (bt a0 i3347))), (21, iv ((wrap64 (bt a0 i3347)).tmod 128)), (22, iv i3347), (23, iv (wrap64 (7 * i3347))), (24, iv (IntKind.i64.wrap (((wrap64 (bt a0 i3347)).tmod 128) * 2 ^ min (wrap64 (7 * i3347)).toNat IntKind.i64.bits))), (25, iv (Go.bits .or .i64 i3346 (IntKind.i64.wrap (((wrap64 (bt a0 i3347)).tmod 128) * 2 ^ min (wrap64 (7 * i3347)).toNat IntKind.i64.bits)))), (26, iv (wrap64 (bt a0 i3347))), (27, .bool false), (28, iv (Go.bits .or .i64 i3346 (IntKind.i64.wrap (((wrap64 (bt a0 i3347)).tmod 128) * 2 ^ min (wrap64 (7 * i3347)).toNat IntKind.i64.bits)))), (29, iv (IntKind.i64.wrap ((Go.bits .or .i64 i3346 (IntKind.i64.wrap (((wrap64 (bt a0 i3347)).tmod 128) * 2 ^ min (wrap64 (7 * i3347)).toNat IntKind.i64.bits))).tdiv 2))), (30, iv (Go.bits .or .i64 i3346 (IntKind.i64.wrap (((wrap64 (bt a0 i3347)).tmod 128) * 2 ^ min (wrap64 (7 * i3347)).toNat IntKind.i64.bits)))), (31, iv ((Go.bits .or .i64 i3346 (IntKind.i64.wrap (((wrap64 (bt a0 i3347)).tmod 128) * 2 ^ min (wrap64 (7 * i3347)).toNat IntKind.i64.bits))).tmod 2)), (32, .bool q3909)], [], [], []⟩) (fun (i3908 : Int) (q3909 : Bool) => pack_ReadNumber.j5 k a0 i3347 i3908 q3909 = some (r1, r2, r3)) ?_ ?_
    · refine sr <| vm rfl <| va (op_rem rfl rfl (by decide) rfl) <| VL.letter ((((Go.bits .or .i64 i3346 (IntKind.i64.wrap (((wrap64 (bt a0 i3347)).tmod 128) * 2 ^ min (wrap64 (7 * i3347)).toNat IntKind.i64.bits))).tmod 2) == 1)) fun b3906 hb3906 => va (op_cmp rfl rfl (congrArg some hb3906)) <| dt <| ?_
      replace h := iC h
      rcases h with ⟨c3907, h⟩ | ⟨c3907, h⟩
      · obtain rfl : b3906 = true := hb3906.symm.trans (beq_iff_eq.2 c3907)
        refine ct <| rg <| vm rfl <| va (op_neg rfl (i64w _)) <| va (op_ari64 rfl rfl rfl) <| vs rfl <| dn <|
         VN.meet2 (wrap64 ((wrap64 (0 - (IntKind.i64.wrap ((Go.bits .or .i64 i3346 (IntKind.i64.wrap (((wrap64 (bt a0 i3347)).tmod 128) * 2 ^ min (wrap64 (7 * i3347)).toNat IntKind.i64.bits))).tdiv 2)))) - 1)) true [] [] h
      obtain rfl : b3906 = false := hb3906.symm.trans (beq_eq_false_iff_ne.2 c3907)
      refine cf <| VC.skip <| VN.meet2 (IntKind.i64.wrap ((Go.bits .or .i64 i3346 (IntKind.i64.wrap (((wrap64 (bt a0 i3347)).tmod 128) * 2 ^ min (wrap64 (7 * i3347)).toNat IntKind.i64.bits))).tdiv 2)) false [] [] h
    clear h
    intro i3908 q3909 h
    unfold pack_ReadNumber.j5 at h
    refine sq <| sr <| vm rfl <| VL.letter (((wrap64 (bt a0 i3347)) == 0)) fun b3940 hb3940 => va (op_cmp rfl rfl (congrArg some hb3940)) <| vm rfl <| ?_
    replace h := iC h
    rcases h with ⟨c3941, h⟩ | ⟨c3941, h⟩
    · obtain rfl : b3940 = true := hb3940.symm.trans (beq_iff_eq.2 c3941)
      refine vm rfl <| VL.letter (decide (i3347 > 0)) fun b3942 hb3942 => va (op_cmp rfl rfl (congrArg some hb3942)) <| va (op_pick rfl rfl) <| vm rfl <| ?_
      replace h := iC h
      rcases h with ⟨c3943, h⟩ | ⟨c3943, h⟩
      · cases lT c3943 hb3942
        refine un rfl <| un rfl <| un rfl <| va (op_pick rfl rfl) <| dt <| ct <| sr <| vs rfl <| vs rfl <| vs rfl <| dt <| VC.ret <| VR.then <| VR.block <| VR.then <| VR.then <| VR.block <| VR.then <| ?_
        simp only [Option.some.injEq, Prod.mk.injEq] at h
        obtain ⟨rfl, rfl, rfl⟩ := h
        exact rf [.tmp 2, .tmp 3, .tmp 4] [] (.tmp rfl (.tmp rfl (.tmp rfl .nil))) ⟨rfl, rfl, rfl⟩
      cases lF c3943 hb3942
      refine vm rfl <| ?_
      replace h := bd h
      obtain ⟨t3944, hA3945, h⟩ := h
      refine sC (o_call0 FO99 (pack_may.ok i3908 t3944 hA3945) rfl rfl (ltn rfl) (All_of .nil)) <| ?_
      rintro _ _ _ ⟨rfl, rfl, rfl⟩
      replace h := iC h
      rcases h with ⟨c3946, h⟩ | ⟨c3946, h⟩
      · obtain rfl := c3946
        refine va (op_not rfl rfl) <| va (op_pick rfl rfl) <| dt <| cf <| sk <| ?_
        replace h := iN h
        obtain ⟨c3947, h⟩ := h
        replace h := iN h
        obtain ⟨c3948, h⟩ := h
        refine VC.join0 (⟨56, [(0, .string a0), (2, iv i3908), (3, .string (a0.extract ((wrap64 (i3347 + 1)).toNat) a0.size)), (4, iv 0), (5, iv (Go.bits .or .i64 i3346 (IntKind.i64.wrap (((wrap64 (bt a0 i3347)).tmod 128) * 2 ^ min (wrap64 (7 * i3347)).toNat IntKind.i64.bits)))), (6, iv i3347), (7, iv (wrap64 (bt a0 i3347))), (8, iv i3908), (11, iv (mn (a0.size : Int) 9)), (12, iv i3347), (13, .bool true), (14, iv i3347), (15, .string a0), (16, iv i3347), (17, .int .u8 (bt a0 i3347)), (18, iv (wrap64 (bt a0 i3347))), (19, iv i3346), (20, iv (wrap64 (bt a0 i3347))), (21, iv ((wrap64 (bt a0 i3347)).tmod 128)), (22, iv i3347), (23, iv (wrap64 (7 * i3347))), (24, iv (IntKind.i64.wrap (((wrap64 (bt a0 i3347)).tmod 128) * 2 ^ min (wrap64 (7 * i3347)).toNat IntKind.i64.bits))), (25, iv (Go.bits .or .i64 i3346 (IntKind.i64.wrap (((wrap64 (bt a0 i3347)).tmod 128) * 2 ^ min (wrap64 (7 * i3347)).toNat IntKind.i64.bits)))), (26, iv (wrap64 (bt a0 i3347))), (27, .bool false), (28, iv (Go.bits .or .i64 i3346 (IntKind.i64.wrap (((wrap64 (bt a0 i3347)).tmod 128) * 2 ^ min (wrap64 (7 * i3347)).toNat IntKind.i64.bits)))), (29, iv (IntKind.i64.wrap ((Go.bits .or .i64 i3346 (IntKind.i64.wrap (((wrap64 (bt a0 i3347)).tmod 128) * 2 ^ min (wrap64 (7 * i3347)).toNat IntKind.i64.bits))).tdiv 2))), (30, iv (Go.bits .or .i64 i3346 (IntKind.i64.wrap (((wrap64 (bt a0 i3347)).tmod 128) * 2 ^ min (wrap64 (7 * i3347)).toNat IntKind.i64.bits)))), (31, iv ((Go.bits .or .i64 i3346 (IntKind.i64.wrap (((wrap64 (bt a0 i3347)).tmod 128) * 2 ^ min (wrap64 (7 * i3347)).toNat IntKind.i64.bits))).tmod 2)), (32, .bool q3909), (36, iv (wrap64 (bt a0 i3347))), (37, .bool true), (38, .bool true), (39, iv i3347), (40, .bool false), (41, .bool false), (42, .bool false), (43, iv i3908), (44, .bool true), (45, .bool false), (46, .bool false), (47, iv i3908), (48, .string a0), (49, iv i3347), (50, iv (wrap64 (i3347 + 1))), (51, .string (a0.extract ((wrap64 (i3347 + 1)).toNat) a0.size))], [], [], []⟩) (True) ?_ ?_
        · exact dw ⟨0, [], [], [], []⟩ 8 <| av 0 1 rfl (mv rfl) <| av 1 3 rfl (mv rfl) <| av 2 7 rfl (mv rfl) <| av 3 15 rfl (op_ari64 rfl rfl rfl) <|
           av 4 31 rfl (op_sliceS ((wrap64 (i3347 + 1)).toNat) a0.size Try.underlying9 rfl ⟨⟨_, _, rfl, c3947, rfl⟩, rfl, tN (a := (wrap64 (i3347 + 1))) (b := (a0.size : Int)) rfl rfl c3948, Nat.le_refl _⟩ rfl) <| av 5 63 rfl (ag rfl) <| av 6 127 rfl (ag rfl) <| av 7 255 rfl (ag rfl) <| ad <|
           VN.meet0 [] [] trivial
        intro _
        refine VC.ret <| VR.block <| VR.then <| VR.then <| VR.block <| VR.then <| ?_
        simp only [Option.some.injEq, Prod.mk.injEq] at h
        obtain ⟨rfl, rfl, rfl⟩ := h
        exact rf [.tmp 2, .tmp 3, .tmp 4] [] (.tmp rfl (.tmp rfl (.tmp rfl .nil))) ⟨rfl, rfl, rfl⟩
      obtain rfl := Bool.eq_false_iff.2 c3946
      refine va (op_not rfl rfl) <| va (op_pick rfl rfl) <| dt <| ct <| sr <| vs rfl <| vs rfl <| vs rfl <| dt <| VC.ret <| VR.then <| VR.block <| VR.then <| VR.then <| VR.block <| VR.then <| ?_
      simp only [Option.some.injEq, Prod.mk.injEq] at h
      obtain ⟨rfl, rfl, rfl⟩ := h
      exact rf [.tmp 2, .tmp 3, .tmp 4] [] (.tmp rfl (.tmp rfl (.tmp rfl .nil))) ⟨rfl, rfl, rfl⟩
    obtain rfl : b3940 = false := hb3940.symm.trans (beq_eq_false_iff_ne.2 c3941)
    refine un rfl <| un rfl <| va (op_pick rfl rfl) <| vm rfl <| vm rfl <| ?_
    replace h := bd h
    obtain ⟨t3949, hA3950, h⟩ := h
    refine sC (o_call0 FO99 (pack_may.ok i3908 t3949 hA3950) rfl rfl (ltn rfl) (All_of .nil)) <| ?_
    rintro _ _ _ ⟨rfl, rfl, rfl⟩
    replace h := iC h
    rcases h with ⟨c3951, h⟩ | ⟨c3951, h⟩
    · obtain rfl := c3951
      refine va (op_not rfl rfl) <| va (op_pick rfl rfl) <| dt <| cf <| sk <| ?_
      replace h := iN h
      obtain ⟨c3952, h⟩ := h
      replace h := iN h
      obtain ⟨c3953, h⟩ := h
      refine VC.join0 (⟨56, [(0, .string a0), (2, iv i3908), (3, .string (a0.extract ((wrap64 (i3347 + 1)).toNat) a0.size)), (4, iv 0), (5, iv (Go.bits .or .i64 i3346 (IntKind.i64.wrap (((wrap64 (bt a0 i3347)).tmod 128) * 2 ^ min (wrap64 (7 * i3347)).toNat IntKind.i64.bits)))), (6, iv i3347), (7, iv (wrap64 (bt a0 i3347))), (8, iv i3908), (11, iv (mn (a0.size : Int) 9)), (12, iv i3347), (13, .bool true), (14, iv i3347), (15, .string a0), (16, iv i3347), (17, .int .u8 (bt a0 i3347)), (18, iv (wrap64 (bt a0 i3347))), (19, iv i3346), (20, iv (wrap64 (bt a0 i3347))), (21, iv ((wrap64 (bt a0 i3347)).tmod 128)), (22, iv i3347), (23, iv (wrap64 (7 * i3347))), (24, iv (IntKind.i64.wrap (((wrap64 (bt a0 i3347)).tmod 128) * 2 ^ min (wrap64 (7 * i3347)).toNat IntKind.i64.bits))), (25, iv (Go.bits .or .i64 i3346 (IntKind.i64.wrap (((wrap64 (bt a0 i3347)).tmod 128) * 2 ^ min (wrap64 (7 * i3347)).toNat IntKind.i64.bits)))), (26, iv (wrap64 (bt a0 i3347))), (27, .bool false), (28, iv (Go.bits .or .i64 i3346 (IntKind.i64.wrap (((wrap64 (bt a0 i3347)).tmod 128) * 2 ^ min (wrap64 (7 * i3347)).toNat IntKind.i64.bits)))), (29, iv (IntKind.i64.wrap ((Go.bits .or .i64 i3346 (IntKind.i64.wrap (((wrap64 (bt a0 i3347)).tmod 128) * 2 ^ min (wrap64 (7 * i3347)).toNat IntKind.i64.bits))).tdiv 2))), (30, iv (Go.bits .or .i64 i3346 (IntKind.i64.wrap (((wrap64 (bt a0 i3347)).tmod 128) * 2 ^ min (wrap64 (7 * i3347)).toNat IntKind.i64.bits)))), (31, iv ((Go.bits .or .i64 i3346 (IntKind.i64.wrap (((wrap64 (bt a0 i3347)).tmod 128) * 2 ^ min (wrap64 (7 * i3347)).toNat IntKind.i64.bits))).tmod 2)), (32, .bool q3909), (36, iv (wrap64 (bt a0 i3347))), (37, .bool false), (38, .bool false), (39, undef), (40, undef), (41, .bool false), (42, .bool false), (43, iv i3908), (44, .bool true), (45, .bool false), (46, .bool false), (47, iv i3908), (48, .string a0), (49, iv i3347), (50, iv (wrap64 (i3347 + 1))), (51, .string (a0.extract ((wrap64 (i3347 + 1)).toNat) a0.size))], [], [], []⟩) (True) ?_ ?_
      · exact dw ⟨0, [], [], [], []⟩ 8 <| av 0 1 rfl (mv rfl) <| av 1 3 rfl (mv rfl) <| av 2 7 rfl (mv rfl) <| av 3 15 rfl (op_ari64 rfl rfl rfl) <|
         av 4 31 rfl (op_sliceS ((wrap64 (i3347 + 1)).toNat) a0.size Try.underlying9 rfl ⟨⟨_, _, rfl, c3952, rfl⟩, rfl, tN (a := (wrap64 (i3347 + 1))) (b := (a0.size : Int)) rfl rfl c3953, Nat.le_refl _⟩ rfl) <| av 5 63 rfl (ag rfl) <| av 6 127 rfl (ag rfl) <| av 7 255 rfl (ag rfl) <| ad <|
         VN.meet0 [] [] trivial
      intro _
      refine VC.ret <| VR.block <| VR.then <| VR.then <| VR.block <| VR.then <| ?_
      simp only [Option.some.injEq, Prod.mk.injEq] at h
      obtain ⟨rfl, rfl, rfl⟩ := h
      exact rf [.tmp 2, .tmp 3, .tmp 4] [] (.tmp rfl (.tmp rfl (.tmp rfl .nil))) ⟨rfl, rfl, rfl⟩
    obtain rfl := Bool.eq_false_iff.2 c3951
    refine va (op_not rfl rfl) <| va (op_pick rfl rfl) <| dt <| ct <| sr <| vs rfl <| vs rfl <| vs rfl <| dt <| VC.ret <| VR.then <| VR.block <| VR.then <| VR.then <| VR.block <| VR.then <| ?_
    simp only [Option.some.injEq, Prod.mk.injEq] at h
    obtain ⟨rfl, rfl, rfl⟩ := h
    exact rf [.tmp 2, .tmp 3, .tmp 4] [] (.tmp rfl (.tmp rfl (.tmp rfl .nil))) ⟨rfl, rfl, rfl⟩
  cases lF c3655 hb3649
  refine cf <| VC.exit <| VX.then <| VX.then <| VX.hit <| ts <| sr <| vm rfl <| va (op_lens Try.underlying9 rfl) <| VL.letter (decide ((a0.size : Int) ≥ 9)) fun b3956 hb3956 => va (op_cmp rfl rfl (congrArg some hb3956)) <| dt <| ?_
  replace h := iC h
  rcases h with ⟨c3957, h⟩ | ⟨c3957, h⟩
  · cases lT c3957 hb3956
    refine ct <| sr <| vs rfl <| vs rfl <| vs rfl <| dt <| VC.ret <| VR.then <| ?_
    simp only [Option.some.injEq, Prod.mk.injEq] at h
    obtain ⟨rfl, rfl, rfl⟩ := h
    exact rf [.tmp 2, .tmp 3, .tmp 4] [] (.tmp rfl (.tmp rfl (.tmp rfl .nil))) ⟨rfl, rfl, rfl⟩
  cases lF c3957 hb3956
  refine cf <| sk <| sr <| vs rfl <| vs rfl <| vs rfl <| dt <| VC.ret <| ?_
  simp only [Option.some.injEq, Prod.mk.injEq] at h
  obtain ⟨rfl, rfl, rfl⟩ := h
  exact rf [.tmp 2, .tmp 3, .tmp 4] [] (.tmp rfl (.tmp rfl (.tmp rfl .nil))) ⟨rfl, rfl, rfl⟩

theorem check_Table.ok (k : Nat)   (r1 : List Int) (h : check_Table.f k = some r1) :
    VCalls Try.prog 102 [] [] (fun v G own => v = .agg (ints .u32 r1).toArray ∧ G = [] ∧ own = []) := by
  refine VCalls.intro Try.func102 rfl (len rfl) fun E hC hW hD hU => ?_
  unfold check_Table.f at h
  refine sr <| sG (o_alloc Z147 ZL147) fun g3997 => nx <| sG (o_alloc Z147 ZL147) fun g3998 => ds <| sr <| vm rfl <| dt <| VC.block <|
   VC.loop2 (fun (i4367 : Int) (l4368 : List Int) => ⟨25, [(0, pt g3997 0), (1, pt g3998 0), (5, .int .u32 i4367)], [], [(g3998, 147, ints .u32 l4368), (g3997, 147, ints .u32 (List.replicate 256 (0 : Int)))], []⟩) (fun (ml5 : Nat) (i4367 : Int) (l4368 : List Int) => check_Table.l5 k ml5 i4367 l4368 = some r1) k 0 (List.replicate 256 (0 : Int)) [0, 1] [] h ⟨rfl, ⟨rfl, rfl, rfl, trivial⟩, trivial, rfl, by decide, rfl, by decide⟩ (by intros; simp [check_Table.l5]) <|
   ?_
  clear h
  intro ml5 ihl5 i4367 l4368 h
  simp only [check_Table.l5] at h
  refine sr <| VL.letter (decide (i4367 < 256)) fun b4464 hb4464 => va (op_cmp rfl rfl (congrArg some hb4464)) <| ds <| ?_
  replace h := iC h
  rcases h with ⟨c4468, h⟩ | ⟨c4468, h⟩
  · cases lT c4468 hb4464
    refine ct <| sk <| sq <| VC.block <| sr <| vm rfl <| vs rfl <| nx <| vm rfl <| vs rfl <| ds <| sr <| vm rfl <| dt <| VC.block <|
     VC.loop2 (fun (i4539 : Int) (i4540 : Int) => ⟨25, [(0, pt g3997 0), (1, pt g3998 0), (2, .int .u32 i4367), (3, .int .u32 i4539), (5, .int .u32 i4367), (6, .bool true), (7, .int .u32 i4367), (8, .int .u32 i4367), (9, iv i4540)], [], [(g3998, 147, ints .u32 l4368), (g3997, 147, ints .u32 (List.replicate 256 (0 : Int)))], []⟩) (fun (ml9 : Nat) (i4539 : Int) (i4540 : Int) => check_Table.l9 k (check_Table.l5 k ml5) i4367 l4368 ml9 i4539 i4540 = some r1) k i4367 0 [0, 1] [] h ⟨rfl, ⟨rfl, rfl, rfl, rfl, rfl, rfl, rfl, rfl, rfl, trivial⟩, trivial, rfl, by decide, rfl, by decide⟩ (by intros; simp [check_Table.l9]) <|
     ?_
    clear h
    intro ml9 ihl9 i4539 i4540 h
    simp only [check_Table.l9] at h
    refine sr <| VL.letter (decide (i4540 < 8)) fun b4548 hb4548 => va (op_cmp rfl rfl (congrArg some hb4548)) <| ds <| ?_
    replace h := iC h
    rcases h with ⟨c4553, h⟩ | ⟨c4553, h⟩
    · cases lT c4553 hb4548
      refine ct <| sk <| sq <| VC.block <| sr <| vm rfl <| va (op_bits rfl rfl rfl) <| vs rfl <| nx <| vm rfl <| va (op_shr rfl rfl (by decide) rfl) <| vs rfl <| nx <| vm rfl <| VL.letter (((Go.bits .and .u32 i4539 1) == 1)) fun b4556 hb4556 => va (op_cmp rfl rfl (congrArg some hb4556)) <| dt <| ?_
      replace h := iC h
      rcases h with ⟨c4557, h⟩ | ⟨c4557, h⟩
      · obtain rfl : b4556 = true := hb4556.symm.trans (beq_iff_eq.2 c4557)
        refine ct <| rg <| vm rfl <| va (op_bits rfl rfl rfl) <| vs rfl <| dn <| VN.block <| tr <| va (op_ari64 rfl rfl rfl) <| vm rfl <| dn <| VN.again [0, 1] [] (ihl9 (Go.bits .xor .u32 (i4539.fdiv (2 ^ min (1 : Int).toNat IntKind.u32.bits)) 2197175160) (wrap64 (i4540 + 1)) h)
      obtain rfl : b4556 = false := hb4556.symm.trans (beq_eq_false_iff_ne.2 c4557)
      refine cf <| VC.skip <| VN.block <| tr <| va (op_ari64 rfl rfl rfl) <| vm rfl <| dn <| VN.again [0, 1] [] (ihl9 (i4539.fdiv (2 ^ min (1 : Int).toNat IntKind.u32.bits)) (wrap64 (i4540 + 1)) h)
    cases lF c4553 hb4548
    refine cf <| VC.exit <| VX.then <| VX.then <| VX.hit <| tr <| vm rfl <| vm rfl <| ?_
    replace h := iN h
    obtain ⟨c4558, h⟩ := h
    replace h := iN h
    obtain ⟨c4559, h⟩ := h
    refine va (op_indexAddrA Try.underlying147 TI108 rfl rfl c4558 c4559) <| ?_
    replace h := iN h
    obtain ⟨c4560, h⟩ := h
    refine s1 (o_storeE 0 rfl rfl rfl TI108 c4560) <| dn <| VN.block <| tr <| va (op_ari rfl rfl rfl) <| vm rfl <| dn <| VN.again [0, 1] [] (ihl5 (IntKind.u32.wrap (i4367 + 1)) (l4368.set i4367.toNat i4539) h)
  cases lF c4468 hb4464
  refine cf <| VC.exit <| VX.then <| VX.then <| VX.hit <| tx <| ?_
  replace h := iN h
  obtain ⟨c4561, h⟩ := h
  refine va (op_loadA 0 rfl rfl TI147 c4561) <| ?_
  replace h := iN h
  obtain ⟨c4562, h⟩ := h
  refine s1 (o_storeA 1 rfl rfl rfl TI147 c4561 c4562) <| dt <| VC.ret <| ?_
  obtain rfl := Option.some.inj h
  exact rf [.cell 0 147] [] (.cellA 1 rfl rfl TI147 c4561 .nil) ⟨rfl, rfl, rfl⟩

theorem check_On.ok (k : Nat) (a0 : Int) (a1 : ByteArray)  (r1 : Int) (h : check_On.f k a0 a1 = some r1) :
    VCalls Try.prog 100 [.int .u32 a0, .string a1] [] (fun v G own => v = .int .u32 r1 ∧ G = [] ∧ own = []) := by
  refine VCalls.intro Try.func100 rfl (len rfl) fun E hC hW hD hU => ?_
  unfold check_On.f at h
  refine sr <| vs rfl <| nx <| ?_
  replace h := bd h
  obtain ⟨r4563, hA4564, h⟩ := h
  refine sC (o_call0 FO102 (check_Table.ok k r4563 hA4564) rfl rfl (ltn rfl) (All_of .nil)) <| ?_
  rintro _ _ _ ⟨rfl, rfl, rfl⟩
  refine sG (o_alloc Z147 ZL147) fun g4565 => ?_
  replace h := iN h
  obtain ⟨c4566, h⟩ := h
  replace h := iN h
  obtain ⟨c4567, h⟩ := h
  refine s1 (o_storeA 0 rfl rfl rfl TI147 c4566 c4567) <| nx <| vm rfl <| va (op_bits rfl rfl rfl) <| vs rfl <| ds <| sr <| vm rfl <| va (op_lens Try.underlying9 rfl) <| vm rfl <| dt <| VC.block <|
   VC.loop2 (fun (i4600 : Int) (i4601 : Int) => ⟨29, [(0, .int .u32 i4600), (1, .string a1), (4, .int .u32 0), (5, pt g4565 0), (11, iv (a1.size : Int)), (12, iv i4601)], [], [(g4565, 147, ints .u32 r4563)], []⟩) (fun (ml1 : Nat) (i4600 : Int) (i4601 : Int) => check_On.l1 k a1 r4563 ml1 i4600 i4601 = some r1) k (Go.bits .xor .u32 a0 4294967295) 0 [0] [] h ⟨rfl, ⟨rfl, rfl, rfl, rfl, rfl, rfl, trivial⟩, trivial, rfl, by decide, rfl, by decide⟩ (by intros; simp [check_On.l1]) <|
   ?_
  clear h
  intro ml1 ihl1 i4600 i4601 h
  simp only [check_On.l1] at h
  refine sr <| VL.letter (decide (i4601 < (a1.size : Int))) fun b4610 hb4610 => va (op_cmp rfl rfl (congrArg some hb4610)) <| ds <| ?_
  replace h := iC h
  rcases h with ⟨c4612, h⟩ | ⟨c4612, h⟩
  · cases lT c4612 hb4610
    refine ct <| sk <| sq <| VC.block <| sr <| vm rfl <| vs rfl <| dr <| vm rfl <| va (op_shr rfl rfl (by decide) rfl) <| vm rfl <| va (op_conv Try.underlying108 Try.underlying5 rfl rfl) <| vm rfl <| vm rfl <| ?_
    replace h := iN h
    obtain ⟨c4613, h⟩ := h
    replace h := iN h
    obtain ⟨c4614, h⟩ := h
    refine va (op_indexS Try.underlying9 rfl rfl c4613 c4614 rfl) <| va (op_bits rfl rfl rfl) <| ?_
    replace h := iN h
    obtain ⟨c4615, h⟩ := h
    replace h := iN h
    obtain ⟨c4616, h⟩ := h
    refine va (op_indexAddrA Try.underlying147 TI108 rfl rfl c4615 c4616) <| ?_
    replace h := bd h
    obtain ⟨t4617, ht4617, h⟩ := h
    refine va (op_loadE 0 rfl rfl TI108 ht4617) <| va (op_bits rfl rfl rfl) <| vs rfl <| dn <| VN.block <| tr <| va (op_ari64 rfl rfl rfl) <| vm rfl <| dn <| VN.again [0] [] (ihl1 (Go.bits .xor .u32 (i4600.fdiv (2 ^ min (8 : Int).toNat IntKind.u32.bits)) t4617) (wrap64 (i4601 + 1)) h)
  cases lF c4612 hb4610
  refine cf <| VC.exit <| VX.then <| VX.then <| VX.hit <| tx <| vm rfl <| va (op_bits rfl rfl rfl) <| vs rfl <| dt <| VC.ret <| ?_
  obtain rfl := Option.some.inj h
  exact rq 4 rfl ⟨rfl, rfl, rfl⟩

theorem check_Of.ok (k : Nat) (a0 : ByteArray)  (r1 : Int) (h : check_Of.f k a0 = some r1) :
    VCalls Try.prog 90 [.string a0] [] (fun v G own => v = .int .u32 r1 ∧ G = [] ∧ own = []) := by
  refine VCalls.intro Try.func90 rfl (len rfl) fun E hC hW hD hU => ?_
  unfold check_Of.f at h
  refine sr <| vs rfl <| nx <| vm rfl <| ?_
  replace h := bd h
  obtain ⟨t4618, hA4619, h⟩ := h
  refine sC (o_call0 FO100 (check_On.ok k 0 a0 t4618 hA4619) rfl rfl (ltn rfl) (All_of .nil)) <| ?_
  rintro _ _ _ ⟨rfl, rfl, rfl⟩
  refine vs rfl <| dt <| VC.ret <| ?_
  obtain rfl := Option.some.inj h
  exact rq 2 rfl ⟨rfl, rfl, rfl⟩

theorem check_Bytes.ok (k : Nat) (a0 : Int)  (r1 : ByteArray) (h : check_Bytes.f k a0 = some r1) :
    VCalls Try.prog 89 [.int .u32 a0] [] (fun v G own => v = .string r1 ∧ G = [] ∧ own = []) := by
  refine VCalls.intro Try.func89 rfl (len rfl) fun E hC hW hD hU => ?_
  unfold check_Bytes.f at h
  refine sr <| vs rfl <| nx <| sG (o_alloc Z145 ZL145) fun g4622 => ds <| sr <| vm rfl <| dt <| VC.block <|
   VC.loop2 (fun (i4645 : Int) (l4646 : List Int) => ⟨18, [(0, .int .u32 a0), (2, .string (⟨#[]⟩ : ByteArray)), (3, pt g4622 0), (5, iv i4645)], [], [(g4622, 145, ints .u8 l4646)], []⟩) (fun (ml1 : Nat) (i4645 : Int) (l4646 : List Int) => check_Bytes.l1 k a0 ml1 i4645 l4646 = some r1) k 0 (List.replicate 4 (0 : Int)) [0] [] h ⟨rfl, ⟨rfl, rfl, rfl, rfl, trivial⟩, trivial, rfl, by decide, rfl, by decide⟩ (by intros; simp [check_Bytes.l1]) <|
   ?_
  clear h
  intro ml1 ihl1 i4645 l4646 h
  simp only [check_Bytes.l1] at h
  refine sr <| VL.letter (decide (i4645 < 4)) fun b4654 hb4654 => va (op_cmp rfl rfl (congrArg some hb4654)) <| ds <| ?_
  replace h := iC h
  rcases h with ⟨c4657, h⟩ | ⟨c4657, h⟩
  · cases lT c4657 hb4654
    refine ct <| sk <| sq <| VC.block <| sr <| vm rfl <| vs rfl <| dr <| vm rfl <| vm rfl <| vm rfl <| va (op_ari64 rfl rfl rfl) <| ?_
    replace h := iN h
    obtain ⟨c4658, h⟩ := h
    refine va (op_shr rfl rfl c4658 rfl) <| va (op_conv Try.underlying108 Try.underlying5 rfl rfl) <| ?_
    replace h := iN h
    obtain ⟨c4659, h⟩ := h
    replace h := iN h
    obtain ⟨c4660, h⟩ := h
    refine va (op_indexAddrA Try.underlying145 TI5 rfl rfl c4659 c4660) <| ?_
    replace h := iN h
    obtain ⟨c4661, h⟩ := h
    refine s1 (o_storeE 0 rfl rfl rfl TI5 c4661) <| dn <| VN.block <| tr <| va (op_ari64 rfl rfl rfl) <| vm rfl <| dn <| VN.again [0] [] (ihl1 (wrap64 (i4645 + 1)) (l4646.set i4645.toNat (IntKind.u8.wrap (a0.fdiv (2 ^ min (wrap64 (8 * i4645)).toNat IntKind.u32.bits)))) h)
  cases lF c4657 hb4654
  refine cf <| VC.exit <| VX.then <| VX.then <| VX.hit <| tx <| va (op_sliceB Try.underlying145 TI5 rfl) <| ?_
  replace h := iN h
  obtain ⟨c4662, h⟩ := h
  refine va (op_bytesStrB0 0 Try.underlying41 Try.underlying9 Try.underlying5 rfl rfl c4662) <| vs rfl <| dt <| VC.ret <| ?_
  obtain rfl := Option.some.inj h
  exact rq 2 rfl ⟨rfl, rfl, rfl⟩

end Go.Proofs.Ytipeglbeongfmaa.PJournalOpens
