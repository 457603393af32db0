/- Written by a program of this repo: what the program's functions do, each as a Lean function, shown of the loaded code; or a statement's row over that; no condition of its own. -/
import Derived.Test.YtipeglbeongfmaaGreatPJournalCrashesx3
namespace Go.Proofs.YtipeglbeongfmaaGreat.PJournalCrashes
open Go Go.RowKit Go.Proofs.YtipeglbeongfmaaGreatV
set_option linter.unusedVariables false
set_option linter.unusedSimpArgs false
set_option maxHeartbeats 4000000
set_option maxRecDepth 100000

theorem journal_begin.ok (a0 : Int) (a1 : Int)  (r1 : Int) (h : journal_begin.f a0 a1 = some r1) :
    VCalls Tryz.prog 68 [iv a0, iv a1] [] (fun v G own => v = iv r1 ∧ G = [] ∧ own = []) := by
  refine VCalls.intro Tryz.func68 rfl (len rfl) fun E hC hW hD hU => ?_
  unfold journal_begin.f at h
  refine sr <| vs rfl <| nx <| vm rfl <| vm rfl <| va (op_ari64 rfl rfl rfl) <| va (op_quo rfl rfl (by decide) rfl) <| va (op_ari64 rfl rfl rfl) <| va (op_ari64 rfl rfl rfl) <| vs rfl <| dt <| VC.ret <| ?_
  obtain rfl := Option.some.inj h
  exact rq 4 rfl ⟨rfl, rfl, rfl⟩

def lay_70_ren : Go.Shelf.Ren := ⟨fun | 156 => 70 | 165 => 84 | 166 => 73 | 169 => 74 | 240 => 93 | 241 => 99 | 276 => 104 | 277 => 106 | n => n, fun | 31 => 22 | 9 => 9 | 3 => 3 | 4 => 4 | 0 => 0 | 20 => 20 | 72 => 102 | 76 => 107 | 70 => 100 | 37 => 68 | 75 => 106 | 127 => 128 | 164 => 142 | 5 => 5 | 80 => 84 | n => n, fun | n => n⟩
theorem lay_70 : Go.Proofs.Lays.n156 Tryz.prog lay_70_ren where
  mixed := by kernel_rfl
  f156 := Tryz.func70.trans (congrArg some (by kernel_rfl))
  f165 := Tryz.func84.trans (congrArg some (by kernel_rfl))
  f166 := Tryz.func73.trans (congrArg some (by kernel_rfl))
  f169 := Tryz.func74.trans (congrArg some (by kernel_rfl))
  f240 := Tryz.func93.trans (congrArg some (by kernel_rfl))
  f241 := Tryz.func99.trans (congrArg some (by kernel_rfl))
  f276 := Tryz.func104.trans (congrArg some (by kernel_rfl))
  f277 := Tryz.func106.trans (congrArg some (by kernel_rfl))
  t0 := Tryz.underlying0
  a0 := Tryz.isAgg0
  z0 := Tryz.sizeOf0
  v0 := Tryz.zeroValue0
  t3 := Tryz.underlying3
  a3 := Tryz.isAgg3
  z3 := Tryz.sizeOf3
  v3 := Tryz.zeroValue3
  t4 := Tryz.underlying4
  a4 := Tryz.isAgg4
  z4 := Tryz.sizeOf4
  v4 := Tryz.zeroValue4
  t9 := Tryz.underlying9
  a9 := Tryz.isAgg9
  z9 := Tryz.sizeOf9
  v9 := Tryz.zeroValue9
  t20 := Tryz.underlying20
  a20 := Tryz.isAgg20
  z20 := Tryz.sizeOf20
  v20 := Tryz.zeroValue20
  t31 := Tryz.underlying22
  a31 := Tryz.isAgg22
  z31 := Tryz.sizeOf22
  v31 := Tryz.zeroValue22
  t37 := Tryz.underlying68
  a37 := Tryz.isAgg68
  z37 := Tryz.sizeOf68
  v37 := Tryz.zeroValue68
  t70 := Tryz.underlying100
  a70 := Tryz.isAgg100
  z70 := Tryz.sizeOf100
  v70 := Tryz.zeroValue100
  t72 := Tryz.underlying102
  a72 := Tryz.isAgg102
  z72 := Tryz.sizeOf102
  v72 := Tryz.zeroValue102
  t75 := Tryz.underlying106
  a75 := Tryz.isAgg106
  z75 := Tryz.sizeOf106
  v75 := Tryz.zeroValue106
  t76 := Tryz.underlying107
  a76 := Tryz.isAgg107
  z76 := Tryz.sizeOf107
  v76 := Tryz.zeroValue107
  t127 := Tryz.underlying128
  a127 := Tryz.isAgg128
  z127 := Tryz.sizeOf128
  v127 := Tryz.zeroValue128
  t164 := Tryz.underlying142
  a164 := Tryz.isAgg142
  z164 := Tryz.sizeOf142
  v164 := Tryz.zeroValue142
theorem lay_70x : Go.Proofs.Builder.Extra Tryz.prog lay_70_ren where
  sizeBuilder := by kernel_rfl
  liesBuilder := by kernel_rfl
  t5 := Tryz.underlying5
  a5 := Tryz.isAgg5
  z5 := Tryz.sizeOf5
  v5 := Tryz.zeroValue5
  infoByte := by kernel_rfl
  cellsByte := by kernel_rfl
  sizeByte := by kernel_rfl
  neB5 := by decide

theorem strings_Join.ok (l0 : List ByteArray) (s : ByteArray) (v0 : Value) (r1 : ByteArray) (h : strings_Join.f l0 s = some r1) :
    VCalls Tryz.prog 70 [v0, .string s] [.row v0 1 (l0.map enc_str)] (fun v G own => v = .string r1 ∧ G = [] ∧ own = []) := by
  unfold strings_Join.f at h
  by_cases hc : ¬ (l0.length ≤ 140737488355328 ∧ (Go.Lib.join (l0.map (·.data.toList)) s.data.toList).length ≤ 140737488355328)
  · rw [if_neg hc] at h; cases h
  replace hc := Decidable.not_not.1 hc
  rw [if_pos hc] at h
  obtain rfl := Option.some.inj h
  clear h
  intro C w hC hF
  obtain ⟨hfl, A, c, hv, h1, h2, h3, h4⟩ := hF _ (List.mem_singleton.2 rfl)
  subst hv
  rw [lenm] at h1 h3 ⊢
  cases l0 with
  | nil => exact (Go.Proofs.Any.strings_Join_none lay_70 lay_70x A c s w).mono fun e w' hq => ⟨_, [], [], hq.1, ⟨rfl, rfl, rfl⟩, by simp, by simp, by simp [ownBs], hq.2 ▸ Below.refl _ _⟩
  | cons x xs =>
    obtain ⟨ad, rfl, hCa⟩ := h3 (by simp)
    have hcell : ∀ (j : Nat) y, (x :: xs)[j]? = some y → w.cell? (ad.add j) = some (.string y) := by
      intro j y hy
      have := h4 j (enc_str y) (by rw [List.getElem?_map, hy]; rfl) ad rfl 0 (.string y) rfl
      simpa using this
    have h0 := hcell 0 x rfl
    have hadd : ad.add 0 = ad := rfl
    rw [hadd] at h0
    obtain ⟨bk, o, sp⟩ := ad
    have hsp : sp = none := by
      cases sp with
      | none => rfl
      | some q =>
        exfalso
        unfold World.cell? at h0
        split at h0
        · simp at h0
        · cases h0
    subst hsp
    refine (Go.Proofs.Any.strings_Join lay_70 lay_70x bk o c (x :: xs) s w (fun j y hy => ?_) (World.block_lt_of_cell? _ _ h0) hc.1 h1 hc.2).mono fun e w' hq => ⟨_, [], [], hq.1, ⟨rfl, rfl, rfl⟩, by simp, by simp, by simp [ownBs], hq.2⟩
    have := hcell j y hy
    rw [add_at] at this
    exact this

theorem pack_may.ok (a0 : Int)  (r1 : Bool) (h : pack_may.f a0 = some r1) :
    VCalls Tryz.prog 102 [iv a0] [] (fun v G own => v = .bool r1 ∧ G = [] ∧ own = []) := by
  refine VCalls.intro Tryz.func102 rfl (len rfl) fun E hC hW hD hU => ?_
  unfold pack_may.f at h
  refine sr <| vs rfl <| nx <| vm rfl <| VL.letter (decide (a0 ≥ (-1152921504606846976))) fun b2255 hb2255 => va (op_cmp rfl rfl (congrArg some hb2255)) <| vm rfl <| ?_
  replace h := iC h
  rcases h with ⟨c2256, h⟩ | ⟨c2256, h⟩
  · cases lT c2256 hb2255
    refine vm rfl <| VL.letter (decide (a0 ≤ 1152921504606846976)) fun b2257 hb2257 => va (op_cmp rfl rfl (congrArg some hb2257)) <| va (op_pick rfl rfl) <| vs rfl <| dt <| VC.ret <| ?_
    obtain rfl := Option.some.inj h
    subst hb2257
    exact rq 2 rfl ⟨rfl, rfl, rfl⟩
  cases lF c2256 hb2255
  refine un rfl <| un rfl <| va (op_pick rfl rfl) <| vs rfl <| dt <| VC.ret <| ?_
  obtain rfl := Option.some.inj h
  exact rq 2 rfl ⟨rfl, rfl, rfl⟩

theorem pack_ReadNumber.ok (k : Nat) (a0 : ByteArray)  (r1 : Int) (r2 : ByteArray) (r3 : Int) (h : pack_ReadNumber.f k a0 = some (r1, r2, r3)) :
    VCalls Tryz.prog 108 [.string a0] [] (fun v G own => v = .tuple #[iv r1, .string r2, iv r3] ∧ G = [] ∧ own = []) := by
  refine VCalls.intro Tryz.func108 rfl (len rfl) fun E hC hW hD hU => ?_
  unfold pack_ReadNumber.f at h
  refine sr <| vs rfl <| vs rfl <| vs rfl <| nx <| vs rfl <| ds <| sr <| vm rfl <| va (op_lens Tryz.underlying9 rfl) <| va (op_min rfl rfl) <| vm rfl <| dt <| VC.block <|
   VC.loop2 (fun (i3349 : Int) (i3350 : Int) => ⟨56, [(0, .string a0), (2, iv 0), (3, .string (⟨#[]⟩ : ByteArray)), (4, iv 0), (5, iv i3349), (11, iv (mn (a0.size : Int) 9)), (12, iv i3350)], [], [], []⟩) (fun (ml3 : Nat) (i3349 : Int) (i3350 : Int) => pack_ReadNumber.l3 k a0 ml3 i3349 i3350 = some (r1, r2, r3)) k 0 0 [] [] h ⟨rfl, ⟨rfl, rfl, rfl, rfl, rfl, rfl, rfl, trivial⟩, trivial, rfl, by decide, rfl, by decide⟩ (by intros; simp [pack_ReadNumber.l3]) <|
   ?_
  clear h
  intro ml3 ihl3 i3349 i3350 h
  simp only [pack_ReadNumber.l3] at h
  refine sr <| VL.letter (decide (i3350 < (mn (a0.size : Int) 9))) fun b3652 hb3652 => va (op_cmp rfl rfl (congrArg some hb3652)) <| ds <| ?_
  replace h := iC h
  rcases h with ⟨c3658, h⟩ | ⟨c3658, h⟩
  · cases lT c3658 hb3652
    refine ct <| sk <| sq <| VC.block <| sr <| vm rfl <| vs rfl <| nx <| vm rfl <| vm rfl <| ?_
    replace h := iN h
    obtain ⟨c3808, h⟩ := h
    replace h := iN h
    obtain ⟨c3809, h⟩ := h
    refine va (op_indexS Tryz.underlying9 rfl rfl c3808 c3809 rfl) <| va (op_conv Tryz.underlying5 Tryz.underlying3 rfl (i64w _)) <| vs rfl <| nx <| vm rfl <| vm rfl <| va (op_rem rfl rfl (by decide) rfl) <| vm rfl <| va (op_ari64 rfl rfl rfl) <| ?_
    replace h := iN h
    obtain ⟨c3810, h⟩ := h
    refine va (op_shl rfl rfl c3810 rfl) <| va (op_bits rfl rfl rfl) <| vs rfl <| ds <| sr <| vm rfl <| VL.letter (decide ((wrap64 (bt a0 i3350)) ≥ 128)) fun b3813 hb3813 => va (op_cmp rfl rfl (congrArg some hb3813)) <| dt <| ?_
    replace h := iC h
    rcases h with ⟨c3814, h⟩ | ⟨c3814, h⟩
    · cases lT c3814 hb3813
      refine ct <| VC.exit <| VX.then <| VX.hit <| tr <| va (op_ari64 rfl rfl rfl) <| vm rfl <| dn <| VN.again [] [] (ihl3 (Go.bits .or .i64 i3349 (IntKind.i64.wrap (((wrap64 (bt a0 i3350)).tmod 128) * 2 ^ min (wrap64 (7 * i3350)).toNat IntKind.i64.bits))) (wrap64 (i3350 + 1)) h)
    cases lF c3814 hb3813
    refine cf <| sk <| sr <| vm rfl <| va (op_quo rfl rfl (by decide) rfl) <| vs rfl <| dt <|
     VC.join2 (fun (i3911 : Int) (q3912 : Bool) => ⟨56, [(0, .string a0), (2, iv 0), (3, .string (⟨#[]⟩ : ByteArray)), (4, iv 0), (5, iv (Go.bits .or .i64 i3349 (IntKind.i64.wrap (((wrap64 (bt a0 i3350)).tmod 128) * 2 ^ min (wrap64 (7 * i3350)).toNat IntKind.i64.bits)))), (6, iv i3350), (7, iv (wrap64 (bt a0 i3350))), (8, iv i3911), (11, iv (mn (a0.size : Int) 9)), (12, iv i3350), (13, .bool true), (14, iv i3350), (15, .string a0), (16, iv i3350), (17, .int .u8 (bt a0 i3350)), (18, iv (wrap64 (bt a0 i3350))), (19, iv i3349), (20, iv (wrap64 (bt a0 i3350))), (21, iv ((wrap64 (bt a0 i3350)).tmod 128)), (22, iv i3350), (23, iv (wrap64 (7 * i3350))), (24, iv (IntKind.i64.wrap (((wrap64 (bt a0 i3350)).tmod 128) * 2 ^ min (wrap64 (7 * i3350)).toNat IntKind.i64.bits))), (25, iv (Go.bits .or .i64 i3349 (IntKind.i64.wrap (((wrap64 (bt a0 i3350)).tmod 128) * 2 ^ min (wrap64 (7 * i3350)).toNat IntKind.i64.bits)))), (26, iv (wrap64 (bt a0 i3350))), (27, .bool false), (28, iv (Go.bits .or .i64 i3349 (IntKind.i64.wrap (((wrap64 (bt a0 i3350)).tmod 128) * 2 ^ min (wrap64 (7 * i3350)).toNat IntKind.i64.bits)))), (29, iv (IntKind.i64.wrap ((Go.bits .or .i64 i3349 (IntKind.i64.wrap (((wrap64 (bt a0 i3350)).tmod 128) * 2 ^ min (wrap64 (7 * i3350)).toNat IntKind.i64.bits))).tdiv 2))), (30, iv (Go.bits .or .i64 i3349 (IntKind.i64.wrap (((wrap64 (bt a0 i3350)).tmod 128) * 2 ^ min (wrap64 (7 * i3350)).toNat IntKind.i64.bits)))), (31, iv ((Go.bits .or .i64 i3349 (IntKind.i64.wrap (((wrap64 (bt a0 i3350)).tmod 128) * 2 ^ min (wrap64 (7 * i3350)).toNat IntKind.i64.bits))).tmod 2)), (32, .bool q3912)], [], [], []⟩) (fun (i3911 : Int) (q3912 : Bool) => pack_ReadNumber.j5 k a0 i3350 i3911 q3912 = some (r1, r2, r3)) ?_ ?_
    · refine sr <| vm rfl <| va (op_rem rfl rfl (by decide) rfl) <| VL.letter ((((Go.bits .or .i64 i3349 (IntKind.i64.wrap (((wrap64 (bt a0 i3350)).tmod 128) * 2 ^ min (wrap64 (7 * i3350)).toNat IntKind.i64.bits))).tmod 2) == 1)) fun b3909 hb3909 => va (op_cmp rfl rfl (congrArg some hb3909)) <| dt <| ?_
      replace h := iC h
      rcases h with ⟨c3910, h⟩ | ⟨c3910, h⟩
      · obtain rfl : b3909 = true := hb3909.symm.trans (beq_iff_eq.2 c3910)
        refine ct <| rg <| vm rfl <| va (op_neg rfl (i64w _)) <| va (op_ari64 rfl rfl rfl) <| vs rfl <| dn <|
         VN.meet2 (wrap64 ((wrap64 (0 - (IntKind.i64.wrap ((Go.bits .or .i64 i3349 (IntKind.i64.wrap (((wrap64 (bt a0 i3350)).tmod 128) * 2 ^ min (wrap64 (7 * i3350)).toNat IntKind.i64.bits))).tdiv 2)))) - 1)) true [] [] h
      obtain rfl : b3909 = false := hb3909.symm.trans (beq_eq_false_iff_ne.2 c3910)
      refine cf <| VC.skip <| VN.meet2 (IntKind.i64.wrap ((Go.bits .or .i64 i3349 (IntKind.i64.wrap (((wrap64 (bt a0 i3350)).tmod 128) * 2 ^ min (wrap64 (7 * i3350)).toNat IntKind.i64.bits))).tdiv 2)) false [] [] h
    clear h
    intro i3911 q3912 h
    unfold pack_ReadNumber.j5 at h
    refine sq <| sr <| vm rfl <| VL.letter (((wrap64 (bt a0 i3350)) == 0)) fun b3943 hb3943 => va (op_cmp rfl rfl (congrArg some hb3943)) <| vm rfl <| ?_
    replace h := iC h
    rcases h with ⟨c3944, h⟩ | ⟨c3944, h⟩
    · obtain rfl : b3943 = true := hb3943.symm.trans (beq_iff_eq.2 c3944)
      refine vm rfl <| VL.letter (decide (i3350 > 0)) fun b3945 hb3945 => va (op_cmp rfl rfl (congrArg some hb3945)) <| va (op_pick rfl rfl) <| vm rfl <| ?_
      replace h := iC h
      rcases h with ⟨c3946, h⟩ | ⟨c3946, h⟩
      · cases lT c3946 hb3945
        refine un rfl <| un rfl <| un rfl <| va (op_pick rfl rfl) <| dt <| ct <| sr <| vs rfl <| vs rfl <| vs rfl <| dt <| VC.ret <| VR.then <| VR.block <| VR.then <| VR.then <| VR.block <| VR.then <| ?_
        simp only [Option.some.injEq, Prod.mk.injEq] at h
        obtain ⟨rfl, rfl, rfl⟩ := h
        exact rf [.tmp 2, .tmp 3, .tmp 4] [] (.tmp rfl (.tmp rfl (.tmp rfl .nil))) ⟨rfl, rfl, rfl⟩
      cases lF c3946 hb3945
      refine vm rfl <| ?_
      replace h := bd h
      obtain ⟨t3947, hA3948, h⟩ := h
      refine sC (o_call0 FO102 (pack_may.ok i3911 t3947 hA3948) rfl rfl (ltn rfl) (All_of .nil)) <| ?_
      rintro _ _ _ ⟨rfl, rfl, rfl⟩
      replace h := iC h
      rcases h with ⟨c3949, h⟩ | ⟨c3949, h⟩
      · obtain rfl := c3949
        refine va (op_not rfl rfl) <| va (op_pick rfl rfl) <| dt <| cf <| sk <| ?_
        replace h := iN h
        obtain ⟨c3950, h⟩ := h
        replace h := iN h
        obtain ⟨c3951, h⟩ := h
        refine VC.join0 (⟨56, [(0, .string a0), (2, iv i3911), (3, .string (a0.extract ((wrap64 (i3350 + 1)).toNat) a0.size)), (4, iv 0), (5, iv (Go.bits .or .i64 i3349 (IntKind.i64.wrap (((wrap64 (bt a0 i3350)).tmod 128) * 2 ^ min (wrap64 (7 * i3350)).toNat IntKind.i64.bits)))), (6, iv i3350), (7, iv (wrap64 (bt a0 i3350))), (8, iv i3911), (11, iv (mn (a0.size : Int) 9)), (12, iv i3350), (13, .bool true), (14, iv i3350), (15, .string a0), (16, iv i3350), (17, .int .u8 (bt a0 i3350)), (18, iv (wrap64 (bt a0 i3350))), (19, iv i3349), (20, iv (wrap64 (bt a0 i3350))), (21, iv ((wrap64 (bt a0 i3350)).tmod 128)), (22, iv i3350), (23, iv (wrap64 (7 * i3350))), (24, iv (IntKind.i64.wrap (((wrap64 (bt a0 i3350)).tmod 128) * 2 ^ min (wrap64 (7 * i3350)).toNat IntKind.i64.bits))), (25, iv (Go.bits .or .i64 i3349 (IntKind.i64.wrap (((wrap64 (bt a0 i3350)).tmod 128) * 2 ^ min (wrap64 (7 * i3350)).toNat IntKind.i64.bits)))), (26, iv (wrap64 (bt a0 i3350))), (27, .bool false), (28, iv (Go.bits .or .i64 i3349 (IntKind.i64.wrap (((wrap64 (bt a0 i3350)).tmod 128) * 2 ^ min (wrap64 (7 * i3350)).toNat IntKind.i64.bits)))), (29, iv (IntKind.i64.wrap ((Go.bits .or .i64 i3349 (IntKind.i64.wrap (((wrap64 (bt a0 i3350)).tmod 128) * 2 ^ min (wrap64 (7 * i3350)).toNat IntKind.i64.bits))).tdiv 2))), (30, iv (Go.bits .or .i64 i3349 (IntKind.i64.wrap (((wrap64 (bt a0 i3350)).tmod 128) * 2 ^ min (wrap64 (7 * i3350)).toNat IntKind.i64.bits)))), (31, iv ((Go.bits .or .i64 i3349 (IntKind.i64.wrap (((wrap64 (bt a0 i3350)).tmod 128) * 2 ^ min (wrap64 (7 * i3350)).toNat IntKind.i64.bits))).tmod 2)), (32, .bool q3912), (36, iv (wrap64 (bt a0 i3350))), (37, .bool true), (38, .bool true), (39, iv i3350), (40, .bool false), (41, .bool false), (42, .bool false), (43, iv i3911), (44, .bool true), (45, .bool false), (46, .bool false), (47, iv i3911), (48, .string a0), (49, iv i3350), (50, iv (wrap64 (i3350 + 1))), (51, .string (a0.extract ((wrap64 (i3350 + 1)).toNat) a0.size))], [], [], []⟩) (True) ?_ ?_
        · exact dw ⟨0, [], [], [], []⟩ 8 <| av 0 1 rfl (mv rfl) <| av 1 3 rfl (mv rfl) <| av 2 7 rfl (mv rfl) <| av 3 15 rfl (op_ari64 rfl rfl rfl) <|
           av 4 31 rfl (op_sliceS ((wrap64 (i3350 + 1)).toNat) a0.size Tryz.underlying9 rfl ⟨⟨_, _, rfl, c3950, rfl⟩, rfl, tN (a := (wrap64 (i3350 + 1))) (b := (a0.size : Int)) rfl rfl c3951, Nat.le_refl _⟩ rfl) <| av 5 63 rfl (ag rfl) <| av 6 127 rfl (ag rfl) <| av 7 255 rfl (ag rfl) <| ad <|
           VN.meet0 [] [] trivial
        intro _
        refine VC.ret <| VR.block <| VR.then <| VR.then <| VR.block <| VR.then <| ?_
        simp only [Option.some.injEq, Prod.mk.injEq] at h
        obtain ⟨rfl, rfl, rfl⟩ := h
        exact rf [.tmp 2, .tmp 3, .tmp 4] [] (.tmp rfl (.tmp rfl (.tmp rfl .nil))) ⟨rfl, rfl, rfl⟩
      obtain rfl := Bool.eq_false_iff.2 c3949
      refine va (op_not rfl rfl) <| va (op_pick rfl rfl) <| dt <| ct <| sr <| vs rfl <| vs rfl <| vs rfl <| dt <| VC.ret <| VR.then <| VR.block <| VR.then <| VR.then <| VR.block <| VR.then <| ?_
      simp only [Option.some.injEq, Prod.mk.injEq] at h
      obtain ⟨rfl, rfl, rfl⟩ := h
      exact rf [.tmp 2, .tmp 3, .tmp 4] [] (.tmp rfl (.tmp rfl (.tmp rfl .nil))) ⟨rfl, rfl, rfl⟩
    obtain rfl : b3943 = false := hb3943.symm.trans (beq_eq_false_iff_ne.2 c3944)
    refine un rfl <| un rfl <| va (op_pick rfl rfl) <| vm rfl <| vm rfl <| ?_
    replace h := bd h
    obtain ⟨t3952, hA3953, h⟩ := h
    refine sC (o_call0 FO102 (pack_may.ok i3911 t3952 hA3953) rfl rfl (ltn rfl) (All_of .nil)) <| ?_
    rintro _ _ _ ⟨rfl, rfl, rfl⟩
    replace h := iC h
    rcases h with ⟨c3954, h⟩ | ⟨c3954, h⟩
    · obtain rfl := c3954
      refine va (op_not rfl rfl) <| va (op_pick rfl rfl) <| dt <| cf <| sk <| ?_
      replace h := iN h
      obtain ⟨c3955, h⟩ := h
      replace h := iN h
      obtain ⟨c3956, h⟩ := h
      refine VC.join0 (⟨56, [(0, .string a0), (2, iv i3911), (3, .string (a0.extract ((wrap64 (i3350 + 1)).toNat) a0.size)), (4, iv 0), (5, iv (Go.bits .or .i64 i3349 (IntKind.i64.wrap (((wrap64 (bt a0 i3350)).tmod 128) * 2 ^ min (wrap64 (7 * i3350)).toNat IntKind.i64.bits)))), (6, iv i3350), (7, iv (wrap64 (bt a0 i3350))), (8, iv i3911), (11, iv (mn (a0.size : Int) 9)), (12, iv i3350), (13, .bool true), (14, iv i3350), (15, .string a0), (16, iv i3350), (17, .int .u8 (bt a0 i3350)), (18, iv (wrap64 (bt a0 i3350))), (19, iv i3349), (20, iv (wrap64 (bt a0 i3350))), (21, iv ((wrap64 (bt a0 i3350)).tmod 128)), (22, iv i3350), (23, iv (wrap64 (7 * i3350))), (24, iv (IntKind.i64.wrap (((wrap64 (bt a0 i3350)).tmod 128) * 2 ^ min (wrap64 (7 * i3350)).toNat IntKind.i64.bits))), (25, iv (Go.bits .or .i64 i3349 (IntKind.i64.wrap (((wrap64 (bt a0 i3350)).tmod 128) * 2 ^ min (wrap64 (7 * i3350)).toNat IntKind.i64.bits)))), (26, iv (wrap64 (bt a0 i3350))), (27, .bool false), (28, iv (Go.bits .or .i64 i3349 (IntKind.i64.wrap (((wrap64 (bt a0 i3350)).tmod 128) * 2 ^ min (wrap64 (7 * i3350)).toNat IntKind.i64.bits)))), (29, iv (IntKind.i64.wrap ((Go.bits .or .i64 i3349 (IntKind.i64.wrap (((wrap64 (bt a0 i3350)).tmod 128) * 2 ^ min (wrap64 (7 * i3350)).toNat IntKind.i64.bits))).tdiv 2))), (30, iv (Go.bits .or .i64 i3349 (IntKind.i64.wrap (((wrap64 (bt a0 i3350)).tmod 128) * 2 ^ min (wrap64 (7 * i3350)).toNat IntKind.i64.bits)))), (31, iv ((Go.bits .or .i64 i3349 (IntKind.i64.wrap (((wrap64 (bt a0 i3350)).tmod 128) * 2 ^ min (wrap64 (7 * i3350)).toNat IntKind.i64.bits))).tmod 2)), (32, .bool q3912), (36, iv (wrap64 (bt a0 i3350))), (37, .bool false), (38, .bool false), (39, undef), (40, undef), (41, .bool false), (42, .bool false), (43, iv i3911), (44, .bool true), (45, .bool false), (46, .bool false), (47, iv i3911), (48, .string a0), (49, iv i3350), (50, iv (wrap64 (i3350 + 1))), (51, .string (a0.extract ((wrap64 (i3350 + 1)).toNat) a0.size))], [], [], []⟩) (True) ?_ ?_
      · exact dw ⟨0, [], [], [], []⟩ 8 <| av 0 1 rfl (mv rfl) <| av 1 3 rfl (mv rfl) <| av 2 7 rfl (mv rfl) <| av 3 15 rfl (op_ari64 rfl rfl rfl) <|
         av 4 31 rfl (op_sliceS ((wrap64 (i3350 + 1)).toNat) a0.size Tryz.underlying9 rfl ⟨⟨_, _, rfl, c3955, rfl⟩, rfl, tN (a := (wrap64 (i3350 + 1))) (b := (a0.size : Int)) rfl rfl c3956, Nat.le_refl _⟩ rfl) <| av 5 63 rfl (ag rfl) <| av 6 127 rfl (ag rfl) <| av 7 255 rfl (ag rfl) <| ad <|
         VN.meet0 [] [] trivial
      intro _
      refine VC.ret <| VR.block <| VR.then <| VR.then <| VR.block <| VR.then <| ?_
      simp only [Option.some.injEq, Prod.mk.injEq] at h
      obtain ⟨rfl, rfl, rfl⟩ := h
      exact rf [.tmp 2, .tmp 3, .tmp 4] [] (.tmp rfl (.tmp rfl (.tmp rfl .nil))) ⟨rfl, rfl, rfl⟩
    obtain rfl := Bool.eq_false_iff.2 c3954
    refine va (op_not rfl rfl) <| va (op_pick rfl rfl) <| dt <| ct <| sr <| vs rfl <| vs rfl <| vs rfl <| dt <| VC.ret <| VR.then <| VR.block <| VR.then <| VR.then <| VR.block <| VR.then <| ?_
    simp only [Option.some.injEq, Prod.mk.injEq] at h
    obtain ⟨rfl, rfl, rfl⟩ := h
    exact rf [.tmp 2, .tmp 3, .tmp 4] [] (.tmp rfl (.tmp rfl (.tmp rfl .nil))) ⟨rfl, rfl, rfl⟩
  cases lF c3658 hb3652
  refine cf <| VC.exit <| VX.then <| VX.then <| VX.hit <| ts <| sr <| vm rfl <| va (op_lens Tryz.underlying9 rfl) <| VL.letter (decide ((a0.size : Int) ≥ 9)) fun b3959 hb3959 => va (op_cmp rfl rfl (congrArg some hb3959)) <| dt <| ?_
  replace h := iC h
  rcases h with ⟨c3960, h⟩ | ⟨c3960, h⟩
  · cases lT c3960 hb3959
    refine ct <| sr <| vs rfl <| vs rfl <| vs rfl <| dt <| VC.ret <| VR.then <| ?_
    simp only [Option.some.injEq, Prod.mk.injEq] at h
    obtain ⟨rfl, rfl, rfl⟩ := h
    exact rf [.tmp 2, .tmp 3, .tmp 4] [] (.tmp rfl (.tmp rfl (.tmp rfl .nil))) ⟨rfl, rfl, rfl⟩
  cases lF c3960 hb3959
  refine cf <| sk <| sr <| vs rfl <| vs rfl <| vs rfl <| dt <| VC.ret <| ?_
  simp only [Option.some.injEq, Prod.mk.injEq] at h
  obtain ⟨rfl, rfl, rfl⟩ := h
  exact rf [.tmp 2, .tmp 3, .tmp 4] [] (.tmp rfl (.tmp rfl (.tmp rfl .nil))) ⟨rfl, rfl, rfl⟩

theorem check_Table.ok (k : Nat)   (r1 : List Int) (h : check_Table.f k = some r1) :
    VCalls Tryz.prog 109 [] [] (fun v G own => v = .agg (ints .u32 r1).toArray ∧ G = [] ∧ own = []) := by
  refine VCalls.intro Tryz.func109 rfl (len rfl) fun E hC hW hD hU => ?_
  unfold check_Table.f at h
  refine sr <| sG (o_alloc Z148 ZL148) fun g4000 => nx <| sG (o_alloc Z148 ZL148) fun g4001 => ds <| sr <| vm rfl <| dt <| VC.block <|
   VC.loop2 (fun (i4370 : Int) (l4371 : List Int) => ⟨25, [(0, pt g4000 0), (1, pt g4001 0), (5, .int .u32 i4370)], [], [(g4001, 148, ints .u32 l4371), (g4000, 148, ints .u32 (List.replicate 256 (0 : Int)))], []⟩) (fun (ml5 : Nat) (i4370 : Int) (l4371 : List Int) => check_Table.l5 k ml5 i4370 l4371 = some r1) k 0 (List.replicate 256 (0 : Int)) [0, 1] [] h ⟨rfl, ⟨rfl, rfl, rfl, trivial⟩, trivial, rfl, by decide, rfl, by decide⟩ (by intros; simp [check_Table.l5]) <|
   ?_
  clear h
  intro ml5 ihl5 i4370 l4371 h
  simp only [check_Table.l5] at h
  refine sr <| VL.letter (decide (i4370 < 256)) fun b4467 hb4467 => va (op_cmp rfl rfl (congrArg some hb4467)) <| ds <| ?_
  replace h := iC h
  rcases h with ⟨c4471, h⟩ | ⟨c4471, h⟩
  · cases lT c4471 hb4467
    refine ct <| sk <| sq <| VC.block <| sr <| vm rfl <| vs rfl <| nx <| vm rfl <| vs rfl <| ds <| sr <| vm rfl <| dt <| VC.block <|
     VC.loop2 (fun (i4542 : Int) (i4543 : Int) => ⟨25, [(0, pt g4000 0), (1, pt g4001 0), (2, .int .u32 i4370), (3, .int .u32 i4542), (5, .int .u32 i4370), (6, .bool true), (7, .int .u32 i4370), (8, .int .u32 i4370), (9, iv i4543)], [], [(g4001, 148, ints .u32 l4371), (g4000, 148, ints .u32 (List.replicate 256 (0 : Int)))], []⟩) (fun (ml9 : Nat) (i4542 : Int) (i4543 : Int) => check_Table.l9 k (check_Table.l5 k ml5) i4370 l4371 ml9 i4542 i4543 = some r1) k i4370 0 [0, 1] [] h ⟨rfl, ⟨rfl, rfl, rfl, rfl, rfl, rfl, rfl, rfl, rfl, trivial⟩, trivial, rfl, by decide, rfl, by decide⟩ (by intros; simp [check_Table.l9]) <|
     ?_
    clear h
    intro ml9 ihl9 i4542 i4543 h
    simp only [check_Table.l9] at h
    refine sr <| VL.letter (decide (i4543 < 8)) fun b4551 hb4551 => va (op_cmp rfl rfl (congrArg some hb4551)) <| ds <| ?_
    replace h := iC h
    rcases h with ⟨c4556, h⟩ | ⟨c4556, h⟩
    · cases lT c4556 hb4551
      refine ct <| sk <| sq <| VC.block <| sr <| vm rfl <| va (op_bits rfl rfl rfl) <| vs rfl <| nx <| vm rfl <| va (op_shr rfl rfl (by decide) rfl) <| vs rfl <| nx <| vm rfl <| VL.letter (((Go.bits .and .u32 i4542 1) == 1)) fun b4559 hb4559 => va (op_cmp rfl rfl (congrArg some hb4559)) <| dt <| ?_
      replace h := iC h
      rcases h with ⟨c4560, h⟩ | ⟨c4560, h⟩
      · obtain rfl : b4559 = true := hb4559.symm.trans (beq_iff_eq.2 c4560)
        refine ct <| rg <| vm rfl <| va (op_bits rfl rfl rfl) <| vs rfl <| dn <| VN.block <| tr <| va (op_ari64 rfl rfl rfl) <| vm rfl <| dn <| VN.again [0, 1] [] (ihl9 (Go.bits .xor .u32 (i4542.fdiv (2 ^ min (1 : Int).toNat IntKind.u32.bits)) 2197175160) (wrap64 (i4543 + 1)) h)
      obtain rfl : b4559 = false := hb4559.symm.trans (beq_eq_false_iff_ne.2 c4560)
      refine cf <| VC.skip <| VN.block <| tr <| va (op_ari64 rfl rfl rfl) <| vm rfl <| dn <| VN.again [0, 1] [] (ihl9 (i4542.fdiv (2 ^ min (1 : Int).toNat IntKind.u32.bits)) (wrap64 (i4543 + 1)) h)
    cases lF c4556 hb4551
    refine cf <| VC.exit <| VX.then <| VX.then <| VX.hit <| tr <| vm rfl <| vm rfl <| ?_
    replace h := iN h
    obtain ⟨c4561, h⟩ := h
    replace h := iN h
    obtain ⟨c4562, h⟩ := h
    refine va (op_indexAddrA Tryz.underlying148 TI64 rfl rfl c4561 c4562) <| ?_
    replace h := iN h
    obtain ⟨c4563, h⟩ := h
    refine s1 (o_storeE 0 rfl rfl rfl TI64 c4563) <| dn <| VN.block <| tr <| va (op_ari rfl rfl rfl) <| vm rfl <| dn <| VN.again [0, 1] [] (ihl5 (IntKind.u32.wrap (i4370 + 1)) (l4371.set i4370.toNat i4542) h)
  cases lF c4471 hb4467
  refine cf <| VC.exit <| VX.then <| VX.then <| VX.hit <| tx <| ?_
  replace h := iN h
  obtain ⟨c4564, h⟩ := h
  refine va (op_loadA 0 rfl rfl TI148 c4564) <| ?_
  replace h := iN h
  obtain ⟨c4565, h⟩ := h
  refine s1 (o_storeA 1 rfl rfl rfl TI148 c4564 c4565) <| dt <| VC.ret <| ?_
  obtain rfl := Option.some.inj h
  exact rf [.cell 0 148] [] (.cellA 1 rfl rfl TI148 c4564 .nil) ⟨rfl, rfl, rfl⟩

theorem check_On.ok (k : Nat) (a0 : Int) (a1 : ByteArray)  (r1 : Int) (h : check_On.f k a0 a1 = some r1) :
    VCalls Tryz.prog 103 [.int .u32 a0, .string a1] [] (fun v G own => v = .int .u32 r1 ∧ G = [] ∧ own = []) := by
  refine VCalls.intro Tryz.func103 rfl (len rfl) fun E hC hW hD hU => ?_
  unfold check_On.f at h
  refine sr <| vs rfl <| nx <| ?_
  replace h := bd h
  obtain ⟨r4566, hA4567, h⟩ := h
  refine sC (o_call0 FO109 (check_Table.ok k r4566 hA4567) rfl rfl (ltn rfl) (All_of .nil)) <| ?_
  rintro _ _ _ ⟨rfl, rfl, rfl⟩
  refine sG (o_alloc Z148 ZL148) fun g4568 => ?_
  replace h := iN h
  obtain ⟨c4569, h⟩ := h
  replace h := iN h
  obtain ⟨c4570, h⟩ := h
  refine s1 (o_storeA 0 rfl rfl rfl TI148 c4569 c4570) <| nx <| vm rfl <| va (op_bits rfl rfl rfl) <| vs rfl <| ds <| sr <| vm rfl <| va (op_lens Tryz.underlying9 rfl) <| vm rfl <| dt <| VC.block <|
   VC.loop2 (fun (i4603 : Int) (i4604 : Int) => ⟨29, [(0, .int .u32 i4603), (1, .string a1), (4, .int .u32 0), (5, pt g4568 0), (11, iv (a1.size : Int)), (12, iv i4604)], [], [(g4568, 148, ints .u32 r4566)], []⟩) (fun (ml1 : Nat) (i4603 : Int) (i4604 : Int) => check_On.l1 k a1 r4566 ml1 i4603 i4604 = some r1) k (Go.bits .xor .u32 a0 4294967295) 0 [0] [] h ⟨rfl, ⟨rfl, rfl, rfl, rfl, rfl, rfl, trivial⟩, trivial, rfl, by decide, rfl, by decide⟩ (by intros; simp [check_On.l1]) <|
   ?_
  clear h
  intro ml1 ihl1 i4603 i4604 h
  simp only [check_On.l1] at h
  refine sr <| VL.letter (decide (i4604 < (a1.size : Int))) fun b4613 hb4613 => va (op_cmp rfl rfl (congrArg some hb4613)) <| ds <| ?_
  replace h := iC h
  rcases h with ⟨c4615, h⟩ | ⟨c4615, h⟩
  · cases lT c4615 hb4613
    refine ct <| sk <| sq <| VC.block <| sr <| vm rfl <| vs rfl <| dr <| vm rfl <| va (op_shr rfl rfl (by decide) rfl) <| vm rfl <| va (op_conv Tryz.underlying64 Tryz.underlying5 rfl rfl) <| vm rfl <| vm rfl <| ?_
    replace h := iN h
    obtain ⟨c4616, h⟩ := h
    replace h := iN h
    obtain ⟨c4617, h⟩ := h
    refine va (op_indexS Tryz.underlying9 rfl rfl c4616 c4617 rfl) <| va (op_bits rfl rfl rfl) <| ?_
    replace h := iN h
    obtain ⟨c4618, h⟩ := h
    replace h := iN h
    obtain ⟨c4619, h⟩ := h
    refine va (op_indexAddrA Tryz.underlying148 TI64 rfl rfl c4618 c4619) <| ?_
    replace h := bd h
    obtain ⟨t4620, ht4620, h⟩ := h
    refine va (op_loadE 0 rfl rfl TI64 ht4620) <| va (op_bits rfl rfl rfl) <| vs rfl <| dn <| VN.block <| tr <| va (op_ari64 rfl rfl rfl) <| vm rfl <| dn <| VN.again [0] [] (ihl1 (Go.bits .xor .u32 (i4603.fdiv (2 ^ min (8 : Int).toNat IntKind.u32.bits)) t4620) (wrap64 (i4604 + 1)) h)
  cases lF c4615 hb4613
  refine cf <| VC.exit <| VX.then <| VX.then <| VX.hit <| tx <| vm rfl <| va (op_bits rfl rfl rfl) <| vs rfl <| dt <| VC.ret <| ?_
  obtain rfl := Option.some.inj h
  exact rq 4 rfl ⟨rfl, rfl, rfl⟩

theorem check_Of.ok (k : Nat) (a0 : ByteArray)  (r1 : Int) (h : check_Of.f k a0 = some r1) :
    VCalls Tryz.prog 92 [.string a0] [] (fun v G own => v = .int .u32 r1 ∧ G = [] ∧ own = []) := by
  refine VCalls.intro Tryz.func92 rfl (len rfl) fun E hC hW hD hU => ?_
  unfold check_Of.f at h
  refine sr <| vs rfl <| nx <| vm rfl <| ?_
  replace h := bd h
  obtain ⟨t4621, hA4622, h⟩ := h
  refine sC (o_call0 FO103 (check_On.ok k 0 a0 t4621 hA4622) rfl rfl (ltn rfl) (All_of .nil)) <| ?_
  rintro _ _ _ ⟨rfl, rfl, rfl⟩
  refine vs rfl <| dt <| VC.ret <| ?_
  obtain rfl := Option.some.inj h
  exact rq 2 rfl ⟨rfl, rfl, rfl⟩

theorem check_Bytes.ok (k : Nat) (a0 : Int)  (r1 : ByteArray) (h : check_Bytes.f k a0 = some r1) :
    VCalls Tryz.prog 91 [.int .u32 a0] [] (fun v G own => v = .string r1 ∧ G = [] ∧ own = []) := by
  refine VCalls.intro Tryz.func91 rfl (len rfl) fun E hC hW hD hU => ?_
  unfold check_Bytes.f at h
  refine sr <| vs rfl <| nx <| sG (o_alloc Z141 ZL141) fun g4625 => ds <| sr <| vm rfl <| dt <| VC.block <|
   VC.loop2 (fun (i4648 : Int) (l4649 : List Int) => ⟨18, [(0, .int .u32 a0), (2, .string (⟨#[]⟩ : ByteArray)), (3, pt g4625 0), (5, iv i4648)], [], [(g4625, 141, ints .u8 l4649)], []⟩) (fun (ml1 : Nat) (i4648 : Int) (l4649 : List Int) => check_Bytes.l1 k a0 ml1 i4648 l4649 = some r1) k 0 (List.replicate 4 (0 : Int)) [0] [] h ⟨rfl, ⟨rfl, rfl, rfl, rfl, trivial⟩, trivial, rfl, by decide, rfl, by decide⟩ (by intros; simp [check_Bytes.l1]) <|
   ?_
  clear h
  intro ml1 ihl1 i4648 l4649 h
  simp only [check_Bytes.l1] at h
  refine sr <| VL.letter (decide (i4648 < 4)) fun b4657 hb4657 => va (op_cmp rfl rfl (congrArg some hb4657)) <| ds <| ?_
  replace h := iC h
  rcases h with ⟨c4660, h⟩ | ⟨c4660, h⟩
  · cases lT c4660 hb4657
    refine ct <| sk <| sq <| VC.block <| sr <| vm rfl <| vs rfl <| dr <| vm rfl <| vm rfl <| vm rfl <| va (op_ari64 rfl rfl rfl) <| ?_
    replace h := iN h
    obtain ⟨c4661, h⟩ := h
    refine va (op_shr rfl rfl c4661 rfl) <| va (op_conv Tryz.underlying64 Tryz.underlying5 rfl rfl) <| ?_
    replace h := iN h
    obtain ⟨c4662, h⟩ := h
    replace h := iN h
    obtain ⟨c4663, h⟩ := h
    refine va (op_indexAddrA Tryz.underlying141 TI5 rfl rfl c4662 c4663) <| ?_
    replace h := iN h
    obtain ⟨c4664, h⟩ := h
    refine s1 (o_storeE 0 rfl rfl rfl TI5 c4664) <| dn <| VN.block <| tr <| va (op_ari64 rfl rfl rfl) <| vm rfl <| dn <| VN.again [0] [] (ihl1 (wrap64 (i4648 + 1)) (l4649.set i4648.toNat (IntKind.u8.wrap (a0.fdiv (2 ^ min (wrap64 (8 * i4648)).toNat IntKind.u32.bits)))) h)
  cases lF c4660 hb4657
  refine cf <| VC.exit <| VX.then <| VX.then <| VX.hit <| tx <| va (op_sliceB Tryz.underlying141 TI5 rfl) <| ?_
  replace h := iN h
  obtain ⟨c4665, h⟩ := h
  refine va (op_bytesStrB0 0 Tryz.underlying68 Tryz.underlying9 Tryz.underlying5 rfl rfl c4665) <| vs rfl <| dt <| VC.ret <| ?_
  obtain rfl := Option.some.inj h
  exact rq 2 rfl ⟨rfl, rfl, rfl⟩

end Go.Proofs.YtipeglbeongfmaaGreat.PJournalCrashes
