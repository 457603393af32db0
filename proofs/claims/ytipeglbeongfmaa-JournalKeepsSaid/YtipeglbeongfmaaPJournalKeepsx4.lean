/- Written by a program of this repo: what the program's functions do, each as a Lean function, shown of the loaded code; or a statement's row over that; no condition of its own. -/
import Derived.Test.YtipeglbeongfmaaPJournalKeepsx3
namespace Go.Proofs.Ytipeglbeongfmaa.PJournalKeeps
open Go Go.RowKit Go.Proofs.YtipeglbeongfmaaV
set_option linter.unusedVariables false
set_option linter.unusedSimpArgs false
set_option maxHeartbeats 4000000
set_option maxRecDepth 100000

theorem journal_begin.ok (a0 : Int) (a1 : Int)  (r1 : Int) (h : journal_begin.f a0 a1 = some r1) :
    VCalls Try.prog 25 [.int .i64 a0, .int .i64 a1] [] (fun v G own => v = .int .i64 r1 ∧ G = [] ∧ own = []) := by
  refine VCalls.intro Try.func25 rfl (len rfl) fun E hC hW hD hU => ?_
  unfold journal_begin.f at h
  refine sr <| vs rfl <| nx <| vm rfl <| vm rfl <| va (op_ari64 rfl rfl rfl) <| va (op_quo rfl rfl (by decide) rfl) <| va (op_ari64 rfl rfl rfl) <| va (op_ari64 rfl rfl rfl) <| vs rfl <| dt <| VC.ret <| ?_
  obtain rfl := Option.some.inj h
  exact VR.fn (rs := [.tmp 4]) [] [] [] rfl (.tmp rfl .nil) ⟨rfl, rfl, rfl⟩ trivial rfl (by decide)

def lay_27_ren : Go.Shelf.Ren := ⟨fun | 156 => 27 | 165 => 57 | 166 => 58 | 169 => 59 | 240 => 77 | 241 => 78 | 276 => 91 | 277 => 92 | n => n, fun | 31 => 22 | 9 => 9 | 3 => 3 | 4 => 4 | 0 => 0 | 20 => 20 | 72 => 96 | 76 => 100 | 70 => 94 | 37 => 41 | 75 => 99 | 127 => 119 | 164 => 133 | 5 => 5 | 80 => 76 | n => n, fun | n => n⟩
theorem lay_27 : Go.Proofs.Lays.n156 Try.prog lay_27_ren where
  mixed := by kernel_rfl
  f156 := Try.func27.trans (congrArg some (by kernel_rfl))
  f165 := Try.func57.trans (congrArg some (by kernel_rfl))
  f166 := Try.func58.trans (congrArg some (by kernel_rfl))
  f169 := Try.func59.trans (congrArg some (by kernel_rfl))
  f240 := Try.func77.trans (congrArg some (by kernel_rfl))
  f241 := Try.func78.trans (congrArg some (by kernel_rfl))
  f276 := Try.func91.trans (congrArg some (by kernel_rfl))
  f277 := Try.func92.trans (congrArg some (by kernel_rfl))
  t0 := Try.underlying0
  a0 := Try.isAgg0
  z0 := Try.sizeOf0
  v0 := Try.zeroValue0
  t3 := Try.underlying3
  a3 := Try.isAgg3
  z3 := Try.sizeOf3
  v3 := Try.zeroValue3
  t4 := Try.underlying4
  a4 := Try.isAgg4
  z4 := Try.sizeOf4
  v4 := Try.zeroValue4
  t9 := Try.underlying9
  a9 := Try.isAgg9
  z9 := Try.sizeOf9
  v9 := Try.zeroValue9
  t20 := Try.underlying20
  a20 := Try.isAgg20
  z20 := Try.sizeOf20
  v20 := Try.zeroValue20
  t31 := Try.underlying22
  a31 := Try.isAgg22
  z31 := Try.sizeOf22
  v31 := Try.zeroValue22
  t37 := Try.underlying41
  a37 := Try.isAgg41
  z37 := Try.sizeOf41
  v37 := Try.zeroValue41
  t70 := Try.underlying94
  a70 := Try.isAgg94
  z70 := Try.sizeOf94
  v70 := Try.zeroValue94
  t72 := Try.underlying96
  a72 := Try.isAgg96
  z72 := Try.sizeOf96
  v72 := Try.zeroValue96
  t75 := Try.underlying99
  a75 := Try.isAgg99
  z75 := Try.sizeOf99
  v75 := Try.zeroValue99
  t76 := Try.underlying100
  a76 := Try.isAgg100
  z76 := Try.sizeOf100
  v76 := Try.zeroValue100
  t127 := Try.underlying119
  a127 := Try.isAgg119
  z127 := Try.sizeOf119
  v127 := Try.zeroValue119
  t164 := Try.underlying133
  a164 := Try.isAgg133
  z164 := Try.sizeOf133
  v164 := Try.zeroValue133
theorem lay_27x : Go.Proofs.Builder.Extra Try.prog lay_27_ren where
  sizeBuilder := by kernel_rfl
  liesBuilder := by kernel_rfl
  t5 := Try.underlying5
  a5 := Try.isAgg5
  z5 := Try.sizeOf5
  v5 := Try.zeroValue5
  infoByte := by kernel_rfl
  cellsByte := by kernel_rfl
  sizeByte := by kernel_rfl
  neB5 := by decide

theorem strings_Join.ok (l0 : List ByteArray) (s : ByteArray) (v0 : Value) (r1 : ByteArray) (h : strings_Join.f l0 s = some r1) :
    VCalls Try.prog 27 [v0, .string s] [.row v0 1 (l0.map enc_str)] (fun v G own => v = .string r1 ∧ G = [] ∧ own = []) := by
  unfold strings_Join.f at h
  by_cases hc : ¬ (l0.length ≤ 140737488355328 ∧ (Go.Lib.join (l0.map (·.data.toList)) s.data.toList).length ≤ 140737488355328)
  · rw [if_neg hc] at h; cases h
  replace hc := Decidable.not_not.1 hc
  rw [if_pos hc] at h
  obtain rfl := Option.some.inj h
  clear h
  intro C w hC hF
  obtain ⟨hfl, A, c, hv, h1, h2, h3, h4⟩ := hF _ (List.mem_singleton.2 rfl)
  subst hv
  rw [lenm] at h1 h3 ⊢
  cases l0 with
  | nil => exact (Go.Proofs.Any.strings_Join_none lay_27 lay_27x A c s w).mono fun e w' hq => ⟨_, [], [], hq.1, ⟨rfl, rfl, rfl⟩, by simp, by simp, by simp [ownBs], hq.2 ▸ Below.refl _ _⟩
  | cons x xs =>
    obtain ⟨ad, rfl, hCa⟩ := h3 (by simp)
    have hcell : ∀ (j : Nat) y, (x :: xs)[j]? = some y → w.cell? (ad.add j) = some (.string y) := by
      intro j y hy
      have := h4 j (enc_str y) (by rw [List.getElem?_map, hy]; rfl) ad rfl 0 (.string y) rfl
      simpa using this
    have h0 := hcell 0 x rfl
    have hadd : ad.add 0 = ad := rfl
    rw [hadd] at h0
    obtain ⟨bk, o, sp⟩ := ad
    have hsp : sp = none := by
      cases sp with
      | none => rfl
      | some q =>
        exfalso
        unfold World.cell? at h0
        split at h0
        · simp at h0
        · cases h0
    subst hsp
    refine (Go.Proofs.Any.strings_Join lay_27 lay_27x bk o c (x :: xs) s w (fun j y hy => ?_) (World.block_lt_of_cell? _ _ h0) hc.1 h1 hc.2).mono fun e w' hq => ⟨_, [], [], hq.1, ⟨rfl, rfl, rfl⟩, by simp, by simp, by simp [ownBs], hq.2⟩
    have := hcell j y hy
    rw [add_at] at this
    exact this

theorem pack_may.ok (a0 : Int)  (r1 : Bool) (h : pack_may.f a0 = some r1) :
    VCalls Try.prog 99 [.int .i64 a0] [] (fun v G own => v = .bool r1 ∧ G = [] ∧ own = []) := by
  refine VCalls.intro Try.func99 rfl (len rfl) fun E hC hW hD hU => ?_
  unfold pack_may.f at h
  refine sr <| vs rfl <| nx <| vm rfl <| VL.letter (decide (a0 ≥ (-1152921504606846976))) fun b2257 hb2257 => va (op_cmp rfl rfl (congrArg some hb2257)) <| vm rfl <| ?_
  replace h := iC h
  rcases h with ⟨c2258, h⟩ | ⟨c2258, h⟩
  · cases lT c2258 hb2257
    refine vm rfl <| VL.letter (decide (a0 ≤ 1152921504606846976)) fun b2259 hb2259 => va (op_cmp rfl rfl (congrArg some hb2259)) <| va (op_pick rfl rfl) <| vs rfl <| dt <| VC.ret <| ?_
    obtain rfl := Option.some.inj h
    subst hb2259
    exact VR.fn (rs := [.tmp 2]) [] [] [] rfl (.tmp rfl .nil) ⟨rfl, rfl, rfl⟩ trivial rfl (by decide)
  cases lF c2258 hb2257
  refine un rfl <| un rfl <| va (op_pick rfl rfl) <| vs rfl <| dt <| VC.ret <| ?_
  obtain rfl := Option.some.inj h
  exact VR.fn (rs := [.tmp 2]) [] [] [] rfl (.tmp rfl .nil) ⟨rfl, rfl, rfl⟩ trivial rfl (by decide)

theorem pack_ReadNumber.ok (k : Nat) (a0 : ByteArray)  (r1 : Int) (r2 : ByteArray) (r3 : Int) (h : pack_ReadNumber.f k a0 = some (r1, r2, r3)) :
    VCalls Try.prog 88 [.string a0] [] (fun v G own => v = .tuple #[.int .i64 r1, .string r2, .int .i64 r3] ∧ G = [] ∧ own = []) := by
  refine VCalls.intro Try.func88 rfl (len rfl) fun E hC hW hD hU => ?_
  unfold pack_ReadNumber.f at h
  refine sr <| vs rfl <| vs rfl <| vs rfl <| nx <| vs rfl <| ds <| sr <| vm rfl <| va (op_lens Try.underlying9 rfl) <| va (op_min rfl rfl) <| vm rfl <| dt <| VC.block <|
   VC.loop2 (fun (i3351 : Int) (i3352 : Int) => ⟨56, [(0, .string a0), (2, .int .i64 0), (3, .string (⟨#[]⟩ : ByteArray)), (4, .int .i64 0), (5, .int .i64 i3351), (11, .int .i64 (mn (a0.size : Int) 9)), (12, .int .i64 i3352)], [], [], []⟩) (fun (ml3 : Nat) (i3351 : Int) (i3352 : Int) => pack_ReadNumber.l3 k a0 ml3 i3351 i3352 = some (r1, r2, r3)) k 0 0 [] [] h ⟨rfl, ⟨rfl, rfl, rfl, rfl, rfl, rfl, rfl, trivial⟩, trivial, rfl, by decide, rfl, by decide⟩ (by intros; simp [pack_ReadNumber.l3]) <|
   ?_
  clear h
  intro ml3 ihl3 i3351 i3352 h
  simp only [pack_ReadNumber.l3] at h
  refine sr <| VL.letter (decide (i3352 < (mn (a0.size : Int) 9))) fun b3654 hb3654 => va (op_cmp rfl rfl (congrArg some hb3654)) <| ds <| ?_
  replace h := iC h
  rcases h with ⟨c3660, h⟩ | ⟨c3660, h⟩
  · cases lT c3660 hb3654
    refine ct <| sk <| sq <| VC.block <| sr <| vm rfl <| vs rfl <| nx <| vm rfl <| vm rfl <| ?_
    replace h := iN h
    obtain ⟨c3810, h⟩ := h
    replace h := iN h
    obtain ⟨c3811, h⟩ := h
    refine va (op_indexS Try.underlying9 rfl rfl c3810 c3811 rfl) <| va (op_conv Try.underlying5 Try.underlying3 rfl (i64w _)) <| vs rfl <| nx <| vm rfl <| vm rfl <| va (op_rem rfl rfl (by decide) rfl) <| vm rfl <| va (op_ari64 rfl rfl rfl) <| ?_
    replace h := iN h
    obtain ⟨c3812, h⟩ := h
    refine va (op_shl rfl rfl c3812 rfl) <| va (op_bits rfl rfl rfl) <| vs rfl <| ds <| sr <| vm rfl <| VL.letter (decide ((wrap64 (bt a0 i3352)) ≥ 128)) fun b3815 hb3815 => va (op_cmp rfl rfl (congrArg some hb3815)) <| dt <| ?_
    replace h := iC h
    rcases h with ⟨c3816, h⟩ | ⟨c3816, h⟩
    · cases lT c3816 hb3815
      refine ct <| VC.exit <| VX.then <| VX.hit <| tr <| va (op_ari64 rfl rfl rfl) <| vm rfl <| dn <|
       VN.again [] [] (ihl3 (Go.bits .or .i64 i3351 (IntKind.i64.wrap (((wrap64 (bt a0 i3352)).tmod 128) * 2 ^ min (wrap64 (7 * i3352)).toNat IntKind.i64.bits))) (wrap64 (i3352 + 1)) h) ⟨rfl, ⟨rfl, rfl, rfl, rfl, rfl, rfl, rfl, trivial⟩, trivial, rfl, by decide, rfl, by decide⟩
    cases lF c3816 hb3815
    refine cf <| sk <| sr <| vm rfl <| va (op_quo rfl rfl (by decide) rfl) <| vs rfl <| dt <|
     VC.join2 (fun (i3913 : Int) (q3914 : Bool) => ⟨56, [(0, .string a0), (2, .int .i64 0), (3, .string (⟨#[]⟩ : ByteArray)), (4, .int .i64 0), (5, .int .i64 (Go.bits .or .i64 i3351 (IntKind.i64.wrap (((wrap64 (bt a0 i3352)).tmod 128) * 2 ^ min (wrap64 (7 * i3352)).toNat IntKind.i64.bits)))), (6, .int .i64 i3352), (7, .int .i64 (wrap64 (bt a0 i3352))), (8, .int .i64 i3913), (11, .int .i64 (mn (a0.size : Int) 9)), (12, .int .i64 i3352), (13, .bool true), (14, .int .i64 i3352), (15, .string a0), (16, .int .i64 i3352), (17, .int .u8 (bt a0 i3352)), (18, .int .i64 (wrap64 (bt a0 i3352))), (19, .int .i64 i3351), (20, .int .i64 (wrap64 (bt a0 i3352))), (21, .int .i64 ((wrap64 (bt a0 i3352)).tmod 128)), (22, .int .i64 i3352), (23, .int .i64 (wrap64 (7 * i3352))), (24, .int .i64 (IntKind.i64.wrap (((wrap64 (bt a0 i3352)).tmod 128) * 2 ^ min (wrap64 (7 * i3352)).toNat IntKind.i64.bits))), (25, .int .i64 (Go.bits .or .i64 i3351 (IntKind.i64.wrap (((wrap64 (bt a0 i3352)).tmod 128) * 2 ^ min (wrap64 (7 * i3352)).toNat IntKind.i64.bits)))), (26, .int .i64 (wrap64 (bt a0 i3352))), (27, .bool false), (28, .int .i64 (Go.bits .or .i64 i3351 (IntKind.i64.wrap (((wrap64 (bt a0 i3352)).tmod 128) * 2 ^ min (wrap64 (7 * i3352)).toNat IntKind.i64.bits)))), (29, .int .i64 (IntKind.i64.wrap ((Go.bits .or .i64 i3351 (IntKind.i64.wrap (((wrap64 (bt a0 i3352)).tmod 128) * 2 ^ min (wrap64 (7 * i3352)).toNat IntKind.i64.bits))).tdiv 2))), (30, .int .i64 (Go.bits .or .i64 i3351 (IntKind.i64.wrap (((wrap64 (bt a0 i3352)).tmod 128) * 2 ^ min (wrap64 (7 * i3352)).toNat IntKind.i64.bits)))), (31, .int .i64 ((Go.bits .or .i64 i3351 (IntKind.i64.wrap (((wrap64 (bt a0 i3352)).tmod 128) * 2 ^ min (wrap64 (7 * i3352)).toNat IntKind.i64.bits))).tmod 2)), (32, .bool q3914)], [], [], []⟩) (fun (i3913 : Int) (q3914 : Bool) => pack_ReadNumber.j5 k a0 i3352 i3913 q3914 = some (r1, r2, r3)) ?_ ?_
    · refine sr <| vm rfl <| va (op_rem rfl rfl (by decide) rfl) <| VL.letter ((((Go.bits .or .i64 i3351 (IntKind.i64.wrap (((wrap64 (bt a0 i3352)).tmod 128) * 2 ^ min (wrap64 (7 * i3352)).toNat IntKind.i64.bits))).tmod 2) == 1)) fun b3911 hb3911 => va (op_cmp rfl rfl (congrArg some hb3911)) <| dt <| ?_
      replace h := iC h
      rcases h with ⟨c3912, h⟩ | ⟨c3912, h⟩
      · obtain rfl : b3911 = true := hb3911.symm.trans (beq_iff_eq.2 c3912)
        refine ct <| rg <| vm rfl <| va (op_neg rfl (i64w _)) <| va (op_ari64 rfl rfl rfl) <| vs rfl <| dn <|
         VN.meet2 (wrap64 ((wrap64 (0 - (IntKind.i64.wrap ((Go.bits .or .i64 i3351 (IntKind.i64.wrap (((wrap64 (bt a0 i3352)).tmod 128) * 2 ^ min (wrap64 (7 * i3352)).toNat IntKind.i64.bits))).tdiv 2)))) - 1)) true [] [] h ⟨rfl, ⟨rfl, rfl, rfl, rfl, rfl, rfl, rfl, rfl, rfl, rfl, rfl, rfl, rfl, rfl, rfl, rfl, rfl, rfl, rfl, rfl, rfl, rfl, rfl, rfl, rfl, rfl, rfl, rfl, rfl, rfl, trivial⟩, trivial, rfl, by decide, rfl, by decide⟩
      obtain rfl : b3911 = false := hb3911.symm.trans (beq_eq_false_iff_ne.2 c3912)
      refine cf <| VC.skip <| VN.meet2 (IntKind.i64.wrap ((Go.bits .or .i64 i3351 (IntKind.i64.wrap (((wrap64 (bt a0 i3352)).tmod 128) * 2 ^ min (wrap64 (7 * i3352)).toNat IntKind.i64.bits))).tdiv 2)) false [] [] h ⟨rfl, ⟨rfl, rfl, rfl, rfl, rfl, rfl, rfl, rfl, rfl, rfl, rfl, rfl, rfl, rfl, rfl, rfl, rfl, rfl, rfl, rfl, rfl, rfl, rfl, rfl, rfl, rfl, rfl, rfl, rfl, rfl, trivial⟩, trivial, rfl, by decide, rfl, by decide⟩
    clear h
    intro i3913 q3914 h
    unfold pack_ReadNumber.j5 at h
    refine sq <| sr <| vm rfl <| VL.letter (((wrap64 (bt a0 i3352)) == 0)) fun b3945 hb3945 => va (op_cmp rfl rfl (congrArg some hb3945)) <| vm rfl <| ?_
    replace h := iC h
    rcases h with ⟨c3946, h⟩ | ⟨c3946, h⟩
    · obtain rfl : b3945 = true := hb3945.symm.trans (beq_iff_eq.2 c3946)
      refine vm rfl <| VL.letter (decide (i3352 > 0)) fun b3947 hb3947 => va (op_cmp rfl rfl (congrArg some hb3947)) <| va (op_pick rfl rfl) <| vm rfl <| ?_
      replace h := iC h
      rcases h with ⟨c3948, h⟩ | ⟨c3948, h⟩
      · cases lT c3948 hb3947
        refine un rfl <| un rfl <| un rfl <| va (op_pick rfl rfl) <| dt <| ct <| sr <| vs rfl <| vs rfl <| vs rfl <| dt <| VC.ret <| VR.then <| VR.block <| VR.then <| VR.then <| VR.block <| VR.then <| ?_
        simp only [Option.some.injEq, Prod.mk.injEq] at h
        obtain ⟨rfl, rfl, rfl⟩ := h
        exact VR.fn (rs := [.tmp 2, .tmp 3, .tmp 4]) [] [] [] rfl (.tmp rfl (.tmp rfl (.tmp rfl .nil))) ⟨rfl, rfl, rfl⟩ trivial rfl (by decide)
      cases lF c3948 hb3947
      refine vm rfl <| ?_
      replace h := bd h
      obtain ⟨t3949, hA3950, h⟩ := h
      refine sC (o_call0 FO99 (pack_may.ok i3913 t3949 hA3950) rfl rfl (ltn rfl) (All_of .nil)) <| ?_
      rintro _ _ _ ⟨rfl, rfl, rfl⟩
      replace h := iC h
      rcases h with ⟨c3951, h⟩ | ⟨c3951, h⟩
      · obtain rfl := c3951
        refine va (op_not rfl rfl) <| va (op_pick rfl rfl) <| dt <| cf <| sk <| ?_
        replace h := iN h
        obtain ⟨c3952, h⟩ := h
        replace h := iN h
        obtain ⟨c3953, h⟩ := h
        refine VC.join0 (⟨56, [(0, .string a0), (2, .int .i64 i3913), (3, .string (a0.extract ((wrap64 (i3352 + 1)).toNat) a0.size)), (4, .int .i64 0), (5, .int .i64 (Go.bits .or .i64 i3351 (IntKind.i64.wrap (((wrap64 (bt a0 i3352)).tmod 128) * 2 ^ min (wrap64 (7 * i3352)).toNat IntKind.i64.bits)))), (6, .int .i64 i3352), (7, .int .i64 (wrap64 (bt a0 i3352))), (8, .int .i64 i3913), (11, .int .i64 (mn (a0.size : Int) 9)), (12, .int .i64 i3352), (13, .bool true), (14, .int .i64 i3352), (15, .string a0), (16, .int .i64 i3352), (17, .int .u8 (bt a0 i3352)), (18, .int .i64 (wrap64 (bt a0 i3352))), (19, .int .i64 i3351), (20, .int .i64 (wrap64 (bt a0 i3352))), (21, .int .i64 ((wrap64 (bt a0 i3352)).tmod 128)), (22, .int .i64 i3352), (23, .int .i64 (wrap64 (7 * i3352))), (24, .int .i64 (IntKind.i64.wrap (((wrap64 (bt a0 i3352)).tmod 128) * 2 ^ min (wrap64 (7 * i3352)).toNat IntKind.i64.bits))), (25, .int .i64 (Go.bits .or .i64 i3351 (IntKind.i64.wrap (((wrap64 (bt a0 i3352)).tmod 128) * 2 ^ min (wrap64 (7 * i3352)).toNat IntKind.i64.bits)))), (26, .int .i64 (wrap64 (bt a0 i3352))), (27, .bool false), (28, .int .i64 (Go.bits .or .i64 i3351 (IntKind.i64.wrap (((wrap64 (bt a0 i3352)).tmod 128) * 2 ^ min (wrap64 (7 * i3352)).toNat IntKind.i64.bits)))), (29, .int .i64 (IntKind.i64.wrap ((Go.bits .or .i64 i3351 (IntKind.i64.wrap (((wrap64 (bt a0 i3352)).tmod 128) * 2 ^ min (wrap64 (7 * i3352)).toNat IntKind.i64.bits))).tdiv 2))), (30, .int .i64 (Go.bits .or .i64 i3351 (IntKind.i64.wrap (((wrap64 (bt a0 i3352)).tmod 128) * 2 ^ min (wrap64 (7 * i3352)).toNat IntKind.i64.bits)))), (31, .int .i64 ((Go.bits .or .i64 i3351 (IntKind.i64.wrap (((wrap64 (bt a0 i3352)).tmod 128) * 2 ^ min (wrap64 (7 * i3352)).toNat IntKind.i64.bits))).tmod 2)), (32, .bool q3914), (36, .int .i64 (wrap64 (bt a0 i3352))), (37, .bool true), (38, .bool true), (39, .int .i64 i3352), (40, .bool false), (41, .bool false), (42, .bool false), (43, .int .i64 i3913), (44, .bool true), (45, .bool false), (46, .bool false), (47, .int .i64 i3913), (48, .string a0), (49, .int .i64 i3352), (50, .int .i64 (wrap64 (i3352 + 1))), (51, .string (a0.extract ((wrap64 (i3352 + 1)).toNat) a0.size))], [], [], []⟩) (True) ?_ ?_
        · exact VC.draw ⟨0, [], [], [], []⟩ (by kernel_rfl) rfl (by kernel_rfl) (n := 8) (listed := LB 8 0) <| av 0 1 rfl (mv rfl) <| av 1 3 rfl (mv rfl) <| av 2 7 rfl (mv rfl) <| av 3 15 rfl (op_ari64 rfl rfl rfl) <|
           av 4 31 rfl (op_sliceS ((wrap64 (i3352 + 1)).toNat) a0.size Try.underlying9 rfl ⟨⟨_, _, rfl, c3952, rfl⟩, rfl, tN (a := (wrap64 (i3352 + 1))) (b := (a0.size : Int)) rfl rfl c3953, Nat.le_refl _⟩ rfl) <| av 5 63 rfl (ag rfl) <| av 6 127 rfl (ag rfl) <| av 7 255 rfl (ag rfl) <|
           VA.done (by kernel_rfl) <| VN.meet0  [] [] trivial ⟨rfl, ⟨rfl, rfl, rfl, rfl, rfl, rfl, rfl, rfl, rfl, rfl, rfl, rfl, rfl, rfl, rfl, rfl, rfl, rfl, rfl, rfl, rfl, rfl, rfl, rfl, rfl, rfl, rfl, rfl, rfl, rfl, rfl, rfl, rfl, rfl, rfl, rfl, rfl, rfl, rfl, rfl, rfl, rfl, rfl, rfl, rfl, rfl, trivial⟩, trivial, rfl, by decide, rfl, by decide⟩
        intro _
        refine VC.ret <| VR.block <| VR.then <| VR.then <| VR.block <| VR.then <| ?_
        simp only [Option.some.injEq, Prod.mk.injEq] at h
        obtain ⟨rfl, rfl, rfl⟩ := h
        exact VR.fn (rs := [.tmp 2, .tmp 3, .tmp 4]) [] [] [] rfl (.tmp rfl (.tmp rfl (.tmp rfl .nil))) ⟨rfl, rfl, rfl⟩ trivial rfl (by decide)
      obtain rfl := Bool.eq_false_iff.2 c3951
      refine va (op_not rfl rfl) <| va (op_pick rfl rfl) <| dt <| ct <| sr <| vs rfl <| vs rfl <| vs rfl <| dt <| VC.ret <| VR.then <| VR.block <| VR.then <| VR.then <| VR.block <| VR.then <| ?_
      simp only [Option.some.injEq, Prod.mk.injEq] at h
      obtain ⟨rfl, rfl, rfl⟩ := h
      exact VR.fn (rs := [.tmp 2, .tmp 3, .tmp 4]) [] [] [] rfl (.tmp rfl (.tmp rfl (.tmp rfl .nil))) ⟨rfl, rfl, rfl⟩ trivial rfl (by decide)
    obtain rfl : b3945 = false := hb3945.symm.trans (beq_eq_false_iff_ne.2 c3946)
    refine un rfl <| un rfl <| va (op_pick rfl rfl) <| vm rfl <| vm rfl <| ?_
    replace h := bd h
    obtain ⟨t3954, hA3955, h⟩ := h
    refine sC (o_call0 FO99 (pack_may.ok i3913 t3954 hA3955) rfl rfl (ltn rfl) (All_of .nil)) <| ?_
    rintro _ _ _ ⟨rfl, rfl, rfl⟩
    replace h := iC h
    rcases h with ⟨c3956, h⟩ | ⟨c3956, h⟩
    · obtain rfl := c3956
      refine va (op_not rfl rfl) <| va (op_pick rfl rfl) <| dt <| cf <| sk <| ?_
      replace h := iN h
      obtain ⟨c3957, h⟩ := h
      replace h := iN h
      obtain ⟨c3958, h⟩ := h
      refine VC.join0 (⟨56, [(0, .string a0), (2, .int .i64 i3913), (3, .string (a0.extract ((wrap64 (i3352 + 1)).toNat) a0.size)), (4, .int .i64 0), (5, .int .i64 (Go.bits .or .i64 i3351 (IntKind.i64.wrap (((wrap64 (bt a0 i3352)).tmod 128) * 2 ^ min (wrap64 (7 * i3352)).toNat IntKind.i64.bits)))), (6, .int .i64 i3352), (7, .int .i64 (wrap64 (bt a0 i3352))), (8, .int .i64 i3913), (11, .int .i64 (mn (a0.size : Int) 9)), (12, .int .i64 i3352), (13, .bool true), (14, .int .i64 i3352), (15, .string a0), (16, .int .i64 i3352), (17, .int .u8 (bt a0 i3352)), (18, .int .i64 (wrap64 (bt a0 i3352))), (19, .int .i64 i3351), (20, .int .i64 (wrap64 (bt a0 i3352))), (21, .int .i64 ((wrap64 (bt a0 i3352)).tmod 128)), (22, .int .i64 i3352), (23, .int .i64 (wrap64 (7 * i3352))), (24, .int .i64 (IntKind.i64.wrap (((wrap64 (bt a0 i3352)).tmod 128) * 2 ^ min (wrap64 (7 * i3352)).toNat IntKind.i64.bits))), (25, .int .i64 (Go.bits .or .i64 i3351 (IntKind.i64.wrap (((wrap64 (bt a0 i3352)).tmod 128) * 2 ^ min (wrap64 (7 * i3352)).toNat IntKind.i64.bits)))), (26, .int .i64 (wrap64 (bt a0 i3352))), (27, .bool false), (28, .int .i64 (Go.bits .or .i64 i3351 (IntKind.i64.wrap (((wrap64 (bt a0 i3352)).tmod 128) * 2 ^ min (wrap64 (7 * i3352)).toNat IntKind.i64.bits)))), (29, .int .i64 (IntKind.i64.wrap ((Go.bits .or .i64 i3351 (IntKind.i64.wrap (((wrap64 (bt a0 i3352)).tmod 128) * 2 ^ min (wrap64 (7 * i3352)).toNat IntKind.i64.bits))).tdiv 2))), (30, .int .i64 (Go.bits .or .i64 i3351 (IntKind.i64.wrap (((wrap64 (bt a0 i3352)).tmod 128) * 2 ^ min (wrap64 (7 * i3352)).toNat IntKind.i64.bits)))), (31, .int .i64 ((Go.bits .or .i64 i3351 (IntKind.i64.wrap (((wrap64 (bt a0 i3352)).tmod 128) * 2 ^ min (wrap64 (7 * i3352)).toNat IntKind.i64.bits))).tmod 2)), (32, .bool q3914), (36, .int .i64 (wrap64 (bt a0 i3352))), (37, .bool false), (38, .bool false), (39, undef), (40, undef), (41, .bool false), (42, .bool false), (43, .int .i64 i3913), (44, .bool true), (45, .bool false), (46, .bool false), (47, .int .i64 i3913), (48, .string a0), (49, .int .i64 i3352), (50, .int .i64 (wrap64 (i3352 + 1))), (51, .string (a0.extract ((wrap64 (i3352 + 1)).toNat) a0.size))], [], [], []⟩) (True) ?_ ?_
      · exact VC.draw ⟨0, [], [], [], []⟩ (by kernel_rfl) rfl (by kernel_rfl) (n := 8) (listed := LB 8 0) <| av 0 1 rfl (mv rfl) <| av 1 3 rfl (mv rfl) <| av 2 7 rfl (mv rfl) <| av 3 15 rfl (op_ari64 rfl rfl rfl) <|
         av 4 31 rfl (op_sliceS ((wrap64 (i3352 + 1)).toNat) a0.size Try.underlying9 rfl ⟨⟨_, _, rfl, c3957, rfl⟩, rfl, tN (a := (wrap64 (i3352 + 1))) (b := (a0.size : Int)) rfl rfl c3958, Nat.le_refl _⟩ rfl) <| av 5 63 rfl (ag rfl) <| av 6 127 rfl (ag rfl) <| av 7 255 rfl (ag rfl) <|
         VA.done (by kernel_rfl) <| VN.meet0  [] [] trivial ⟨rfl, ⟨rfl, rfl, rfl, rfl, rfl, rfl, rfl, rfl, rfl, rfl, rfl, rfl, rfl, rfl, rfl, rfl, rfl, rfl, rfl, rfl, rfl, rfl, rfl, rfl, rfl, rfl, rfl, rfl, rfl, rfl, rfl, rfl, rfl, rfl, rfl, rfl, rfl, rfl, rfl, rfl, rfl, rfl, rfl, rfl, rfl, rfl, trivial⟩, trivial, rfl, by decide, rfl, by decide⟩
      intro _
      refine VC.ret <| VR.block <| VR.then <| VR.then <| VR.block <| VR.then <| ?_
      simp only [Option.some.injEq, Prod.mk.injEq] at h
      obtain ⟨rfl, rfl, rfl⟩ := h
      exact VR.fn (rs := [.tmp 2, .tmp 3, .tmp 4]) [] [] [] rfl (.tmp rfl (.tmp rfl (.tmp rfl .nil))) ⟨rfl, rfl, rfl⟩ trivial rfl (by decide)
    obtain rfl := Bool.eq_false_iff.2 c3956
    refine va (op_not rfl rfl) <| va (op_pick rfl rfl) <| dt <| ct <| sr <| vs rfl <| vs rfl <| vs rfl <| dt <| VC.ret <| VR.then <| VR.block <| VR.then <| VR.then <| VR.block <| VR.then <| ?_
    simp only [Option.some.injEq, Prod.mk.injEq] at h
    obtain ⟨rfl, rfl, rfl⟩ := h
    exact VR.fn (rs := [.tmp 2, .tmp 3, .tmp 4]) [] [] [] rfl (.tmp rfl (.tmp rfl (.tmp rfl .nil))) ⟨rfl, rfl, rfl⟩ trivial rfl (by decide)
  cases lF c3660 hb3654
  refine cf <| VC.exit <| VX.then <| VX.then <| VX.hit <| ts <| sr <| vm rfl <| va (op_lens Try.underlying9 rfl) <| VL.letter (decide ((a0.size : Int) ≥ 9)) fun b3961 hb3961 => va (op_cmp rfl rfl (congrArg some hb3961)) <| dt <| ?_
  replace h := iC h
  rcases h with ⟨c3962, h⟩ | ⟨c3962, h⟩
  · cases lT c3962 hb3961
    refine ct <| sr <| vs rfl <| vs rfl <| vs rfl <| dt <| VC.ret <| VR.then <| ?_
    simp only [Option.some.injEq, Prod.mk.injEq] at h
    obtain ⟨rfl, rfl, rfl⟩ := h
    exact VR.fn (rs := [.tmp 2, .tmp 3, .tmp 4]) [] [] [] rfl (.tmp rfl (.tmp rfl (.tmp rfl .nil))) ⟨rfl, rfl, rfl⟩ trivial rfl (by decide)
  cases lF c3962 hb3961
  refine cf <| sk <| sr <| vs rfl <| vs rfl <| vs rfl <| dt <| VC.ret <| ?_
  simp only [Option.some.injEq, Prod.mk.injEq] at h
  obtain ⟨rfl, rfl, rfl⟩ := h
  exact VR.fn (rs := [.tmp 2, .tmp 3, .tmp 4]) [] [] [] rfl (.tmp rfl (.tmp rfl (.tmp rfl .nil))) ⟨rfl, rfl, rfl⟩ trivial rfl (by decide)

theorem check_Table.ok (k : Nat)   (r1 : List Int) (h : check_Table.f k = some r1) :
    VCalls Try.prog 102 [] [] (fun v G own => v = .agg (ints .u32 r1).toArray ∧ G = [] ∧ own = []) := by
  refine VCalls.intro Try.func102 rfl (len rfl) fun E hC hW hD hU => ?_
  unfold check_Table.f at h
  refine sr <| sG (o_alloc Z147 ZL147) fun g4002 => nx <| sG (o_alloc Z147 ZL147) fun g4003 => ds <| sr <| vm rfl <| dt <| VC.block <|
   VC.loop2 (fun (i4372 : Int) (l4373 : List Int) => ⟨25, [(0, .pointer (some ⟨g4002, 0, none⟩)), (1, .pointer (some ⟨g4003, 0, none⟩)), (5, .int .u32 i4372)], [], [(g4003, 147, ints .u32 l4373), (g4002, 147, ints .u32 (List.replicate 256 (0 : Int)))], []⟩) (fun (ml5 : Nat) (i4372 : Int) (l4373 : List Int) => check_Table.l5 k ml5 i4372 l4373 = some r1) k 0 (List.replicate 256 (0 : Int)) [0, 1] [] h ⟨rfl, ⟨rfl, rfl, rfl, trivial⟩, trivial, rfl, by decide, rfl, by decide⟩ (by intros; simp [check_Table.l5]) <|
   ?_
  clear h
  intro ml5 ihl5 i4372 l4373 h
  simp only [check_Table.l5] at h
  refine sr <| VL.letter (decide (i4372 < 256)) fun b4469 hb4469 => va (op_cmp rfl rfl (congrArg some hb4469)) <| ds <| ?_
  replace h := iC h
  rcases h with ⟨c4473, h⟩ | ⟨c4473, h⟩
  · cases lT c4473 hb4469
    refine ct <| sk <| sq <| VC.block <| sr <| vm rfl <| vs rfl <| nx <| vm rfl <| vs rfl <| ds <| sr <| vm rfl <| dt <| VC.block <|
     VC.loop2 (fun (i4544 : Int) (i4545 : Int) => ⟨25, [(0, .pointer (some ⟨g4002, 0, none⟩)), (1, .pointer (some ⟨g4003, 0, none⟩)), (2, .int .u32 i4372), (3, .int .u32 i4544), (5, .int .u32 i4372), (6, .bool true), (7, .int .u32 i4372), (8, .int .u32 i4372), (9, .int .i64 i4545)], [], [(g4003, 147, ints .u32 l4373), (g4002, 147, ints .u32 (List.replicate 256 (0 : Int)))], []⟩) (fun (ml9 : Nat) (i4544 : Int) (i4545 : Int) => check_Table.l9 k (check_Table.l5 k ml5) i4372 l4373 ml9 i4544 i4545 = some r1) k i4372 0 [0, 1] [] h ⟨rfl, ⟨rfl, rfl, rfl, rfl, rfl, rfl, rfl, rfl, rfl, trivial⟩, trivial, rfl, by decide, rfl, by decide⟩ (by intros; simp [check_Table.l9]) <|
     ?_
    clear h
    intro ml9 ihl9 i4544 i4545 h
    simp only [check_Table.l9] at h
    refine sr <| VL.letter (decide (i4545 < 8)) fun b4553 hb4553 => va (op_cmp rfl rfl (congrArg some hb4553)) <| ds <| ?_
    replace h := iC h
    rcases h with ⟨c4558, h⟩ | ⟨c4558, h⟩
    · cases lT c4558 hb4553
      refine ct <| sk <| sq <| VC.block <| sr <| vm rfl <| va (op_bits rfl rfl rfl) <| vs rfl <| nx <| vm rfl <| va (op_shr rfl rfl (by decide) rfl) <| vs rfl <| nx <| vm rfl <| VL.letter (((Go.bits .and .u32 i4544 1) == 1)) fun b4561 hb4561 => va (op_cmp rfl rfl (congrArg some hb4561)) <| dt <| ?_
      replace h := iC h
      rcases h with ⟨c4562, h⟩ | ⟨c4562, h⟩
      · obtain rfl : b4561 = true := hb4561.symm.trans (beq_iff_eq.2 c4562)
        refine ct <| rg <| vm rfl <| va (op_bits rfl rfl rfl) <| vs rfl <| dn <| VN.block <| tr <| va (op_ari64 rfl rfl rfl) <| vm rfl <| dn <|
         VN.again [0, 1] [] (ihl9 (Go.bits .xor .u32 (i4544.fdiv (2 ^ min (1 : Int).toNat IntKind.u32.bits)) 2197175160) (wrap64 (i4545 + 1)) h) ⟨rfl, ⟨rfl, rfl, rfl, rfl, rfl, rfl, rfl, rfl, rfl, trivial⟩, trivial, rfl, by decide, rfl, by decide⟩
      obtain rfl : b4561 = false := hb4561.symm.trans (beq_eq_false_iff_ne.2 c4562)
      refine cf <| VC.skip <| VN.block <| tr <| va (op_ari64 rfl rfl rfl) <| vm rfl <| dn <| VN.again [0, 1] [] (ihl9 (i4544.fdiv (2 ^ min (1 : Int).toNat IntKind.u32.bits)) (wrap64 (i4545 + 1)) h) ⟨rfl, ⟨rfl, rfl, rfl, rfl, rfl, rfl, rfl, rfl, rfl, trivial⟩, trivial, rfl, by decide, rfl, by decide⟩
    cases lF c4558 hb4553
    refine cf <| VC.exit <| VX.then <| VX.then <| VX.hit <| tr <| vm rfl <| vm rfl <| ?_
    replace h := iN h
    obtain ⟨c4563, h⟩ := h
    replace h := iN h
    obtain ⟨c4564, h⟩ := h
    refine va (op_indexAddrA Try.underlying147 TI108 rfl rfl c4563 c4564) <| ?_
    replace h := iN h
    obtain ⟨c4565, h⟩ := h
    refine s1 (o_storeE 0 rfl rfl rfl TI108 c4565) <| dn <| VN.block <| tr <| va (op_ari rfl rfl rfl) <| vm rfl <| dn <| VN.again [0, 1] [] (ihl5 (IntKind.u32.wrap (i4372 + 1)) (l4373.set i4372.toNat i4544) h) ⟨rfl, ⟨rfl, rfl, rfl, trivial⟩, trivial, rfl, by decide, rfl, by decide⟩
  cases lF c4473 hb4469
  refine cf <| VC.exit <| VX.then <| VX.then <| VX.hit <| tx <| ?_
  replace h := iN h
  obtain ⟨c4566, h⟩ := h
  refine va (op_loadA 0 rfl rfl TI147 c4566) <| ?_
  replace h := iN h
  obtain ⟨c4567, h⟩ := h
  refine s1 (o_storeA 1 rfl rfl rfl TI147 c4566 c4567) <| dt <| VC.ret <| ?_
  obtain rfl := Option.some.inj h
  exact VR.fn (rs := [.cell 0 147]) [] [] [] rfl (.cellA 1 rfl rfl TI147 c4566 .nil) ⟨rfl, rfl, rfl⟩ trivial rfl (by decide)

theorem check_On.ok (k : Nat) (a0 : Int) (a1 : ByteArray)  (r1 : Int) (h : check_On.f k a0 a1 = some r1) :
    VCalls Try.prog 100 [.int .u32 a0, .string a1] [] (fun v G own => v = .int .u32 r1 ∧ G = [] ∧ own = []) := by
  refine VCalls.intro Try.func100 rfl (len rfl) fun E hC hW hD hU => ?_
  unfold check_On.f at h
  refine sr <| vs rfl <| nx <| ?_
  replace h := bd h
  obtain ⟨r4568, hA4569, h⟩ := h
  refine sC (o_call0 FO102 (check_Table.ok k r4568 hA4569) rfl rfl (ltn rfl) (All_of .nil)) <| ?_
  rintro _ _ _ ⟨rfl, rfl, rfl⟩
  refine sG (o_alloc Z147 ZL147) fun g4570 => ?_
  replace h := iN h
  obtain ⟨c4571, h⟩ := h
  replace h := iN h
  obtain ⟨c4572, h⟩ := h
  refine s1 (o_storeA 0 rfl rfl rfl TI147 c4571 c4572) <| nx <| vm rfl <| va (op_bits rfl rfl rfl) <| vs rfl <| ds <| sr <| vm rfl <| va (op_lens Try.underlying9 rfl) <| vm rfl <| dt <| VC.block <|
   VC.loop2 (fun (i4605 : Int) (i4606 : Int) => ⟨29, [(0, .int .u32 i4605), (1, .string a1), (4, .int .u32 0), (5, .pointer (some ⟨g4570, 0, none⟩)), (11, .int .i64 (a1.size : Int)), (12, .int .i64 i4606)], [], [(g4570, 147, ints .u32 r4568)], []⟩) (fun (ml1 : Nat) (i4605 : Int) (i4606 : Int) => check_On.l1 k a1 r4568 ml1 i4605 i4606 = some r1) k (Go.bits .xor .u32 a0 4294967295) 0 [0] [] h ⟨rfl, ⟨rfl, rfl, rfl, rfl, rfl, rfl, trivial⟩, trivial, rfl, by decide, rfl, by decide⟩ (by intros; simp [check_On.l1]) <|
   ?_
  clear h
  intro ml1 ihl1 i4605 i4606 h
  simp only [check_On.l1] at h
  refine sr <| VL.letter (decide (i4606 < (a1.size : Int))) fun b4615 hb4615 => va (op_cmp rfl rfl (congrArg some hb4615)) <| ds <| ?_
  replace h := iC h
  rcases h with ⟨c4617, h⟩ | ⟨c4617, h⟩
  · cases lT c4617 hb4615
    refine ct <| sk <| sq <| VC.block <| sr <| vm rfl <| vs rfl <| dr <| vm rfl <| va (op_shr rfl rfl (by decide) rfl) <| vm rfl <| va (op_conv Try.underlying108 Try.underlying5 rfl rfl) <| vm rfl <| vm rfl <| ?_
    replace h := iN h
    obtain ⟨c4618, h⟩ := h
    replace h := iN h
    obtain ⟨c4619, h⟩ := h
    refine va (op_indexS Try.underlying9 rfl rfl c4618 c4619 rfl) <| va (op_bits rfl rfl rfl) <| ?_
    replace h := iN h
    obtain ⟨c4620, h⟩ := h
    replace h := iN h
    obtain ⟨c4621, h⟩ := h
    refine va (op_indexAddrA Try.underlying147 TI108 rfl rfl c4620 c4621) <| ?_
    replace h := bd h
    obtain ⟨t4622, ht4622, h⟩ := h
    refine va (op_loadE 0 rfl rfl TI108 ht4622) <| va (op_bits rfl rfl rfl) <| vs rfl <| dn <| VN.block <| tr <| va (op_ari64 rfl rfl rfl) <| vm rfl <| dn <|
     VN.again [0] [] (ihl1 (Go.bits .xor .u32 (i4605.fdiv (2 ^ min (8 : Int).toNat IntKind.u32.bits)) t4622) (wrap64 (i4606 + 1)) h) ⟨rfl, ⟨rfl, rfl, rfl, rfl, rfl, rfl, trivial⟩, trivial, rfl, by decide, rfl, by decide⟩
  cases lF c4617 hb4615
  refine cf <| VC.exit <| VX.then <| VX.then <| VX.hit <| tx <| vm rfl <| va (op_bits rfl rfl rfl) <| vs rfl <| dt <| VC.ret <| ?_
  obtain rfl := Option.some.inj h
  exact VR.fn (rs := [.tmp 4]) [] [] [] rfl (.tmp rfl .nil) ⟨rfl, rfl, rfl⟩ trivial rfl (by decide)

theorem check_Of.ok (k : Nat) (a0 : ByteArray)  (r1 : Int) (h : check_Of.f k a0 = some r1) :
    VCalls Try.prog 90 [.string a0] [] (fun v G own => v = .int .u32 r1 ∧ G = [] ∧ own = []) := by
  refine VCalls.intro Try.func90 rfl (len rfl) fun E hC hW hD hU => ?_
  unfold check_Of.f at h
  refine sr <| vs rfl <| nx <| vm rfl <| ?_
  replace h := bd h
  obtain ⟨t4623, hA4624, h⟩ := h
  refine sC (o_call0 FO100 (check_On.ok k 0 a0 t4623 hA4624) rfl rfl (ltn rfl) (All_of .nil)) <| ?_
  rintro _ _ _ ⟨rfl, rfl, rfl⟩
  refine vs rfl <| dt <| VC.ret <| ?_
  obtain rfl := Option.some.inj h
  exact VR.fn (rs := [.tmp 2]) [] [] [] rfl (.tmp rfl .nil) ⟨rfl, rfl, rfl⟩ trivial rfl (by decide)

theorem check_Bytes.ok (k : Nat) (a0 : Int)  (r1 : ByteArray) (h : check_Bytes.f k a0 = some r1) :
    VCalls Try.prog 89 [.int .u32 a0] [] (fun v G own => v = .string r1 ∧ G = [] ∧ own = []) := by
  refine VCalls.intro Try.func89 rfl (len rfl) fun E hC hW hD hU => ?_
  unfold check_Bytes.f at h
  refine sr <| vs rfl <| nx <| sG (o_alloc Z145 ZL145) fun g4627 => ds <| sr <| vm rfl <| dt <| VC.block <|
   VC.loop2 (fun (i4650 : Int) (l4651 : List Int) => ⟨18, [(0, .int .u32 a0), (2, .string (⟨#[]⟩ : ByteArray)), (3, .pointer (some ⟨g4627, 0, none⟩)), (5, .int .i64 i4650)], [], [(g4627, 145, ints .u8 l4651)], []⟩) (fun (ml1 : Nat) (i4650 : Int) (l4651 : List Int) => check_Bytes.l1 k a0 ml1 i4650 l4651 = some r1) k 0 (List.replicate 4 (0 : Int)) [0] [] h ⟨rfl, ⟨rfl, rfl, rfl, rfl, trivial⟩, trivial, rfl, by decide, rfl, by decide⟩ (by intros; simp [check_Bytes.l1]) <|
   ?_
  clear h
  intro ml1 ihl1 i4650 l4651 h
  simp only [check_Bytes.l1] at h
  refine sr <| VL.letter (decide (i4650 < 4)) fun b4659 hb4659 => va (op_cmp rfl rfl (congrArg some hb4659)) <| ds <| ?_
  replace h := iC h
  rcases h with ⟨c4662, h⟩ | ⟨c4662, h⟩
  · cases lT c4662 hb4659
    refine ct <| sk <| sq <| VC.block <| sr <| vm rfl <| vs rfl <| dr <| vm rfl <| vm rfl <| vm rfl <| va (op_ari64 rfl rfl rfl) <| ?_
    replace h := iN h
    obtain ⟨c4663, h⟩ := h
    refine va (op_shr rfl rfl c4663 rfl) <| va (op_conv Try.underlying108 Try.underlying5 rfl rfl) <| ?_
    replace h := iN h
    obtain ⟨c4664, h⟩ := h
    replace h := iN h
    obtain ⟨c4665, h⟩ := h
    refine va (op_indexAddrA Try.underlying145 TI5 rfl rfl c4664 c4665) <| ?_
    replace h := iN h
    obtain ⟨c4666, h⟩ := h
    refine s1 (o_storeE 0 rfl rfl rfl TI5 c4666) <| dn <| VN.block <| tr <| va (op_ari64 rfl rfl rfl) <| vm rfl <| dn <|
     VN.again [0] [] (ihl1 (wrap64 (i4650 + 1)) (l4651.set i4650.toNat (IntKind.u8.wrap (a0.fdiv (2 ^ min (wrap64 (8 * i4650)).toNat IntKind.u32.bits)))) h) ⟨rfl, ⟨rfl, rfl, rfl, rfl, trivial⟩, trivial, rfl, by decide, rfl, by decide⟩
  cases lF c4662 hb4659
  refine cf <| VC.exit <| VX.then <| VX.then <| VX.hit <| tx <| va (op_sliceB Try.underlying145 TI5 rfl) <| ?_
  replace h := iN h
  obtain ⟨c4667, h⟩ := h
  refine va (op_bytesStrB0 0 Try.underlying41 Try.underlying9 Try.underlying5 rfl rfl c4667) <| vs rfl <| dt <| VC.ret <| ?_
  obtain rfl := Option.some.inj h
  exact VR.fn (rs := [.tmp 2]) [] [] [] rfl (.tmp rfl .nil) ⟨rfl, rfl, rfl⟩ trivial rfl (by decide)

end Go.Proofs.Ytipeglbeongfmaa.PJournalKeeps
