/- Written by a program of this repo: what the program's functions do, each as a Lean function, shown of the loaded code; or a statement's row over that; no condition of its own. -/
import Derived.Test.YtipeglbeongfmaaPJournalLivesx3
namespace Go.Proofs.Ytipeglbeongfmaa.PJournalLives
open Go Go.RowKit Go.Proofs.YtipeglbeongfmaaV
set_option linter.unusedVariables false
set_option linter.unusedSimpArgs false
set_option maxHeartbeats 4000000
set_option maxRecDepth 100000

theorem journal_begin.ok (a0 : Int) (a1 : Int)  (r1 : Int) (h : journal_begin.f a0 a1 = some r1) :
    VCalls Try.prog 25 [.int .i64 a0, .int .i64 a1] [] (fun v G own => v = .int .i64 r1 ∧ G = [] ∧ own = []) := by
  refine VCalls.intro Try.func25 rfl (len rfl) fun E hC hW hD hU => ?_
  unfold journal_begin.f at h
  refine sr <| vs rfl <| nx <| vm rfl <| vm rfl <| va (op_ari64 rfl rfl rfl) <| va (op_quo rfl rfl (by decide) rfl) <| va (op_ari64 rfl rfl rfl) <| va (op_ari64 rfl rfl rfl) <| vs rfl <| dt <| VC.ret <| ?_
  obtain rfl := Option.some.inj h
  exact VR.fn (rs := [.tmp 4]) [] [] [] rfl (.tmp rfl .nil) ⟨rfl, rfl, rfl⟩ trivial rfl (by decide)

def lay_27_ren : Go.Shelf.Ren := ⟨fun | 156 => 27 | 165 => 57 | 166 => 58 | 169 => 59 | 240 => 77 | 241 => 78 | 276 => 91 | 277 => 92 | n => n, fun | 31 => 22 | 9 => 9 | 3 => 3 | 4 => 4 | 0 => 0 | 20 => 20 | 72 => 96 | 76 => 100 | 70 => 94 | 37 => 41 | 75 => 99 | 127 => 119 | 164 => 133 | 5 => 5 | 80 => 76 | n => n, fun | n => n⟩
theorem lay_27 : Go.Proofs.Lays.n156 Try.prog lay_27_ren where
  mixed := by kernel_rfl
  f156 := Try.func27.trans (congrArg some (by kernel_rfl))
  f165 := Try.func57.trans (congrArg some (by kernel_rfl))
  f166 := Try.func58.trans (congrArg some (by kernel_rfl))
  f169 := Try.func59.trans (congrArg some (by kernel_rfl))
  f240 := Try.func77.trans (congrArg some (by kernel_rfl))
  f241 := Try.func78.trans (congrArg some (by kernel_rfl))
  f276 := Try.func91.trans (congrArg some (by kernel_rfl))
  f277 := Try.func92.trans (congrArg some (by kernel_rfl))
  t0 := Try.underlying0
  a0 := Try.isAgg0
  z0 := Try.sizeOf0
  v0 := Try.zeroValue0
  t3 := Try.underlying3
  a3 := Try.isAgg3
  z3 := Try.sizeOf3
  v3 := Try.zeroValue3
  t4 := Try.underlying4
  a4 := Try.isAgg4
  z4 := Try.sizeOf4
  v4 := Try.zeroValue4
  t9 := Try.underlying9
  a9 := Try.isAgg9
  z9 := Try.sizeOf9
  v9 := Try.zeroValue9
  t20 := Try.underlying20
  a20 := Try.isAgg20
  z20 := Try.sizeOf20
  v20 := Try.zeroValue20
  t31 := Try.underlying22
  a31 := Try.isAgg22
  z31 := Try.sizeOf22
  v31 := Try.zeroValue22
  t37 := Try.underlying41
  a37 := Try.isAgg41
  z37 := Try.sizeOf41
  v37 := Try.zeroValue41
  t70 := Try.underlying94
  a70 := Try.isAgg94
  z70 := Try.sizeOf94
  v70 := Try.zeroValue94
  t72 := Try.underlying96
  a72 := Try.isAgg96
  z72 := Try.sizeOf96
  v72 := Try.zeroValue96
  t75 := Try.underlying99
  a75 := Try.isAgg99
  z75 := Try.sizeOf99
  v75 := Try.zeroValue99
  t76 := Try.underlying100
  a76 := Try.isAgg100
  z76 := Try.sizeOf100
  v76 := Try.zeroValue100
  t127 := Try.underlying119
  a127 := Try.isAgg119
  z127 := Try.sizeOf119
  v127 := Try.zeroValue119
  t164 := Try.underlying133
  a164 := Try.isAgg133
  z164 := Try.sizeOf133
  v164 := Try.zeroValue133
theorem lay_27x : Go.Proofs.Builder.Extra Try.prog lay_27_ren where
  sizeBuilder := by kernel_rfl
  liesBuilder := by kernel_rfl
  t5 := Try.underlying5
  a5 := Try.isAgg5
  z5 := Try.sizeOf5
  v5 := Try.zeroValue5
  infoByte := by kernel_rfl
  cellsByte := by kernel_rfl
  sizeByte := by kernel_rfl
  neB5 := by decide

theorem strings_Join.ok (l0 : List ByteArray) (s : ByteArray) (v0 : Value) (r1 : ByteArray) (h : strings_Join.f l0 s = some r1) :
    VCalls Try.prog 27 [v0, .string s] [.row v0 1 (l0.map enc_str)] (fun v G own => v = .string r1 ∧ G = [] ∧ own = []) := by
  unfold strings_Join.f at h
  by_cases hc : ¬ (l0.length ≤ 140737488355328 ∧ (Go.Lib.join (l0.map (·.data.toList)) s.data.toList).length ≤ 140737488355328)
  · rw [if_neg hc] at h; cases h
  replace hc := Decidable.not_not.1 hc
  rw [if_pos hc] at h
  obtain rfl := Option.some.inj h
  clear h
  intro C w hC hF
  obtain ⟨hfl, A, c, hv, h1, h2, h3, h4⟩ := hF _ (List.mem_singleton.2 rfl)
  subst hv
  rw [lenm] at h1 h3 ⊢
  cases l0 with
  | nil => exact (Go.Proofs.Any.strings_Join_none lay_27 lay_27x A c s w).mono fun e w' hq => ⟨_, [], [], hq.1, ⟨rfl, rfl, rfl⟩, by simp, by simp, by simp [ownBs], hq.2 ▸ Below.refl _ _⟩
  | cons x xs =>
    obtain ⟨ad, rfl, hCa⟩ := h3 (by simp)
    have hcell : ∀ (j : Nat) y, (x :: xs)[j]? = some y → w.cell? (ad.add j) = some (.string y) := by
      intro j y hy
      have := h4 j (enc_str y) (by rw [List.getElem?_map, hy]; rfl) ad rfl 0 (.string y) rfl
      simpa using this
    have h0 := hcell 0 x rfl
    have hadd : ad.add 0 = ad := rfl
    rw [hadd] at h0
    obtain ⟨bk, o, sp⟩ := ad
    have hsp : sp = none := by
      cases sp with
      | none => rfl
      | some q =>
        exfalso
        unfold World.cell? at h0
        split at h0
        · simp at h0
        · cases h0
    subst hsp
    refine (Go.Proofs.Any.strings_Join lay_27 lay_27x bk o c (x :: xs) s w (fun j y hy => ?_) (World.block_lt_of_cell? _ _ h0) hc.1 h1 hc.2).mono fun e w' hq => ⟨_, [], [], hq.1, ⟨rfl, rfl, rfl⟩, by simp, by simp, by simp [ownBs], hq.2⟩
    have := hcell j y hy
    rw [add_at] at this
    exact this

theorem pack_may.ok (a0 : Int)  (r1 : Bool) (h : pack_may.f a0 = some r1) :
    VCalls Try.prog 99 [.int .i64 a0] [] (fun v G own => v = .bool r1 ∧ G = [] ∧ own = []) := by
  refine VCalls.intro Try.func99 rfl (len rfl) fun E hC hW hD hU => ?_
  unfold pack_may.f at h
  refine sr <| vs rfl <| nx <| vm rfl <| VL.letter (decide (a0 ≥ (-1152921504606846976))) fun b2500 hb2500 => va (op_cmp rfl rfl (congrArg some hb2500)) <| vm rfl <| ?_
  replace h := iC h
  rcases h with ⟨c2501, h⟩ | ⟨c2501, h⟩
  · cases lT c2501 hb2500
    refine vm rfl <| VL.letter (decide (a0 ≤ 1152921504606846976)) fun b2502 hb2502 => va (op_cmp rfl rfl (congrArg some hb2502)) <| va (op_pick rfl rfl) <| vs rfl <| dt <| VC.ret <| ?_
    obtain rfl := Option.some.inj h
    subst hb2502
    exact VR.fn (rs := [.tmp 2]) [] [] [] rfl (.tmp rfl .nil) ⟨rfl, rfl, rfl⟩ trivial rfl (by decide)
  cases lF c2501 hb2500
  refine un rfl <| un rfl <| va (op_pick rfl rfl) <| vs rfl <| dt <| VC.ret <| ?_
  obtain rfl := Option.some.inj h
  exact VR.fn (rs := [.tmp 2]) [] [] [] rfl (.tmp rfl .nil) ⟨rfl, rfl, rfl⟩ trivial rfl (by decide)

theorem pack_ReadNumber.ok (k : Nat) (a0 : ByteArray)  (r1 : Int) (r2 : ByteArray) (r3 : Int) (h : pack_ReadNumber.f k a0 = some (r1, r2, r3)) :
    VCalls Try.prog 88 [.string a0] [] (fun v G own => v = .tuple #[.int .i64 r1, .string r2, .int .i64 r3] ∧ G = [] ∧ own = []) := by
  refine VCalls.intro Try.func88 rfl (len rfl) fun E hC hW hD hU => ?_
  unfold pack_ReadNumber.f at h
  refine sr <| vs rfl <| vs rfl <| vs rfl <| nx <| vs rfl <| ds <| sr <| vm rfl <| va (op_lens Try.underlying9 rfl) <| va (op_min rfl rfl) <| vm rfl <| dt <| VC.block <|
   VC.loop2 (fun (i3594 : Int) (i3595 : Int) => ⟨56, [(0, .string a0), (2, .int .i64 0), (3, .string (⟨#[]⟩ : ByteArray)), (4, .int .i64 0), (5, .int .i64 i3594), (11, .int .i64 (mn (a0.size : Int) 9)), (12, .int .i64 i3595)], [], [], []⟩) (fun (ml3 : Nat) (i3594 : Int) (i3595 : Int) => pack_ReadNumber.l3 k a0 ml3 i3594 i3595 = some (r1, r2, r3)) k 0 0 [] [] h ⟨rfl, ⟨rfl, rfl, rfl, rfl, rfl, rfl, rfl, trivial⟩, trivial, rfl, by decide, rfl, by decide⟩ (by intros; simp [pack_ReadNumber.l3]) <|
   ?_
  clear h
  intro ml3 ihl3 i3594 i3595 h
  simp only [pack_ReadNumber.l3] at h
  refine sr <| VL.letter (decide (i3595 < (mn (a0.size : Int) 9))) fun b3897 hb3897 => va (op_cmp rfl rfl (congrArg some hb3897)) <| ds <| ?_
  replace h := iC h
  rcases h with ⟨c3903, h⟩ | ⟨c3903, h⟩
  · cases lT c3903 hb3897
    refine ct <| sk <| sq <| VC.block <| sr <| vm rfl <| vs rfl <| nx <| vm rfl <| vm rfl <| ?_
    replace h := iN h
    obtain ⟨c4053, h⟩ := h
    replace h := iN h
    obtain ⟨c4054, h⟩ := h
    refine va (op_indexS Try.underlying9 rfl rfl c4053 c4054 rfl) <| va (op_conv Try.underlying5 Try.underlying3 rfl (i64w _)) <| vs rfl <| nx <| vm rfl <| vm rfl <| va (op_rem rfl rfl (by decide) rfl) <| vm rfl <| va (op_ari64 rfl rfl rfl) <| ?_
    replace h := iN h
    obtain ⟨c4055, h⟩ := h
    refine va (op_shl rfl rfl c4055 rfl) <| va (op_bits rfl rfl rfl) <| vs rfl <| ds <| sr <| vm rfl <| VL.letter (decide ((wrap64 (bt a0 i3595)) ≥ 128)) fun b4058 hb4058 => va (op_cmp rfl rfl (congrArg some hb4058)) <| dt <| ?_
    replace h := iC h
    rcases h with ⟨c4059, h⟩ | ⟨c4059, h⟩
    · cases lT c4059 hb4058
      refine ct <| VC.exit <| VX.then <| VX.hit <| tr <| va (op_ari64 rfl rfl rfl) <| vm rfl <| dn <|
       VN.again [] [] (ihl3 (Go.bits .or .i64 i3594 (IntKind.i64.wrap (((wrap64 (bt a0 i3595)).tmod 128) * 2 ^ min (wrap64 (7 * i3595)).toNat IntKind.i64.bits))) (wrap64 (i3595 + 1)) h) ⟨rfl, ⟨rfl, rfl, rfl, rfl, rfl, rfl, rfl, trivial⟩, trivial, rfl, by decide, rfl, by decide⟩
    cases lF c4059 hb4058
    refine cf <| sk <| sr <| vm rfl <| va (op_quo rfl rfl (by decide) rfl) <| vs rfl <| dt <|
     VC.join2 (fun (i4156 : Int) (q4157 : Bool) => ⟨56, [(0, .string a0), (2, .int .i64 0), (3, .string (⟨#[]⟩ : ByteArray)), (4, .int .i64 0), (5, .int .i64 (Go.bits .or .i64 i3594 (IntKind.i64.wrap (((wrap64 (bt a0 i3595)).tmod 128) * 2 ^ min (wrap64 (7 * i3595)).toNat IntKind.i64.bits)))), (6, .int .i64 i3595), (7, .int .i64 (wrap64 (bt a0 i3595))), (8, .int .i64 i4156), (11, .int .i64 (mn (a0.size : Int) 9)), (12, .int .i64 i3595), (13, .bool true), (14, .int .i64 i3595), (15, .string a0), (16, .int .i64 i3595), (17, .int .u8 (bt a0 i3595)), (18, .int .i64 (wrap64 (bt a0 i3595))), (19, .int .i64 i3594), (20, .int .i64 (wrap64 (bt a0 i3595))), (21, .int .i64 ((wrap64 (bt a0 i3595)).tmod 128)), (22, .int .i64 i3595), (23, .int .i64 (wrap64 (7 * i3595))), (24, .int .i64 (IntKind.i64.wrap (((wrap64 (bt a0 i3595)).tmod 128) * 2 ^ min (wrap64 (7 * i3595)).toNat IntKind.i64.bits))), (25, .int .i64 (Go.bits .or .i64 i3594 (IntKind.i64.wrap (((wrap64 (bt a0 i3595)).tmod 128) * 2 ^ min (wrap64 (7 * i3595)).toNat IntKind.i64.bits)))), (26, .int .i64 (wrap64 (bt a0 i3595))), (27, .bool false), (28, .int .i64 (Go.bits .or .i64 i3594 (IntKind.i64.wrap (((wrap64 (bt a0 i3595)).tmod 128) * 2 ^ min (wrap64 (7 * i3595)).toNat IntKind.i64.bits)))), (29, .int .i64 (IntKind.i64.wrap ((Go.bits .or .i64 i3594 (IntKind.i64.wrap (((wrap64 (bt a0 i3595)).tmod 128) * 2 ^ min (wrap64 (7 * i3595)).toNat IntKind.i64.bits))).tdiv 2))), (30, .int .i64 (Go.bits .or .i64 i3594 (IntKind.i64.wrap (((wrap64 (bt a0 i3595)).tmod 128) * 2 ^ min (wrap64 (7 * i3595)).toNat IntKind.i64.bits)))), (31, .int .i64 ((Go.bits .or .i64 i3594 (IntKind.i64.wrap (((wrap64 (bt a0 i3595)).tmod 128) * 2 ^ min (wrap64 (7 * i3595)).toNat IntKind.i64.bits))).tmod 2)), (32, .bool q4157)], [], [], []⟩) (fun (i4156 : Int) (q4157 : Bool) => pack_ReadNumber.j5 k a0 i3595 i4156 q4157 = some (r1, r2, r3)) ?_ ?_
    · refine sr <| vm rfl <| va (op_rem rfl rfl (by decide) rfl) <| VL.letter ((((Go.bits .or .i64 i3594 (IntKind.i64.wrap (((wrap64 (bt a0 i3595)).tmod 128) * 2 ^ min (wrap64 (7 * i3595)).toNat IntKind.i64.bits))).tmod 2) == 1)) fun b4154 hb4154 => va (op_cmp rfl rfl (congrArg some hb4154)) <| dt <| ?_
      replace h := iC h
      rcases h with ⟨c4155, h⟩ | ⟨c4155, h⟩
      · obtain rfl : b4154 = true := hb4154.symm.trans (beq_iff_eq.2 c4155)
        refine ct <| rg <| vm rfl <| va (op_neg rfl (i64w _)) <| va (op_ari64 rfl rfl rfl) <| vs rfl <| dn <|
         VN.meet2 (wrap64 ((wrap64 (0 - (IntKind.i64.wrap ((Go.bits .or .i64 i3594 (IntKind.i64.wrap (((wrap64 (bt a0 i3595)).tmod 128) * 2 ^ min (wrap64 (7 * i3595)).toNat IntKind.i64.bits))).tdiv 2)))) - 1)) true [] [] h ⟨rfl, ⟨rfl, rfl, rfl, rfl, rfl, rfl, rfl, rfl, rfl, rfl, rfl, rfl, rfl, rfl, rfl, rfl, rfl, rfl, rfl, rfl, rfl, rfl, rfl, rfl, rfl, rfl, rfl, rfl, rfl, rfl, trivial⟩, trivial, rfl, by decide, rfl, by decide⟩
      obtain rfl : b4154 = false := hb4154.symm.trans (beq_eq_false_iff_ne.2 c4155)
      refine cf <| VC.skip <| VN.meet2 (IntKind.i64.wrap ((Go.bits .or .i64 i3594 (IntKind.i64.wrap (((wrap64 (bt a0 i3595)).tmod 128) * 2 ^ min (wrap64 (7 * i3595)).toNat IntKind.i64.bits))).tdiv 2)) false [] [] h ⟨rfl, ⟨rfl, rfl, rfl, rfl, rfl, rfl, rfl, rfl, rfl, rfl, rfl, rfl, rfl, rfl, rfl, rfl, rfl, rfl, rfl, rfl, rfl, rfl, rfl, rfl, rfl, rfl, rfl, rfl, rfl, rfl, trivial⟩, trivial, rfl, by decide, rfl, by decide⟩
    clear h
    intro i4156 q4157 h
    unfold pack_ReadNumber.j5 at h
    refine sq <| sr <| vm rfl <| VL.letter (((wrap64 (bt a0 i3595)) == 0)) fun b4188 hb4188 => va (op_cmp rfl rfl (congrArg some hb4188)) <| vm rfl <| ?_
    replace h := iC h
    rcases h with ⟨c4189, h⟩ | ⟨c4189, h⟩
    · obtain rfl : b4188 = true := hb4188.symm.trans (beq_iff_eq.2 c4189)
      refine vm rfl <| VL.letter (decide (i3595 > 0)) fun b4190 hb4190 => va (op_cmp rfl rfl (congrArg some hb4190)) <| va (op_pick rfl rfl) <| vm rfl <| ?_
      replace h := iC h
      rcases h with ⟨c4191, h⟩ | ⟨c4191, h⟩
      · cases lT c4191 hb4190
        refine un rfl <| un rfl <| un rfl <| va (op_pick rfl rfl) <| dt <| ct <| sr <| vs rfl <| vs rfl <| vs rfl <| dt <| VC.ret <| VR.then <| VR.block <| VR.then <| VR.then <| VR.block <| VR.then <| ?_
        simp only [Option.some.injEq, Prod.mk.injEq] at h
        obtain ⟨rfl, rfl, rfl⟩ := h
        exact VR.fn (rs := [.tmp 2, .tmp 3, .tmp 4]) [] [] [] rfl (.tmp rfl (.tmp rfl (.tmp rfl .nil))) ⟨rfl, rfl, rfl⟩ trivial rfl (by decide)
      cases lF c4191 hb4190
      refine vm rfl <| ?_
      replace h := bd h
      obtain ⟨t4192, hA4193, h⟩ := h
      refine sC (o_call0 FO99 (pack_may.ok i4156 t4192 hA4193) rfl rfl (ltn rfl) (All_of .nil)) <| ?_
      rintro _ _ _ ⟨rfl, rfl, rfl⟩
      replace h := iC h
      rcases h with ⟨c4194, h⟩ | ⟨c4194, h⟩
      · obtain rfl := c4194
        refine va (op_not rfl rfl) <| va (op_pick rfl rfl) <| dt <| cf <| sk <| ?_
        replace h := iN h
        obtain ⟨c4195, h⟩ := h
        replace h := iN h
        obtain ⟨c4196, h⟩ := h
        refine VC.join0 (⟨56, [(0, .string a0), (2, .int .i64 i4156), (3, .string (a0.extract ((wrap64 (i3595 + 1)).toNat) a0.size)), (4, .int .i64 0), (5, .int .i64 (Go.bits .or .i64 i3594 (IntKind.i64.wrap (((wrap64 (bt a0 i3595)).tmod 128) * 2 ^ min (wrap64 (7 * i3595)).toNat IntKind.i64.bits)))), (6, .int .i64 i3595), (7, .int .i64 (wrap64 (bt a0 i3595))), (8, .int .i64 i4156), (11, .int .i64 (mn (a0.size : Int) 9)), (12, .int .i64 i3595), (13, .bool true), (14, .int .i64 i3595), (15, .string a0), (16, .int .i64 i3595), (17, .int .u8 (bt a0 i3595)), (18, .int .i64 (wrap64 (bt a0 i3595))), (19, .int .i64 i3594), (20, .int .i64 (wrap64 (bt a0 i3595))), (21, .int .i64 ((wrap64 (bt a0 i3595)).tmod 128)), (22, .int .i64 i3595), (23, .int .i64 (wrap64 (7 * i3595))), (24, .int .i64 (IntKind.i64.wrap (((wrap64 (bt a0 i3595)).tmod 128) * 2 ^ min (wrap64 (7 * i3595)).toNat IntKind.i64.bits))), (25, .int .i64 (Go.bits .or .i64 i3594 (IntKind.i64.wrap (((wrap64 (bt a0 i3595)).tmod 128) * 2 ^ min (wrap64 (7 * i3595)).toNat IntKind.i64.bits)))), (26, .int .i64 (wrap64 (bt a0 i3595))), (27, .bool false), (28, .int .i64 (Go.bits .or .i64 i3594 (IntKind.i64.wrap (((wrap64 (bt a0 i3595)).tmod 128) * 2 ^ min (wrap64 (7 * i3595)).toNat IntKind.i64.bits)))), (29, .int .i64 (IntKind.i64.wrap ((Go.bits .or .i64 i3594 (IntKind.i64.wrap (((wrap64 (bt a0 i3595)).tmod 128) * 2 ^ min (wrap64 (7 * i3595)).toNat IntKind.i64.bits))).tdiv 2))), (30, .int .i64 (Go.bits .or .i64 i3594 (IntKind.i64.wrap (((wrap64 (bt a0 i3595)).tmod 128) * 2 ^ min (wrap64 (7 * i3595)).toNat IntKind.i64.bits)))), (31, .int .i64 ((Go.bits .or .i64 i3594 (IntKind.i64.wrap (((wrap64 (bt a0 i3595)).tmod 128) * 2 ^ min (wrap64 (7 * i3595)).toNat IntKind.i64.bits))).tmod 2)), (32, .bool q4157), (36, .int .i64 (wrap64 (bt a0 i3595))), (37, .bool true), (38, .bool true), (39, .int .i64 i3595), (40, .bool false), (41, .bool false), (42, .bool false), (43, .int .i64 i4156), (44, .bool true), (45, .bool false), (46, .bool false), (47, .int .i64 i4156), (48, .string a0), (49, .int .i64 i3595), (50, .int .i64 (wrap64 (i3595 + 1))), (51, .string (a0.extract ((wrap64 (i3595 + 1)).toNat) a0.size))], [], [], []⟩) (True) ?_ ?_
        · exact VC.draw ⟨0, [], [], [], []⟩ (by kernel_rfl) rfl (by kernel_rfl) (n := 8) (listed := LB 8 0) <| av 0 1 rfl (mv rfl) <| av 1 3 rfl (mv rfl) <| av 2 7 rfl (mv rfl) <| av 3 15 rfl (op_ari64 rfl rfl rfl) <|
           av 4 31 rfl (op_sliceS ((wrap64 (i3595 + 1)).toNat) a0.size Try.underlying9 rfl ⟨⟨_, _, rfl, c4195, rfl⟩, rfl, tN (a := (wrap64 (i3595 + 1))) (b := (a0.size : Int)) rfl rfl c4196, Nat.le_refl _⟩ rfl) <| av 5 63 rfl (ag rfl) <| av 6 127 rfl (ag rfl) <| av 7 255 rfl (ag rfl) <|
           VA.done (by kernel_rfl) <| VN.meet0  [] [] trivial ⟨rfl, ⟨rfl, rfl, rfl, rfl, rfl, rfl, rfl, rfl, rfl, rfl, rfl, rfl, rfl, rfl, rfl, rfl, rfl, rfl, rfl, rfl, rfl, rfl, rfl, rfl, rfl, rfl, rfl, rfl, rfl, rfl, rfl, rfl, rfl, rfl, rfl, rfl, rfl, rfl, rfl, rfl, rfl, rfl, rfl, rfl, rfl, rfl, trivial⟩, trivial, rfl, by decide, rfl, by decide⟩
        intro _
        refine VC.ret <| VR.block <| VR.then <| VR.then <| VR.block <| VR.then <| ?_
        simp only [Option.some.injEq, Prod.mk.injEq] at h
        obtain ⟨rfl, rfl, rfl⟩ := h
        exact VR.fn (rs := [.tmp 2, .tmp 3, .tmp 4]) [] [] [] rfl (.tmp rfl (.tmp rfl (.tmp rfl .nil))) ⟨rfl, rfl, rfl⟩ trivial rfl (by decide)
      obtain rfl := Bool.eq_false_iff.2 c4194
      refine va (op_not rfl rfl) <| va (op_pick rfl rfl) <| dt <| ct <| sr <| vs rfl <| vs rfl <| vs rfl <| dt <| VC.ret <| VR.then <| VR.block <| VR.then <| VR.then <| VR.block <| VR.then <| ?_
      simp only [Option.some.injEq, Prod.mk.injEq] at h
      obtain ⟨rfl, rfl, rfl⟩ := h
      exact VR.fn (rs := [.tmp 2, .tmp 3, .tmp 4]) [] [] [] rfl (.tmp rfl (.tmp rfl (.tmp rfl .nil))) ⟨rfl, rfl, rfl⟩ trivial rfl (by decide)
    obtain rfl : b4188 = false := hb4188.symm.trans (beq_eq_false_iff_ne.2 c4189)
    refine un rfl <| un rfl <| va (op_pick rfl rfl) <| vm rfl <| vm rfl <| ?_
    replace h := bd h
    obtain ⟨t4197, hA4198, h⟩ := h
    refine sC (o_call0 FO99 (pack_may.ok i4156 t4197 hA4198) rfl rfl (ltn rfl) (All_of .nil)) <| ?_
    rintro _ _ _ ⟨rfl, rfl, rfl⟩
    replace h := iC h
    rcases h with ⟨c4199, h⟩ | ⟨c4199, h⟩
    · obtain rfl := c4199
      refine va (op_not rfl rfl) <| va (op_pick rfl rfl) <| dt <| cf <| sk <| ?_
      replace h := iN h
      obtain ⟨c4200, h⟩ := h
      replace h := iN h
      obtain ⟨c4201, h⟩ := h
      refine VC.join0 (⟨56, [(0, .string a0), (2, .int .i64 i4156), (3, .string (a0.extract ((wrap64 (i3595 + 1)).toNat) a0.size)), (4, .int .i64 0), (5, .int .i64 (Go.bits .or .i64 i3594 (IntKind.i64.wrap (((wrap64 (bt a0 i3595)).tmod 128) * 2 ^ min (wrap64 (7 * i3595)).toNat IntKind.i64.bits)))), (6, .int .i64 i3595), (7, .int .i64 (wrap64 (bt a0 i3595))), (8, .int .i64 i4156), (11, .int .i64 (mn (a0.size : Int) 9)), (12, .int .i64 i3595), (13, .bool true), (14, .int .i64 i3595), (15, .string a0), (16, .int .i64 i3595), (17, .int .u8 (bt a0 i3595)), (18, .int .i64 (wrap64 (bt a0 i3595))), (19, .int .i64 i3594), (20, .int .i64 (wrap64 (bt a0 i3595))), (21, .int .i64 ((wrap64 (bt a0 i3595)).tmod 128)), (22, .int .i64 i3595), (23, .int .i64 (wrap64 (7 * i3595))), (24, .int .i64 (IntKind.i64.wrap (((wrap64 (bt a0 i3595)).tmod 128) * 2 ^ min (wrap64 (7 * i3595)).toNat IntKind.i64.bits))), (25, .int .i64 (Go.bits .or .i64 i3594 (IntKind.i64.wrap (((wrap64 (bt a0 i3595)).tmod 128) * 2 ^ min (wrap64 (7 * i3595)).toNat IntKind.i64.bits)))), (26, .int .i64 (wrap64 (bt a0 i3595))), (27, .bool false), (28, .int .i64 (Go.bits .or .i64 i3594 (IntKind.i64.wrap (((wrap64 (bt a0 i3595)).tmod 128) * 2 ^ min (wrap64 (7 * i3595)).toNat IntKind.i64.bits)))), (29, .int .i64 (IntKind.i64.wrap ((Go.bits .or .i64 i3594 (IntKind.i64.wrap (((wrap64 (bt a0 i3595)).tmod 128) * 2 ^ min (wrap64 (7 * i3595)).toNat IntKind.i64.bits))).tdiv 2))), (30, .int .i64 (Go.bits .or .i64 i3594 (IntKind.i64.wrap (((wrap64 (bt a0 i3595)).tmod 128) * 2 ^ min (wrap64 (7 * i3595)).toNat IntKind.i64.bits)))), (31, .int .i64 ((Go.bits .or .i64 i3594 (IntKind.i64.wrap (((wrap64 (bt a0 i3595)).tmod 128) * 2 ^ min (wrap64 (7 * i3595)).toNat IntKind.i64.bits))).tmod 2)), (32, .bool q4157), (36, .int .i64 (wrap64 (bt a0 i3595))), (37, .bool false), (38, .bool false), (39, undef), (40, undef), (41, .bool false), (42, .bool false), (43, .int .i64 i4156), (44, .bool true), (45, .bool false), (46, .bool false), (47, .int .i64 i4156), (48, .string a0), (49, .int .i64 i3595), (50, .int .i64 (wrap64 (i3595 + 1))), (51, .string (a0.extract ((wrap64 (i3595 + 1)).toNat) a0.size))], [], [], []⟩) (True) ?_ ?_
      · exact VC.draw ⟨0, [], [], [], []⟩ (by kernel_rfl) rfl (by kernel_rfl) (n := 8) (listed := LB 8 0) <| av 0 1 rfl (mv rfl) <| av 1 3 rfl (mv rfl) <| av 2 7 rfl (mv rfl) <| av 3 15 rfl (op_ari64 rfl rfl rfl) <|
         av 4 31 rfl (op_sliceS ((wrap64 (i3595 + 1)).toNat) a0.size Try.underlying9 rfl ⟨⟨_, _, rfl, c4200, rfl⟩, rfl, tN (a := (wrap64 (i3595 + 1))) (b := (a0.size : Int)) rfl rfl c4201, Nat.le_refl _⟩ rfl) <| av 5 63 rfl (ag rfl) <| av 6 127 rfl (ag rfl) <| av 7 255 rfl (ag rfl) <|
         VA.done (by kernel_rfl) <| VN.meet0  [] [] trivial ⟨rfl, ⟨rfl, rfl, rfl, rfl, rfl, rfl, rfl, rfl, rfl, rfl, rfl, rfl, rfl, rfl, rfl, rfl, rfl, rfl, rfl, rfl, rfl, rfl, rfl, rfl, rfl, rfl, rfl, rfl, rfl, rfl, rfl, rfl, rfl, rfl, rfl, rfl, rfl, rfl, rfl, rfl, rfl, rfl, rfl, rfl, rfl, rfl, trivial⟩, trivial, rfl, by decide, rfl, by decide⟩
      intro _
      refine VC.ret <| VR.block <| VR.then <| VR.then <| VR.block <| VR.then <| ?_
      simp only [Option.some.injEq, Prod.mk.injEq] at h
      obtain ⟨rfl, rfl, rfl⟩ := h
      exact VR.fn (rs := [.tmp 2, .tmp 3, .tmp 4]) [] [] [] rfl (.tmp rfl (.tmp rfl (.tmp rfl .nil))) ⟨rfl, rfl, rfl⟩ trivial rfl (by decide)
    obtain rfl := Bool.eq_false_iff.2 c4199
    refine va (op_not rfl rfl) <| va (op_pick rfl rfl) <| dt <| ct <| sr <| vs rfl <| vs rfl <| vs rfl <| dt <| VC.ret <| VR.then <| VR.block <| VR.then <| VR.then <| VR.block <| VR.then <| ?_
    simp only [Option.some.injEq, Prod.mk.injEq] at h
    obtain ⟨rfl, rfl, rfl⟩ := h
    exact VR.fn (rs := [.tmp 2, .tmp 3, .tmp 4]) [] [] [] rfl (.tmp rfl (.tmp rfl (.tmp rfl .nil))) ⟨rfl, rfl, rfl⟩ trivial rfl (by decide)
  cases lF c3903 hb3897
  refine cf <| VC.exit <| VX.then <| VX.then <| VX.hit <| ts <| sr <| vm rfl <| va (op_lens Try.underlying9 rfl) <| VL.letter (decide ((a0.size : Int) ≥ 9)) fun b4204 hb4204 => va (op_cmp rfl rfl (congrArg some hb4204)) <| dt <| ?_
  replace h := iC h
  rcases h with ⟨c4205, h⟩ | ⟨c4205, h⟩
  · cases lT c4205 hb4204
    refine ct <| sr <| vs rfl <| vs rfl <| vs rfl <| dt <| VC.ret <| VR.then <| ?_
    simp only [Option.some.injEq, Prod.mk.injEq] at h
    obtain ⟨rfl, rfl, rfl⟩ := h
    exact VR.fn (rs := [.tmp 2, .tmp 3, .tmp 4]) [] [] [] rfl (.tmp rfl (.tmp rfl (.tmp rfl .nil))) ⟨rfl, rfl, rfl⟩ trivial rfl (by decide)
  cases lF c4205 hb4204
  refine cf <| sk <| sr <| vs rfl <| vs rfl <| vs rfl <| dt <| VC.ret <| ?_
  simp only [Option.some.injEq, Prod.mk.injEq] at h
  obtain ⟨rfl, rfl, rfl⟩ := h
  exact VR.fn (rs := [.tmp 2, .tmp 3, .tmp 4]) [] [] [] rfl (.tmp rfl (.tmp rfl (.tmp rfl .nil))) ⟨rfl, rfl, rfl⟩ trivial rfl (by decide)

theorem check_Table.ok (k : Nat)   (r1 : List Int) (h : check_Table.f k = some r1) :
    VCalls Try.prog 102 [] [] (fun v G own => v = .agg (ints .u32 r1).toArray ∧ G = [] ∧ own = []) := by
  refine VCalls.intro Try.func102 rfl (len rfl) fun E hC hW hD hU => ?_
  unfold check_Table.f at h
  refine sr <| sG (o_alloc Z147 ZL147) fun g4245 => nx <| sG (o_alloc Z147 ZL147) fun g4246 => ds <| sr <| vm rfl <| dt <| VC.block <|
   VC.loop2 (fun (i4615 : Int) (l4616 : List Int) => ⟨25, [(0, .pointer (some ⟨g4245, 0, none⟩)), (1, .pointer (some ⟨g4246, 0, none⟩)), (5, .int .u32 i4615)], [], [(g4246, 147, ints .u32 l4616), (g4245, 147, ints .u32 (List.replicate 256 (0 : Int)))], []⟩) (fun (ml5 : Nat) (i4615 : Int) (l4616 : List Int) => check_Table.l5 k ml5 i4615 l4616 = some r1) k 0 (List.replicate 256 (0 : Int)) [0, 1] [] h ⟨rfl, ⟨rfl, rfl, rfl, trivial⟩, trivial, rfl, by decide, rfl, by decide⟩ (by intros; simp [check_Table.l5]) <|
   ?_
  clear h
  intro ml5 ihl5 i4615 l4616 h
  simp only [check_Table.l5] at h
  refine sr <| VL.letter (decide (i4615 < 256)) fun b4712 hb4712 => va (op_cmp rfl rfl (congrArg some hb4712)) <| ds <| ?_
  replace h := iC h
  rcases h with ⟨c4716, h⟩ | ⟨c4716, h⟩
  · cases lT c4716 hb4712
    refine ct <| sk <| sq <| VC.block <| sr <| vm rfl <| vs rfl <| nx <| vm rfl <| vs rfl <| ds <| sr <| vm rfl <| dt <| VC.block <|
     VC.loop2 (fun (i4787 : Int) (i4788 : Int) => ⟨25, [(0, .pointer (some ⟨g4245, 0, none⟩)), (1, .pointer (some ⟨g4246, 0, none⟩)), (2, .int .u32 i4615), (3, .int .u32 i4787), (5, .int .u32 i4615), (6, .bool true), (7, .int .u32 i4615), (8, .int .u32 i4615), (9, .int .i64 i4788)], [], [(g4246, 147, ints .u32 l4616), (g4245, 147, ints .u32 (List.replicate 256 (0 : Int)))], []⟩) (fun (ml9 : Nat) (i4787 : Int) (i4788 : Int) => check_Table.l9 k (check_Table.l5 k ml5) i4615 l4616 ml9 i4787 i4788 = some r1) k i4615 0 [0, 1] [] h ⟨rfl, ⟨rfl, rfl, rfl, rfl, rfl, rfl, rfl, rfl, rfl, trivial⟩, trivial, rfl, by decide, rfl, by decide⟩ (by intros; simp [check_Table.l9]) <|
     ?_
    clear h
    intro ml9 ihl9 i4787 i4788 h
    simp only [check_Table.l9] at h
    refine sr <| VL.letter (decide (i4788 < 8)) fun b4796 hb4796 => va (op_cmp rfl rfl (congrArg some hb4796)) <| ds <| ?_
    replace h := iC h
    rcases h with ⟨c4801, h⟩ | ⟨c4801, h⟩
    · cases lT c4801 hb4796
      refine ct <| sk <| sq <| VC.block <| sr <| vm rfl <| va (op_bits rfl rfl rfl) <| vs rfl <| nx <| vm rfl <| va (op_shr rfl rfl (by decide) rfl) <| vs rfl <| nx <| vm rfl <| VL.letter (((Go.bits .and .u32 i4787 1) == 1)) fun b4804 hb4804 => va (op_cmp rfl rfl (congrArg some hb4804)) <| dt <| ?_
      replace h := iC h
      rcases h with ⟨c4805, h⟩ | ⟨c4805, h⟩
      · obtain rfl : b4804 = true := hb4804.symm.trans (beq_iff_eq.2 c4805)
        refine ct <| rg <| vm rfl <| va (op_bits rfl rfl rfl) <| vs rfl <| dn <| VN.block <| tr <| va (op_ari64 rfl rfl rfl) <| vm rfl <| dn <|
         VN.again [0, 1] [] (ihl9 (Go.bits .xor .u32 (i4787.fdiv (2 ^ min (1 : Int).toNat IntKind.u32.bits)) 2197175160) (wrap64 (i4788 + 1)) h) ⟨rfl, ⟨rfl, rfl, rfl, rfl, rfl, rfl, rfl, rfl, rfl, trivial⟩, trivial, rfl, by decide, rfl, by decide⟩
      obtain rfl : b4804 = false := hb4804.symm.trans (beq_eq_false_iff_ne.2 c4805)
      refine cf <| VC.skip <| VN.block <| tr <| va (op_ari64 rfl rfl rfl) <| vm rfl <| dn <| VN.again [0, 1] [] (ihl9 (i4787.fdiv (2 ^ min (1 : Int).toNat IntKind.u32.bits)) (wrap64 (i4788 + 1)) h) ⟨rfl, ⟨rfl, rfl, rfl, rfl, rfl, rfl, rfl, rfl, rfl, trivial⟩, trivial, rfl, by decide, rfl, by decide⟩
    cases lF c4801 hb4796
    refine cf <| VC.exit <| VX.then <| VX.then <| VX.hit <| tr <| vm rfl <| vm rfl <| ?_
    replace h := iN h
    obtain ⟨c4806, h⟩ := h
    replace h := iN h
    obtain ⟨c4807, h⟩ := h
    refine va (op_indexAddrA Try.underlying147 TI108 rfl rfl c4806 c4807) <| ?_
    replace h := iN h
    obtain ⟨c4808, h⟩ := h
    refine s1 (o_storeE 0 rfl rfl rfl TI108 c4808) <| dn <| VN.block <| tr <| va (op_ari rfl rfl rfl) <| vm rfl <| dn <| VN.again [0, 1] [] (ihl5 (IntKind.u32.wrap (i4615 + 1)) (l4616.set i4615.toNat i4787) h) ⟨rfl, ⟨rfl, rfl, rfl, trivial⟩, trivial, rfl, by decide, rfl, by decide⟩
  cases lF c4716 hb4712
  refine cf <| VC.exit <| VX.then <| VX.then <| VX.hit <| tx <| ?_
  replace h := iN h
  obtain ⟨c4809, h⟩ := h
  refine va (op_loadA 0 rfl rfl TI147 c4809) <| ?_
  replace h := iN h
  obtain ⟨c4810, h⟩ := h
  refine s1 (o_storeA 1 rfl rfl rfl TI147 c4809 c4810) <| dt <| VC.ret <| ?_
  obtain rfl := Option.some.inj h
  exact VR.fn (rs := [.cell 0 147]) [] [] [] rfl (.cellA 1 rfl rfl TI147 c4809 .nil) ⟨rfl, rfl, rfl⟩ trivial rfl (by decide)

theorem check_On.ok (k : Nat) (a0 : Int) (a1 : ByteArray)  (r1 : Int) (h : check_On.f k a0 a1 = some r1) :
    VCalls Try.prog 100 [.int .u32 a0, .string a1] [] (fun v G own => v = .int .u32 r1 ∧ G = [] ∧ own = []) := by
  refine VCalls.intro Try.func100 rfl (len rfl) fun E hC hW hD hU => ?_
  unfold check_On.f at h
  refine sr <| vs rfl <| nx <| ?_
  replace h := bd h
  obtain ⟨r4811, hA4812, h⟩ := h
  refine sC (o_call0 FO102 (check_Table.ok k r4811 hA4812) rfl rfl (ltn rfl) (All_of .nil)) <| ?_
  rintro _ _ _ ⟨rfl, rfl, rfl⟩
  refine sG (o_alloc Z147 ZL147) fun g4813 => ?_
  replace h := iN h
  obtain ⟨c4814, h⟩ := h
  replace h := iN h
  obtain ⟨c4815, h⟩ := h
  refine s1 (o_storeA 0 rfl rfl rfl TI147 c4814 c4815) <| nx <| vm rfl <| va (op_bits rfl rfl rfl) <| vs rfl <| ds <| sr <| vm rfl <| va (op_lens Try.underlying9 rfl) <| vm rfl <| dt <| VC.block <|
   VC.loop2 (fun (i4848 : Int) (i4849 : Int) => ⟨29, [(0, .int .u32 i4848), (1, .string a1), (4, .int .u32 0), (5, .pointer (some ⟨g4813, 0, none⟩)), (11, .int .i64 (a1.size : Int)), (12, .int .i64 i4849)], [], [(g4813, 147, ints .u32 r4811)], []⟩) (fun (ml1 : Nat) (i4848 : Int) (i4849 : Int) => check_On.l1 k a1 r4811 ml1 i4848 i4849 = some r1) k (Go.bits .xor .u32 a0 4294967295) 0 [0] [] h ⟨rfl, ⟨rfl, rfl, rfl, rfl, rfl, rfl, trivial⟩, trivial, rfl, by decide, rfl, by decide⟩ (by intros; simp [check_On.l1]) <|
   ?_
  clear h
  intro ml1 ihl1 i4848 i4849 h
  simp only [check_On.l1] at h
  refine sr <| VL.letter (decide (i4849 < (a1.size : Int))) fun b4858 hb4858 => va (op_cmp rfl rfl (congrArg some hb4858)) <| ds <| ?_
  replace h := iC h
  rcases h with ⟨c4860, h⟩ | ⟨c4860, h⟩
  · cases lT c4860 hb4858
    refine ct <| sk <| sq <| VC.block <| sr <| vm rfl <| vs rfl <| dr <| vm rfl <| va (op_shr rfl rfl (by decide) rfl) <| vm rfl <| va (op_conv Try.underlying108 Try.underlying5 rfl rfl) <| vm rfl <| vm rfl <| ?_
    replace h := iN h
    obtain ⟨c4861, h⟩ := h
    replace h := iN h
    obtain ⟨c4862, h⟩ := h
    refine va (op_indexS Try.underlying9 rfl rfl c4861 c4862 rfl) <| va (op_bits rfl rfl rfl) <| ?_
    replace h := iN h
    obtain ⟨c4863, h⟩ := h
    replace h := iN h
    obtain ⟨c4864, h⟩ := h
    refine va (op_indexAddrA Try.underlying147 TI108 rfl rfl c4863 c4864) <| ?_
    replace h := bd h
    obtain ⟨t4865, ht4865, h⟩ := h
    refine va (op_loadE 0 rfl rfl TI108 ht4865) <| va (op_bits rfl rfl rfl) <| vs rfl <| dn <| VN.block <| tr <| va (op_ari64 rfl rfl rfl) <| vm rfl <| dn <|
     VN.again [0] [] (ihl1 (Go.bits .xor .u32 (i4848.fdiv (2 ^ min (8 : Int).toNat IntKind.u32.bits)) t4865) (wrap64 (i4849 + 1)) h) ⟨rfl, ⟨rfl, rfl, rfl, rfl, rfl, rfl, trivial⟩, trivial, rfl, by decide, rfl, by decide⟩
  cases lF c4860 hb4858
  refine cf <| VC.exit <| VX.then <| VX.then <| VX.hit <| tx <| vm rfl <| va (op_bits rfl rfl rfl) <| vs rfl <| dt <| VC.ret <| ?_
  obtain rfl := Option.some.inj h
  exact VR.fn (rs := [.tmp 4]) [] [] [] rfl (.tmp rfl .nil) ⟨rfl, rfl, rfl⟩ trivial rfl (by decide)

theorem check_Of.ok (k : Nat) (a0 : ByteArray)  (r1 : Int) (h : check_Of.f k a0 = some r1) :
    VCalls Try.prog 90 [.string a0] [] (fun v G own => v = .int .u32 r1 ∧ G = [] ∧ own = []) := by
  refine VCalls.intro Try.func90 rfl (len rfl) fun E hC hW hD hU => ?_
  unfold check_Of.f at h
  refine sr <| vs rfl <| nx <| vm rfl <| ?_
  replace h := bd h
  obtain ⟨t4866, hA4867, h⟩ := h
  refine sC (o_call0 FO100 (check_On.ok k 0 a0 t4866 hA4867) rfl rfl (ltn rfl) (All_of .nil)) <| ?_
  rintro _ _ _ ⟨rfl, rfl, rfl⟩
  refine vs rfl <| dt <| VC.ret <| ?_
  obtain rfl := Option.some.inj h
  exact VR.fn (rs := [.tmp 2]) [] [] [] rfl (.tmp rfl .nil) ⟨rfl, rfl, rfl⟩ trivial rfl (by decide)

theorem check_Bytes.ok (k : Nat) (a0 : Int)  (r1 : ByteArray) (h : check_Bytes.f k a0 = some r1) :
    VCalls Try.prog 89 [.int .u32 a0] [] (fun v G own => v = .string r1 ∧ G = [] ∧ own = []) := by
  refine VCalls.intro Try.func89 rfl (len rfl) fun E hC hW hD hU => ?_
  unfold check_Bytes.f at h
  refine sr <| vs rfl <| nx <| sG (o_alloc Z145 ZL145) fun g4870 => ds <| sr <| vm rfl <| dt <| VC.block <|
   VC.loop2 (fun (i4893 : Int) (l4894 : List Int) => ⟨18, [(0, .int .u32 a0), (2, .string (⟨#[]⟩ : ByteArray)), (3, .pointer (some ⟨g4870, 0, none⟩)), (5, .int .i64 i4893)], [], [(g4870, 145, ints .u8 l4894)], []⟩) (fun (ml1 : Nat) (i4893 : Int) (l4894 : List Int) => check_Bytes.l1 k a0 ml1 i4893 l4894 = some r1) k 0 (List.replicate 4 (0 : Int)) [0] [] h ⟨rfl, ⟨rfl, rfl, rfl, rfl, trivial⟩, trivial, rfl, by decide, rfl, by decide⟩ (by intros; simp [check_Bytes.l1]) <|
   ?_
  clear h
  intro ml1 ihl1 i4893 l4894 h
  simp only [check_Bytes.l1] at h
  refine sr <| VL.letter (decide (i4893 < 4)) fun b4902 hb4902 => va (op_cmp rfl rfl (congrArg some hb4902)) <| ds <| ?_
  replace h := iC h
  rcases h with ⟨c4905, h⟩ | ⟨c4905, h⟩
  · cases lT c4905 hb4902
    refine ct <| sk <| sq <| VC.block <| sr <| vm rfl <| vs rfl <| dr <| vm rfl <| vm rfl <| vm rfl <| va (op_ari64 rfl rfl rfl) <| ?_
    replace h := iN h
    obtain ⟨c4906, h⟩ := h
    refine va (op_shr rfl rfl c4906 rfl) <| va (op_conv Try.underlying108 Try.underlying5 rfl rfl) <| ?_
    replace h := iN h
    obtain ⟨c4907, h⟩ := h
    replace h := iN h
    obtain ⟨c4908, h⟩ := h
    refine va (op_indexAddrA Try.underlying145 TI5 rfl rfl c4907 c4908) <| ?_
    replace h := iN h
    obtain ⟨c4909, h⟩ := h
    refine s1 (o_storeE 0 rfl rfl rfl TI5 c4909) <| dn <| VN.block <| tr <| va (op_ari64 rfl rfl rfl) <| vm rfl <| dn <|
     VN.again [0] [] (ihl1 (wrap64 (i4893 + 1)) (l4894.set i4893.toNat (IntKind.u8.wrap (a0.fdiv (2 ^ min (wrap64 (8 * i4893)).toNat IntKind.u32.bits)))) h) ⟨rfl, ⟨rfl, rfl, rfl, rfl, trivial⟩, trivial, rfl, by decide, rfl, by decide⟩
  cases lF c4905 hb4902
  refine cf <| VC.exit <| VX.then <| VX.then <| VX.hit <| tx <| va (op_sliceB Try.underlying145 TI5 rfl) <| ?_
  replace h := iN h
  obtain ⟨c4910, h⟩ := h
  refine va (op_bytesStrB0 0 Try.underlying41 Try.underlying9 Try.underlying5 rfl rfl c4910) <| vs rfl <| dt <| VC.ret <| ?_
  obtain rfl := Option.some.inj h
  exact VR.fn (rs := [.tmp 2]) [] [] [] rfl (.tmp rfl .nil) ⟨rfl, rfl, rfl⟩ trivial rfl (by decide)

end Go.Proofs.Ytipeglbeongfmaa.PJournalLives
