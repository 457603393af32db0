/- Written by a program of this repo: what the program's functions do, each as a Lean function, shown of the loaded code; or a statement's row over that; no condition of its own. -/
import Derived.Test.YtacenfolbmdpoaaPPackRowsx3
namespace Go.Proofs.Ytacenfolbmdpoaa.PPackRows
open Go Go.RowKit Go.Proofs.YtacenfolbmdpoaaV
set_option linter.unusedVariables false
set_option linter.unusedSimpArgs false

set_option maxHeartbeats 4000000 in
set_option maxRecDepth 100000 in
theorem tarryref01_Same.ok (k : Nat) (l0 : List ByteArray) (l1 : List ByteArray) (v0 : Value) (v1 : Value) (r1 : Bool) (h : tarryref01_Same.f k l0 l1 = some r1) :
    VCalls Try.prog 21 [v0, v1] [.row v0 1 (l0.map enc_str), .row v1 1 (l1.map enc_str)] (fun v G own => v = .bool r1 ∧ G = [] ∧ own = []) := by
  refine VCalls.intro Try.func21 rfl (len rfl) fun E hC hW hD hU => ?_
  unfold tarryref01_Same.f at h
  refine VC.seq ?_
  refine VC.region ?_
  refine VL.va (op_assign rfl (ltn rfl)) rfl ?_
  refine VL.done ?_
  refine VN.then ?_
  refine VC.seq ?_
  refine VC.seq ?_
  refine VC.region ?_
  refine VL.va (op_move rfl (ltn rfl)) rfl ?_
  refine VL.va (op_len (m := l0.length) 0 lenm Try.underlying39 rfl rfl (ltn rfl)) rfl ?_
  refine VL.va (op_move rfl (ltn rfl)) rfl ?_
  refine VL.va (op_len (m := l1.length) 1 lenm Try.underlying39 rfl rfl (ltn rfl)) rfl ?_
  refine VL.letter (((l0.length : Int) != (l1.length : Int))) fun b18832 hb18832 => ?_
  refine VL.va (op_cmp rfl rfl (congrArg some hb18832) (ltn rfl)) rfl ?_
  refine VL.done ?_
  refine VN.then ?_
  by_cases c18833 : (l0.length : Int) = (l1.length : Int)
  · rw [if_pos c18833] at h
    obtain rfl : b18832 = false := hb18832.symm.trans (bne_eq_false_iff_eq.2 c18833)
    refine VC.cond_f rfl ?_
    refine VC.skip ?_
    refine VN.then ?_
    refine VC.seq ?_
    refine VC.seq ?_
    refine VC.region ?_
    refine VL.va (op_move rfl (ltn rfl)) rfl ?_
    refine VL.va (op_len (m := l0.length) 0 lenm Try.underlying39 rfl rfl (ltn rfl)) rfl ?_
    refine VL.va (op_move rfl (ltn rfl)) rfl ?_
    refine VL.done ?_
    refine VN.then ?_
    refine VC.block ?_
    refine VC.loop1 (fun (i18887 : Int) => ⟨26, [(0, v0), (1, v1), (4, .bool false), (12, .int .i64 (l0.length : Int)), (13, .int .i64 i18887)], [.row v0 1 (l0.map enc_str), .row v1 1 (l1.map enc_str)], [], []⟩) (fun (ml1 : Nat) (i18887 : Int) => tarryref01_Same.l1 k l0 l1 ml1 i18887 = some r1) k 0 [] [] h ⟨rfl, ⟨rfl, rfl, rfl, rfl, rfl, trivial⟩, ⟨⟨0, rfl⟩, ⟨1, rfl⟩, trivial⟩, rfl, by decide, rfl, by decide⟩ (by intros; simp [tarryref01_Same.l1]) ?_
    clear h
    intro ml1 ihl1 i18887 h
    simp only [tarryref01_Same.l1] at h
    refine VC.seq ?_
    refine VC.region ?_
    refine VL.letter (decide (i18887 < (l0.length : Int))) fun b18901 hb18901 => ?_
    refine VL.va (op_cmp rfl rfl (congrArg some hb18901) (ltn rfl)) rfl ?_
    refine VL.done ?_
    refine VN.then ?_
    refine VC.seq ?_
    by_cases c18903 : i18887 < (l0.length : Int)
    · rw [if_pos c18903] at h
      obtain rfl : b18901 = true := hb18901.symm.trans (decide_eq_true c18903)
      refine VC.cond_t rfl ?_
      refine VC.skip ?_
      refine VN.then ?_
      refine VC.seq ?_
      refine VC.block ?_
      refine VC.seq ?_
      refine VC.region ?_
      refine VL.va (op_move rfl (ltn rfl)) rfl ?_
      refine VL.va (op_assign rfl (ltn rfl)) rfl ?_
      refine VL.done ?_
      refine VN.then ?_
      by_cases c18909 : 0 ≤ i18887
      · rw [if_pos c18909] at h
        replace h := Option.bind_eq_some_iff.1 h
        obtain ⟨x18910, hx18910, h⟩ := h
        replace h := Option.bind_eq_some_iff.1 h
        obtain ⟨x18911, hx18911, h⟩ := h
        refine VC.letter ((x18910 != x18911)) fun b18912 hb18912 => ?_
        refine VC.open (m := l0.length) 0 lenm rfl (pos_get hx18910) ?_
        rintro ad18838 n18839 rfl
        refine VC.open (m := l1.length) 1 lenm rfl (pos_get hx18911) ?_
        rintro ad18841 n18842 rfl
        refine VC.join0 (⟨26, [(0, (.slice (some ad18838) l0.length n18839)), (1, (.slice (some ad18841) l1.length n18842)), (4, .bool false), (5, .int .i64 i18887), (12, .int .i64 (l0.length : Int)), (13, .int .i64 i18887), (14, .bool true), (15, .int .i64 i18887), (16, (.slice (some ad18838) l0.length n18839)), (17, .int .i64 i18887), (19, .string x18910), (20, (.slice (some ad18841) l1.length n18842)), (21, .int .i64 i18887), (23, .string x18911), (24, .bool b18912)], [.row (.slice (some ad18838) l0.length n18839) 1 (l0.map enc_str), .row (.slice (some ad18841) l1.length n18842) 1 (l1.map enc_str)], [], []⟩) (True) ?_ ?_
        · refine VC.draw ⟨0, [], [.row (.slice (some ad18838) l0.length n18839) 1 (l0.map enc_str), .row (.slice (some ad18841) l1.length n18842) 1 (l1.map enc_str)], [], []⟩ (by kernel_rfl) rfl (by kernel_rfl) (n := 9) (listed := LB 9 0) ?_
          refine VA.va (i := 0) (listed' := LB 9 1) rfl (op_move rfl (ltn rfl)) rfl (by kernel_rfl) (by kernel_rfl) (by kernel_rfl) (by kernel_rfl) ⟨⟨⟨0, rfl⟩, ⟨1, rfl⟩, trivial⟩, trivial, trivial⟩ (fun _ _ _ h => h) ?_
          refine VA.va (i := 1) (listed' := LB 9 3) rfl (op_move rfl (ltn rfl)) rfl (by kernel_rfl) (by kernel_rfl) (by kernel_rfl) (by kernel_rfl) ⟨⟨⟨0, rfl⟩, ⟨1, rfl⟩, trivial⟩, trivial, trivial⟩ (fun _ _ _ h => h) ?_
          refine VA.va (i := 2) (listed' := LB 9 7) rfl (op_indexAddr Try.underlying39 TI9 rfl rfl c18909 (lt_get c18909 hx18910) rfl (ltn rfl)) rfl (by kernel_rfl) (by kernel_rfl) (by kernel_rfl) (by kernel_rfl) ⟨⟨⟨0, rfl⟩, ⟨1, rfl⟩, trivial⟩, trivial, trivial⟩ (fun _ _ _ h => h) ?_
          refine VA.va (i := 3) (listed' := LB 9 15) rfl (op_load_row (sz := 1) (o := 0) 0 i18887.toNat 1 rfl rfl (get_map hx18910) TI9 rfl (by decide) (ltn rfl)) rfl (by kernel_rfl) (by kernel_rfl) (by kernel_rfl) (by kernel_rfl) ⟨⟨⟨0, rfl⟩, ⟨1, rfl⟩, trivial⟩, trivial, trivial⟩ (fun _ _ _ h => h) ?_
          refine VA.va (i := 4) (listed' := LB 9 31) rfl (op_move rfl (ltn rfl)) rfl (by kernel_rfl) (by kernel_rfl) (by kernel_rfl) (by kernel_rfl) ⟨⟨⟨0, rfl⟩, ⟨1, rfl⟩, trivial⟩, trivial, trivial⟩ (fun _ _ _ h => h) ?_
          refine VA.va (i := 5) (listed' := LB 9 63) rfl (op_move rfl (ltn rfl)) rfl (by kernel_rfl) (by kernel_rfl) (by kernel_rfl) (by kernel_rfl) ⟨⟨⟨0, rfl⟩, ⟨1, rfl⟩, trivial⟩, trivial, trivial⟩ (fun _ _ _ h => h) ?_
          refine VA.va (i := 6) (listed' := LB 9 127) rfl (op_indexAddr Try.underlying39 TI9 rfl rfl c18909 (lt_get c18909 hx18911) rfl (ltn rfl)) rfl (by kernel_rfl) (by kernel_rfl) (by kernel_rfl) (by kernel_rfl) ⟨⟨⟨0, rfl⟩, ⟨1, rfl⟩, trivial⟩, trivial, trivial⟩ (fun _ _ _ h => h) ?_
          refine VA.va (i := 7) (listed' := LB 9 255) rfl (op_load_row (sz := 1) (o := 0) 1 i18887.toNat 1 rfl rfl (get_map hx18911) TI9 rfl (by decide) (ltn rfl)) rfl (by kernel_rfl) (by kernel_rfl) (by kernel_rfl) (by kernel_rfl) ⟨⟨⟨0, rfl⟩, ⟨1, rfl⟩, trivial⟩, trivial, trivial⟩ (fun _ _ _ h => h) ?_
          refine VA.va (i := 8) (listed' := LB 9 511) rfl (op_cmps rfl rfl (congrArg some hb18912) (ltn rfl)) rfl (by kernel_rfl) (by kernel_rfl) (by kernel_rfl) (by kernel_rfl) ⟨⟨⟨0, rfl⟩, ⟨1, rfl⟩, trivial⟩, trivial, trivial⟩ (fun _ _ _ h => h) ?_
          refine VA.done (by kernel_rfl) ?_
          exact VN.meet0  [] [] trivial ⟨rfl, ⟨rfl, rfl, rfl, rfl, rfl, rfl, rfl, rfl, rfl, rfl, rfl, rfl, rfl, rfl, rfl, trivial⟩, ⟨⟨0, rfl⟩, ⟨1, rfl⟩, trivial⟩, rfl, by decide, rfl, by decide⟩
        intro _
        by_cases c18913 : (x18910 == x18911) = true
        · rw [if_pos c18913] at h
          obtain rfl : b18912 = false := hb18912.symm.trans (bne_of_t c18913)
          refine VC.cond_f rfl ?_
          refine VC.skip ?_
          refine VN.block ?_
          refine VN.then ?_
          refine VC.region ?_
          refine VL.va (op_ari64 rfl rfl rfl (ltn rfl)) rfl ?_
          refine VL.va (op_move rfl (ltn rfl)) rfl ?_
          refine VL.done ?_
          refine VN.again [] [] (ihl1 (wrap64 (i18887 + 1)) h) ⟨rfl, ⟨rfl, rfl, rfl, rfl, rfl, trivial⟩, ⟨⟨0, rfl⟩, ⟨1, rfl⟩, trivial⟩, rfl, by decide, rfl, by decide⟩
        · rw [if_neg c18913] at h
          obtain rfl : b18912 = true := hb18912.symm.trans (bne_of_f c18913)
          refine VC.cond_t rfl ?_
          refine VC.seq ?_
          refine VC.region ?_
          refine VL.va (op_assign rfl (ltn rfl)) rfl ?_
          refine VL.done ?_
          refine VN.then ?_
          refine VC.ret ?_
          refine VR.block ?_
          refine VR.then ?_
          refine VR.then ?_
          refine VR.block ?_
          refine VR.then ?_
          obtain rfl := Option.some.inj h
          exact VR.fn (rs := [.tmp 4]) [] [] [] rfl (.tmp rfl .nil) ⟨rfl, rfl, rfl⟩ trivial rfl (by decide)
      · rw [if_neg c18909] at h; cases h
    · rw [if_neg c18903] at h
      obtain rfl : b18901 = false := hb18901.symm.trans (decide_eq_false c18903)
      refine VC.cond_f rfl ?_
      refine VC.exit ?_
      refine VX.then ?_
      refine VX.then ?_
      refine VX.hit ?_
      refine VN.then ?_
      refine VC.seq ?_
      refine VC.region ?_
      refine VL.va (op_assign rfl (ltn rfl)) rfl ?_
      refine VL.done ?_
      refine VN.then ?_
      refine VC.ret ?_
      obtain rfl := Option.some.inj h
      exact VR.fn (rs := [.tmp 4]) [] [] [] rfl (.tmp rfl .nil) ⟨rfl, rfl, rfl⟩ trivial rfl (by decide)
  · rw [if_neg c18833] at h
    obtain rfl : b18832 = true := hb18832.symm.trans (bne_iff_ne.2 c18833)
    refine VC.cond_t rfl ?_
    refine VC.seq ?_
    refine VC.region ?_
    refine VL.va (op_assign rfl (ltn rfl)) rfl ?_
    refine VL.done ?_
    refine VN.then ?_
    refine VC.ret ?_
    refine VR.then ?_
    obtain rfl := Option.some.inj h
    exact VR.fn (rs := [.tmp 4]) [] [] [] rfl (.tmp rfl .nil) ⟨rfl, rfl, rfl⟩ trivial rfl (by decide)
set_option maxHeartbeats 4000000 in
set_option maxRecDepth 100000 in
theorem tarrylaw01_alive.ok (k : Nat)   (r1 : Bool) (h : tarrylaw01_alive.f k = some r1) :
    VCalls Try.prog 11 [] [] (fun v G own => v = .bool r1 ∧ G = [] ∧ own = []) := by
  refine VCalls.intro Try.func11 rfl (len rfl) fun E hC hW hD hU => ?_
  unfold tarrylaw01_alive.f at h
  refine VC.seq ?_
  refine VC.region ?_
  refine VL.va (op_assign rfl (ltn rfl)) rfl ?_
  refine VL.done ?_
  refine VN.then ?_
  refine VC.seq ?_
  refine VC.region ?_
  replace h := Option.bind_eq_some_iff.1 h
  obtain ⟨⟨t18917, t18918⟩, hA18919, h⟩ := h
  dsimp only at h
  refine VL.sC (o_call0 FO8 (pack_Number.ok k 64 t18917 t18918 hA18919) rfl rfl (ltn rfl) (All_of .nil)) rfl ?_
  rintro _ _ _ ⟨rfl, rfl, rfl⟩
  refine VL.va (op_move rfl (ltn rfl)) rfl ?_
  refine VL.va (op_extract rfl rfl (ltn rfl)) rfl ?_
  refine VL.va (op_extract rfl rfl (ltn rfl)) rfl ?_
  refine VL.va (op_assign rfl (ltn rfl)) rfl ?_
  refine VL.va (op_assign rfl (ltn rfl)) rfl ?_
  refine VL.done ?_
  refine VN.then ?_
  refine VC.seq ?_
  refine VC.region ?_
  replace h := Option.bind_eq_some_iff.1 h
  obtain ⟨⟨t18920, t18921⟩, hA18922, h⟩ := h
  dsimp only at h
  refine VL.sC (o_call0 FO8 (pack_Number.ok k (-1) t18920 t18921 hA18922) rfl rfl (ltn rfl) (All_of .nil)) rfl ?_
  rintro _ _ _ ⟨rfl, rfl, rfl⟩
  refine VL.va (op_move rfl (ltn rfl)) rfl ?_
  refine VL.va (op_extract rfl rfl (ltn rfl)) rfl ?_
  refine VL.va (op_extract rfl rfl (ltn rfl)) rfl ?_
  refine VL.va (op_assign rfl (ltn rfl)) rfl ?_
  refine VL.va (op_assign rfl (ltn rfl)) rfl ?_
  refine VL.done ?_
  refine VN.then ?_
  refine VC.seq ?_
  refine VC.region ?_
  refine VL.va (op_move rfl (ltn rfl)) rfl ?_
  refine VL.letter ((t18918 == 0)) fun b18930 hb18930 => ?_
  refine VL.va (op_cmp rfl rfl (congrArg some hb18930) (ltn rfl)) rfl ?_
  refine VL.va (op_move rfl (ltn rfl)) rfl ?_
  by_cases c18931 : t18918 = 0
  · rw [if_pos c18931] at h
    obtain rfl : b18930 = true := hb18930.symm.trans (beq_iff_eq.2 c18931)
    refine VL.va (op_move rfl (ltn rfl)) rfl ?_
    refine VL.letter ((t18921 == 0)) fun b18932 hb18932 => ?_
    refine VL.va (op_cmp rfl rfl (congrArg some hb18932) (ltn rfl)) rfl ?_
    refine VL.va (op_pick rfl rfl (ltn rfl)) rfl ?_
    refine VL.va (op_move rfl (ltn rfl)) rfl ?_
    by_cases c18933 : t18921 = 0
    · rw [if_pos c18933] at h
      obtain rfl : b18932 = true := hb18932.symm.trans (beq_iff_eq.2 c18933)
      refine VL.va (op_move rfl (ltn rfl)) rfl ?_
      refine VL.letter ((t18917 == (⟨#[128, 1]⟩ : ByteArray))) fun b18934 hb18934 => ?_
      refine VL.va (op_cmps rfl rfl (congrArg some hb18934) (ltn rfl)) rfl ?_
      refine VL.va (op_pick rfl rfl (ltn rfl)) rfl ?_
      refine VL.va (op_move rfl (ltn rfl)) rfl ?_
      by_cases c18935 : (t18917 == (⟨#[128, 1]⟩ : ByteArray)) = true
      · rw [if_pos c18935] at h
        obtain rfl : b18934 = true := hb18934.symm.trans (c18935)
        refine VL.va (op_move rfl (ltn rfl)) rfl ?_
        refine VL.letter ((t18920 == (⟨#[1]⟩ : ByteArray))) fun b18936 hb18936 => ?_
        refine VL.va (op_cmps rfl rfl (congrArg some hb18936) (ltn rfl)) rfl ?_
        refine VL.va (op_pick rfl rfl (ltn rfl)) rfl ?_
        refine VL.va (op_assign rfl (ltn rfl)) rfl ?_
        refine VL.done ?_
        refine VN.then ?_
        refine VC.ret ?_
        obtain rfl := Option.some.inj h
        subst hb18936
        exact VR.fn (rs := [.tmp 0]) [] [] [] rfl (.tmp rfl .nil) ⟨rfl, rfl, rfl⟩ trivial rfl (by decide)
      · rw [if_neg c18935] at h
        obtain rfl : b18934 = false := hb18934.symm.trans (Bool.eq_false_iff.2 c18935)
        refine VL.un rfl rfl (ltn rfl) ?_
        refine VL.un rfl rfl (ltn rfl) ?_
        refine VL.va (op_pick rfl rfl (ltn rfl)) rfl ?_
        refine VL.va (op_assign rfl (ltn rfl)) rfl ?_
        refine VL.done ?_
        refine VN.then ?_
        refine VC.ret ?_
        obtain rfl := Option.some.inj h
        exact VR.fn (rs := [.tmp 0]) [] [] [] rfl (.tmp rfl .nil) ⟨rfl, rfl, rfl⟩ trivial rfl (by decide)
    · rw [if_neg c18933] at h
      obtain rfl : b18932 = false := hb18932.symm.trans (beq_eq_false_iff_ne.2 c18933)
      refine VL.un rfl rfl (ltn rfl) ?_
      refine VL.un rfl rfl (ltn rfl) ?_
      refine VL.va (op_pick rfl rfl (ltn rfl)) rfl ?_
      refine VL.va (op_move rfl (ltn rfl)) rfl ?_
      refine VL.un rfl rfl (ltn rfl) ?_
      refine VL.un rfl rfl (ltn rfl) ?_
      refine VL.va (op_pick rfl rfl (ltn rfl)) rfl ?_
      refine VL.va (op_assign rfl (ltn rfl)) rfl ?_
      refine VL.done ?_
      refine VN.then ?_
      refine VC.ret ?_
      obtain rfl := Option.some.inj h
      exact VR.fn (rs := [.tmp 0]) [] [] [] rfl (.tmp rfl .nil) ⟨rfl, rfl, rfl⟩ trivial rfl (by decide)
  · rw [if_neg c18931] at h
    obtain rfl : b18930 = false := hb18930.symm.trans (beq_eq_false_iff_ne.2 c18931)
    refine VL.un rfl rfl (ltn rfl) ?_
    refine VL.un rfl rfl (ltn rfl) ?_
    refine VL.va (op_pick rfl rfl (ltn rfl)) rfl ?_
    refine VL.va (op_move rfl (ltn rfl)) rfl ?_
    refine VL.un rfl rfl (ltn rfl) ?_
    refine VL.un rfl rfl (ltn rfl) ?_
    refine VL.va (op_pick rfl rfl (ltn rfl)) rfl ?_
    refine VL.va (op_move rfl (ltn rfl)) rfl ?_
    refine VL.un rfl rfl (ltn rfl) ?_
    refine VL.un rfl rfl (ltn rfl) ?_
    refine VL.va (op_pick rfl rfl (ltn rfl)) rfl ?_
    refine VL.va (op_assign rfl (ltn rfl)) rfl ?_
    refine VL.done ?_
    refine VN.then ?_
    refine VC.ret ?_
    obtain rfl := Option.some.inj h
    exact VR.fn (rs := [.tmp 0]) [] [] [] rfl (.tmp rfl .nil) ⟨rfl, rfl, rfl⟩ trivial rfl (by decide)
set_option maxHeartbeats 4000000 in
set_option maxRecDepth 100000 in
theorem tarryref01_MayRow.ok (k : Nat) (l0 : List ByteArray) (v0 : Value) (r1 : Bool) (h : tarryref01_MayRow.f k l0 = some r1) :
    VCalls Try.prog 22 [v0] [.row v0 1 (l0.map enc_str)] (fun v G own => v = .bool r1 ∧ G = [] ∧ own = []) := by
  refine VCalls.intro Try.func22 rfl (len rfl) fun E hC hW hD hU => ?_
  unfold tarryref01_MayRow.f at h
  refine VC.seq ?_
  refine VC.region ?_
  refine VL.va (op_assign rfl (ltn rfl)) rfl ?_
  refine VL.done ?_
  refine VN.then ?_
  refine VC.seq ?_
  refine VC.seq ?_
  refine VC.region ?_
  refine VL.va (op_move rfl (ltn rfl)) rfl ?_
  refine VL.va (op_len (m := l0.length) 0 lenm Try.underlying39 rfl rfl (ltn rfl)) rfl ?_
  refine VL.va (op_move rfl (ltn rfl)) rfl ?_
  refine VL.done ?_
  refine VN.then ?_
  refine VC.block ?_
  refine VC.loop1 (fun (i19022 : Int) => ⟨18, [(0, v0), (2, .bool false), (5, v0), (6, .int .i64 (l0.length : Int)), (7, .int .i64 i19022)], [.row v0 1 (l0.map enc_str)], [], []⟩) (fun (ml1 : Nat) (i19022 : Int) => tarryref01_MayRow.l1 k l0 ml1 i19022 = some r1) k 0 [] [] h ⟨rfl, ⟨rfl, rfl, rfl, rfl, rfl, trivial⟩, ⟨⟨0, rfl⟩, trivial⟩, rfl, by decide, rfl, by decide⟩ (by intros; simp [tarryref01_MayRow.l1]) ?_
  clear h
  intro ml1 ihl1 i19022 h
  simp only [tarryref01_MayRow.l1] at h
  refine VC.seq ?_
  refine VC.region ?_
  refine VL.letter (decide (i19022 < (l0.length : Int))) fun b19038 hb19038 => ?_
  refine VL.va (op_cmp rfl rfl (congrArg some hb19038) (ltn rfl)) rfl ?_
  refine VL.done ?_
  refine VN.then ?_
  refine VC.seq ?_
  by_cases c19041 : i19022 < (l0.length : Int)
  · rw [if_pos c19041] at h
    obtain rfl : b19038 = true := hb19038.symm.trans (decide_eq_true c19041)
    refine VC.cond_t rfl ?_
    refine VC.skip ?_
    refine VN.then ?_
    refine VC.seq ?_
    refine VC.block ?_
    refine VC.seq ?_
    refine VC.region ?_
    by_cases c19048 : 0 ≤ i19022
    · rw [if_pos c19048] at h
      replace h := Option.bind_eq_some_iff.1 h
      obtain ⟨x19049, hx19049, h⟩ := h
      refine VL.open (m := l0.length) 0 lenm rfl (pos_get hx19049) ?_
      rintro ad19050 n19051 rfl
      refine VL.va (op_indexAddr Try.underlying39 TI9 rfl rfl c19048 (lt_get c19048 hx19049) rfl (ltn rfl)) rfl ?_
      refine VL.va (op_load_row (sz := 1) (o := 0) 0 i19022.toNat 1 rfl rfl (get_map hx19049) TI9 rfl (by decide) (ltn rfl)) rfl ?_
      refine VL.va (op_assign rfl (ltn rfl)) rfl ?_
      refine VL.done ?_
      refine VN.then ?_
      refine VC.seq ?_
      refine VC.region ?_
      refine VL.va (op_move rfl (ltn rfl)) rfl ?_
      refine VL.va (op_lens Try.underlying9 rfl (ltn rfl)) rfl ?_
      refine VL.letter (decide ((x19049.size : Int) > 4096)) fun b19052 hb19052 => ?_
      refine VL.va (op_cmp rfl rfl (congrArg some hb19052) (ltn rfl)) rfl ?_
      refine VL.done ?_
      refine VN.then ?_
      by_cases c19053 : (x19049.size : Int) > 4096
      · rw [if_pos c19053] at h
        obtain rfl : b19052 = true := hb19052.symm.trans (decide_eq_true c19053)
        refine VC.cond_t rfl ?_
        refine VC.seq ?_
        refine VC.region ?_
        refine VL.va (op_assign rfl (ltn rfl)) rfl ?_
        refine VL.done ?_
        refine VN.then ?_
        refine VC.ret ?_
        refine VR.block ?_
        refine VR.then ?_
        refine VR.then ?_
        refine VR.block ?_
        refine VR.then ?_
        obtain rfl := Option.some.inj h
        exact VR.fn (rs := [.tmp 2]) [] [] [] rfl (.tmp rfl .nil) ⟨rfl, rfl, rfl⟩ trivial rfl (by decide)
      · rw [if_neg c19053] at h
        obtain rfl : b19052 = false := hb19052.symm.trans (decide_eq_false c19053)
        refine VC.cond_f rfl ?_
        refine VC.skip ?_
        refine VN.block ?_
        refine VN.then ?_
        refine VC.region ?_
        refine VL.va (op_ari64 rfl rfl rfl (ltn rfl)) rfl ?_
        refine VL.va (op_move rfl (ltn rfl)) rfl ?_
        refine VL.done ?_
        refine VN.again [] [] (ihl1 (wrap64 (i19022 + 1)) h) ⟨rfl, ⟨rfl, rfl, rfl, rfl, rfl, trivial⟩, ⟨⟨0, rfl⟩, trivial⟩, rfl, by decide, rfl, by decide⟩
    · rw [if_neg c19048] at h; cases h
  · rw [if_neg c19041] at h
    obtain rfl : b19038 = false := hb19038.symm.trans (decide_eq_false c19041)
    refine VC.cond_f rfl ?_
    refine VC.exit ?_
    refine VX.then ?_
    refine VX.then ?_
    refine VX.hit ?_
    refine VN.then ?_
    refine VC.seq ?_
    refine VC.region ?_
    refine VL.va (op_move rfl (ltn rfl)) rfl ?_
    refine VL.va (op_len (m := l0.length) 0 lenm Try.underlying39 rfl rfl (ltn rfl)) rfl ?_
    refine VL.letter (decide ((l0.length : Int) ≤ 256)) fun b19054 hb19054 => ?_
    refine VL.va (op_cmp rfl rfl (congrArg some hb19054) (ltn rfl)) rfl ?_
    refine VL.va (op_assign rfl (ltn rfl)) rfl ?_
    refine VL.done ?_
    refine VN.then ?_
    refine VC.ret ?_
    obtain rfl := Option.some.inj h
    subst hb19054
    exact VR.fn (rs := [.tmp 2]) [] [] [] rfl (.tmp rfl .nil) ⟨rfl, rfl, rfl⟩ trivial rfl (by decide)
set_option maxHeartbeats 4000000 in
set_option maxRecDepth 100000 in
theorem tarryref01_Number.ok (k : Nat) (a0 : Int)  (r1 : ByteArray) (h : tarryref01_Number.f k a0 = some r1) :
    VCalls Try.prog 13 [.int .i64 a0] [] (fun v G own => v = .string r1 ∧ G = [] ∧ own = []) := by
  refine VCalls.intro Try.func13 rfl (len rfl) fun E hC hW hD hU => ?_
  unfold tarryref01_Number.f at h
  refine VC.seq ?_
  refine VC.region ?_
  refine VL.va (op_assign rfl (ltn rfl)) rfl ?_
  refine VL.done ?_
  refine VN.then ?_
  refine VC.seq ?_
  refine VC.region ?_
  refine VL.va (op_assign rfl (ltn rfl)) rfl ?_
  refine VL.done ?_
  refine VN.then ?_
  refine VC.seq ?_
  refine VC.seq ?_
  refine VC.region ?_
  refine VL.va (op_move rfl (ltn rfl)) rfl ?_
  refine VL.letter (decide (a0 ≥ 0)) fun b19078 hb19078 => ?_
  refine VL.va (op_cmp rfl rfl (congrArg some hb19078) (ltn rfl)) rfl ?_
  refine VL.done ?_
  refine VN.then ?_
  by_cases c19079 : a0 ≥ 0
  · rw [if_pos c19079] at h
    obtain rfl : b19078 = true := hb19078.symm.trans (decide_eq_true c19079)
    refine VC.cond_t rfl ?_
    refine VC.region ?_
    refine VL.va (op_move rfl (ltn rfl)) rfl ?_
    refine VL.va (op_ari64 rfl rfl rfl (ltn rfl)) rfl ?_
    refine VL.va (op_assign rfl (ltn rfl)) rfl ?_
    refine VL.done ?_
    refine VN.then ?_
    refine VC.seq ?_
    refine VC.region ?_
    refine VL.sG (o_buildSlice (vals := []) (cells := #[]) (es := List.map enc_intu8 ([] : List Int)) Try.underlying49 TI5 Z5 rfl (by decide) (by decide) (by kernel_rfl) (by kernel_rfl) rfl (flat_map enc_intu8_ok _) (ltn rfl)) rfl ?_
    intro v19081
    refine VL.va (op_assign rfl (ltn rfl)) rfl ?_
    refine VL.done ?_
    refine VN.then ?_
    refine VC.seq ?_
    refine VC.block ?_
    refine VC.loop3 (fun (i19122 : Int) (v19124 : Value) (l19125 : List Int) => ⟨32, [(2, .string (⟨#[]⟩ : ByteArray)), (3, .int .i64 i19122), (4, v19124)], [], [], [(v19124, 5, 1, l19125.map enc_intu8)]⟩) (fun (ml1 : Nat) (i19122 : Int) (v19124 : Value) (l19125 : List Int) => tarryref01_Number.l1 k ml1 i19122 l19125 = some r1) k (wrap64 (2 * a0)) v19081 ([] : List Int) [] [0] h ⟨rfl, ⟨rfl, rfl, rfl, trivial⟩, trivial, rfl, by decide, rfl, by decide⟩ (by intros; simp [tarryref01_Number.l1]) ?_
    clear h
    intro ml1 ihl1 i19122 v19124 l19125 h
    simp only [tarryref01_Number.l1] at h
    refine VC.seq ?_
    refine VC.seq ?_
    refine VC.region ?_
    refine VL.va (op_move rfl (ltn rfl)) rfl ?_
    refine VL.letter (decide (i19122 > 127)) fun b19142 hb19142 => ?_
    refine VL.va (op_cmp rfl rfl (congrArg some hb19142) (ltn rfl)) rfl ?_
    refine VL.done ?_
    refine VN.then ?_
    by_cases c19143 : i19122 > 127
    · rw [if_pos c19143] at h
      obtain rfl : b19142 = true := hb19142.symm.trans (decide_eq_true c19143)
      refine VC.cond_t rfl ?_
      refine VC.skip ?_
      refine VN.then ?_
      refine VC.block ?_
      refine VC.seq ?_
      refine VC.region ?_
      refine VL.va (op_move rfl (ltn rfl)) rfl ?_
      refine VL.va (op_move rfl (ltn rfl)) rfl ?_
      refine VL.va (op_rem rfl rfl (by decide) rfl (ltn rfl)) rfl ?_
      refine VL.va (op_ari64 rfl rfl rfl (ltn rfl)) rfl ?_
      refine VL.va (op_conv Try.underlying3 Try.underlying5 rfl rfl (ltn rfl)) rfl ?_
      refine VL.sG (o_buildSlice (vals := [(0, .int .u8 (IntKind.u8.wrap (wrap64 (128 + (i19122.tmod 128)))))]) (cells := #[.int .u8 (IntKind.u8.wrap (wrap64 (128 + (i19122.tmod 128))))]) (es := List.map enc_intu8 ([IntKind.u8.wrap (wrap64 (128 + (i19122.tmod 128)))] : List Int)) Try.underlying49 TI5 Z5 rfl (by decide) (by decide) (by kernel_rfl) (by kernel_rfl) rfl (flat_map enc_intu8_ok _) (ltn rfl)) rfl ?_
      intro v19145
      by_cases c19146 : (l19125.length + ([IntKind.u8.wrap (wrap64 (128 + (i19122.tmod 128)))] : List Int).length) * 1 ≤ 140737488355328
      · rw [if_pos c19146] at h
        refine VL.sG (o_append 1 appm Try.underlying49 EI5 rfl rfl rfl (.inr ⟨0, _, rfl⟩) (bndm c19146) (ltn rfl)) rfl ?_
        intro v19147
        refine VL.va (op_assign rfl (ltn rfl)) rfl ?_
        refine VL.done ?_
        refine VN.then ?_
        refine VC.region ?_
        refine VL.va (op_move rfl (ltn rfl)) rfl ?_
        refine VL.va (op_quo rfl rfl (by decide) rfl (ltn rfl)) rfl ?_
        refine VL.va (op_assign rfl (ltn rfl)) rfl ?_
        refine VL.done ?_
        refine VN.block ?_
        refine VN.again [] [1] (ihl1 (IntKind.i64.wrap (i19122.tdiv 128)) v19147 (l19125 ++ ([IntKind.u8.wrap (wrap64 (128 + (i19122.tmod 128)))] : List Int)) h) ⟨rfl, ⟨rfl, rfl, rfl, trivial⟩, trivial, rfl, by decide, rfl, by decide⟩
      · rw [if_neg c19146] at h; cases h
    · rw [if_neg c19143] at h
      obtain rfl : b19142 = false := hb19142.symm.trans (decide_eq_false c19143)
      refine VC.cond_f rfl ?_
      refine VC.exit ?_
      refine VX.then ?_
      refine VX.then ?_
      refine VX.hit ?_
      refine VN.then ?_
      refine VC.seq ?_
      refine VC.region ?_
      refine VL.va (op_move rfl (ltn rfl)) rfl ?_
      refine VL.va (op_move rfl (ltn rfl)) rfl ?_
      refine VL.va (op_conv Try.underlying3 Try.underlying5 rfl rfl (ltn rfl)) rfl ?_
      refine VL.sG (o_buildSlice (vals := [(0, .int .u8 (IntKind.u8.wrap i19122))]) (cells := #[.int .u8 (IntKind.u8.wrap i19122)]) (es := List.map enc_intu8 ([IntKind.u8.wrap i19122] : List Int)) Try.underlying49 TI5 Z5 rfl (by decide) (by decide) (by kernel_rfl) (by kernel_rfl) rfl (flat_map enc_intu8_ok _) (ltn rfl)) rfl ?_
      intro v19150
      by_cases c19151 : (l19125.length + ([IntKind.u8.wrap i19122] : List Int).length) * 1 ≤ 140737488355328
      · rw [if_pos c19151] at h
        refine VL.sG (o_append 1 appm Try.underlying49 EI5 rfl rfl rfl (.inr ⟨0, _, rfl⟩) (bndm c19151) (ltn rfl)) rfl ?_
        intro v19152
        refine VL.va (op_assign rfl (ltn rfl)) rfl ?_
        refine VL.done ?_
        refine VN.then ?_
        refine VC.seq ?_
        refine VC.region ?_
        refine VL.va (op_move rfl (ltn rfl)) rfl ?_
        refine VL.va (op_bytesStr_own (xs := (l19125 ++ ([IntKind.u8.wrap i19122] : List Int))) 1 rfl rfl Try.underlying49 Try.underlying9 Try.underlying5 rfl rfl (ltn rfl)) rfl ?_
        refine VL.va (op_assign rfl (ltn rfl)) rfl ?_
        refine VL.done ?_
        refine VN.then ?_
        refine VC.ret ?_
        obtain rfl := Option.some.inj h
        exact VR.fn (rs := [.tmp 2]) [] [] [] rfl (.tmp rfl .nil) ⟨rfl, rfl, rfl⟩ trivial rfl (by decide)
      · rw [if_neg c19151] at h; cases h
  · rw [if_neg c19079] at h
    obtain rfl : b19078 = false := hb19078.symm.trans (decide_eq_false c19079)
    refine VC.cond_f rfl ?_
    refine VC.region ?_
    refine VL.va (op_move rfl (ltn rfl)) rfl ?_
    refine VL.va (op_ari64 rfl rfl rfl (ltn rfl)) rfl ?_
    refine VL.va (op_ari64 rfl rfl rfl (ltn rfl)) rfl ?_
    refine VL.va (op_ari64 rfl rfl rfl (ltn rfl)) rfl ?_
    refine VL.va (op_assign rfl (ltn rfl)) rfl ?_
    refine VL.done ?_
    refine VN.then ?_
    refine VC.seq ?_
    refine VC.region ?_
    refine VL.sG (o_buildSlice (vals := []) (cells := #[]) (es := List.map enc_intu8 ([] : List Int)) Try.underlying49 TI5 Z5 rfl (by decide) (by decide) (by kernel_rfl) (by kernel_rfl) rfl (flat_map enc_intu8_ok _) (ltn rfl)) rfl ?_
    intro v19155
    refine VL.va (op_assign rfl (ltn rfl)) rfl ?_
    refine VL.done ?_
    refine VN.then ?_
    refine VC.seq ?_
    refine VC.block ?_
    refine VC.loop3 (fun (i19196 : Int) (v19198 : Value) (l19199 : List Int) => ⟨32, [(2, .string (⟨#[]⟩ : ByteArray)), (3, .int .i64 i19196), (4, v19198)], [], [], [(v19198, 5, 1, l19199.map enc_intu8)]⟩) (fun (ml3 : Nat) (i19196 : Int) (v19198 : Value) (l19199 : List Int) => tarryref01_Number.l3 k ml3 i19196 l19199 = some r1) k (wrap64 ((wrap64 (2 * (wrap64 (0 - a0)))) - 1)) v19155 ([] : List Int) [] [0] h ⟨rfl, ⟨rfl, rfl, rfl, trivial⟩, trivial, rfl, by decide, rfl, by decide⟩ (by intros; simp [tarryref01_Number.l3]) ?_
    clear h
    intro ml3 ihl3 i19196 v19198 l19199 h
    simp only [tarryref01_Number.l3] at h
    refine VC.seq ?_
    refine VC.seq ?_
    refine VC.region ?_
    refine VL.va (op_move rfl (ltn rfl)) rfl ?_
    refine VL.letter (decide (i19196 > 127)) fun b19216 hb19216 => ?_
    refine VL.va (op_cmp rfl rfl (congrArg some hb19216) (ltn rfl)) rfl ?_
    refine VL.done ?_
    refine VN.then ?_
    by_cases c19217 : i19196 > 127
    · rw [if_pos c19217] at h
      obtain rfl : b19216 = true := hb19216.symm.trans (decide_eq_true c19217)
      refine VC.cond_t rfl ?_
      refine VC.skip ?_
      refine VN.then ?_
      refine VC.block ?_
      refine VC.seq ?_
      refine VC.region ?_
      refine VL.va (op_move rfl (ltn rfl)) rfl ?_
      refine VL.va (op_move rfl (ltn rfl)) rfl ?_
      refine VL.va (op_rem rfl rfl (by decide) rfl (ltn rfl)) rfl ?_
      refine VL.va (op_ari64 rfl rfl rfl (ltn rfl)) rfl ?_
      refine VL.va (op_conv Try.underlying3 Try.underlying5 rfl rfl (ltn rfl)) rfl ?_
      refine VL.sG (o_buildSlice (vals := [(0, .int .u8 (IntKind.u8.wrap (wrap64 (128 + (i19196.tmod 128)))))]) (cells := #[.int .u8 (IntKind.u8.wrap (wrap64 (128 + (i19196.tmod 128))))]) (es := List.map enc_intu8 ([IntKind.u8.wrap (wrap64 (128 + (i19196.tmod 128)))] : List Int)) Try.underlying49 TI5 Z5 rfl (by decide) (by decide) (by kernel_rfl) (by kernel_rfl) rfl (flat_map enc_intu8_ok _) (ltn rfl)) rfl ?_
      intro v19219
      by_cases c19220 : (l19199.length + ([IntKind.u8.wrap (wrap64 (128 + (i19196.tmod 128)))] : List Int).length) * 1 ≤ 140737488355328
      · rw [if_pos c19220] at h
        refine VL.sG (o_append 1 appm Try.underlying49 EI5 rfl rfl rfl (.inr ⟨0, _, rfl⟩) (bndm c19220) (ltn rfl)) rfl ?_
        intro v19221
        refine VL.va (op_assign rfl (ltn rfl)) rfl ?_
        refine VL.done ?_
        refine VN.then ?_
        refine VC.region ?_
        refine VL.va (op_move rfl (ltn rfl)) rfl ?_
        refine VL.va (op_quo rfl rfl (by decide) rfl (ltn rfl)) rfl ?_
        refine VL.va (op_assign rfl (ltn rfl)) rfl ?_
        refine VL.done ?_
        refine VN.block ?_
        refine VN.again [] [1] (ihl3 (IntKind.i64.wrap (i19196.tdiv 128)) v19221 (l19199 ++ ([IntKind.u8.wrap (wrap64 (128 + (i19196.tmod 128)))] : List Int)) h) ⟨rfl, ⟨rfl, rfl, rfl, trivial⟩, trivial, rfl, by decide, rfl, by decide⟩
      · rw [if_neg c19220] at h; cases h
    · rw [if_neg c19217] at h
      obtain rfl : b19216 = false := hb19216.symm.trans (decide_eq_false c19217)
      refine VC.cond_f rfl ?_
      refine VC.exit ?_
      refine VX.then ?_
      refine VX.then ?_
      refine VX.hit ?_
      refine VN.then ?_
      refine VC.seq ?_
      refine VC.region ?_
      refine VL.va (op_move rfl (ltn rfl)) rfl ?_
      refine VL.va (op_move rfl (ltn rfl)) rfl ?_
      refine VL.va (op_conv Try.underlying3 Try.underlying5 rfl rfl (ltn rfl)) rfl ?_
      refine VL.sG (o_buildSlice (vals := [(0, .int .u8 (IntKind.u8.wrap i19196))]) (cells := #[.int .u8 (IntKind.u8.wrap i19196)]) (es := List.map enc_intu8 ([IntKind.u8.wrap i19196] : List Int)) Try.underlying49 TI5 Z5 rfl (by decide) (by decide) (by kernel_rfl) (by kernel_rfl) rfl (flat_map enc_intu8_ok _) (ltn rfl)) rfl ?_
      intro v19224
      by_cases c19225 : (l19199.length + ([IntKind.u8.wrap i19196] : List Int).length) * 1 ≤ 140737488355328
      · rw [if_pos c19225] at h
        refine VL.sG (o_append 1 appm Try.underlying49 EI5 rfl rfl rfl (.inr ⟨0, _, rfl⟩) (bndm c19225) (ltn rfl)) rfl ?_
        intro v19226
        refine VL.va (op_assign rfl (ltn rfl)) rfl ?_
        refine VL.done ?_
        refine VN.then ?_
        refine VC.seq ?_
        refine VC.region ?_
        refine VL.va (op_move rfl (ltn rfl)) rfl ?_
        refine VL.va (op_bytesStr_own (xs := (l19199 ++ ([IntKind.u8.wrap i19196] : List Int))) 1 rfl rfl Try.underlying49 Try.underlying9 Try.underlying5 rfl rfl (ltn rfl)) rfl ?_
        refine VL.va (op_assign rfl (ltn rfl)) rfl ?_
        refine VL.done ?_
        refine VN.then ?_
        refine VC.ret ?_
        obtain rfl := Option.some.inj h
        exact VR.fn (rs := [.tmp 2]) [] [] [] rfl (.tmp rfl .nil) ⟨rfl, rfl, rfl⟩ trivial rfl (by decide)
      · rw [if_neg c19225] at h; cases h
set_option maxHeartbeats 4000000 in
set_option maxRecDepth 100000 in
theorem tarryref01_Row.ok (k : Nat) (l0 : List ByteArray) (v0 : Value) (r1 : ByteArray) (h : tarryref01_Row.f k l0 = some r1) :
    VCalls Try.prog 23 [v0] [.row v0 1 (l0.map enc_str)] (fun v G own => v = .string r1 ∧ G = [] ∧ own = []) := by
  refine VCalls.intro Try.func23 rfl (len rfl) fun E hC hW hD hU => ?_
  unfold tarryref01_Row.f at h
  refine VC.seq ?_
  refine VC.region ?_
  refine VL.va (op_assign rfl (ltn rfl)) rfl ?_
  refine VL.done ?_
  refine VN.then ?_
  refine VC.seq ?_
  refine VC.region ?_
  refine VL.va (op_move rfl (ltn rfl)) rfl ?_
  refine VL.va (op_len (m := l0.length) 0 lenm Try.underlying39 rfl rfl (ltn rfl)) rfl ?_
  replace h := Option.bind_eq_some_iff.1 h
  obtain ⟨t19228, hA19229, h⟩ := h
  refine VL.sC (o_call0 FO13 (tarryref01_Number.ok k (l0.length : Int) t19228 hA19229) rfl rfl (ltn rfl) (All_of .nil)) rfl ?_
  rintro _ _ _ ⟨rfl, rfl, rfl⟩
  refine VL.va (op_assign rfl (ltn rfl)) rfl ?_
  refine VL.done ?_
  refine VN.then ?_
  refine VC.seq ?_
  refine VC.seq ?_
  refine VC.region ?_
  refine VL.va (op_move rfl (ltn rfl)) rfl ?_
  refine VL.va (op_len (m := l0.length) 0 lenm Try.underlying39 rfl rfl (ltn rfl)) rfl ?_
  refine VL.va (op_move rfl (ltn rfl)) rfl ?_
  refine VL.done ?_
  refine VN.then ?_
  refine VC.block ?_
  refine VC.loop2 (fun (s19274 : ByteArray) (i19275 : Int) => ⟨24, [(2, .string (⟨#[]⟩ : ByteArray)), (3, .string s19274), (9, v0), (10, .int .i64 (l0.length : Int)), (11, .int .i64 i19275)], [.row v0 1 (l0.map enc_str)], [], []⟩) (fun (ml1 : Nat) (s19274 : ByteArray) (i19275 : Int) => tarryref01_Row.l1 k l0 ml1 s19274 i19275 = some r1) k t19228 0 [] [] h ⟨rfl, ⟨rfl, rfl, rfl, rfl, rfl, trivial⟩, ⟨⟨0, rfl⟩, trivial⟩, rfl, by decide, rfl, by decide⟩ (by intros; simp [tarryref01_Row.l1]) ?_
  clear h
  intro ml1 ihl1 s19274 i19275 h
  simp only [tarryref01_Row.l1] at h
  refine VC.seq ?_
  refine VC.region ?_
  refine VL.letter (decide (i19275 < (l0.length : Int))) fun b19287 hb19287 => ?_
  refine VL.va (op_cmp rfl rfl (congrArg some hb19287) (ltn rfl)) rfl ?_
  refine VL.done ?_
  refine VN.then ?_
  refine VC.seq ?_
  by_cases c19289 : i19275 < (l0.length : Int)
  · rw [if_pos c19289] at h
    obtain rfl : b19287 = true := hb19287.symm.trans (decide_eq_true c19289)
    refine VC.cond_t rfl ?_
    refine VC.skip ?_
    refine VN.then ?_
    refine VC.seq ?_
    refine VC.block ?_
    refine VC.seq ?_
    refine VC.region ?_
    by_cases c19290 : 0 ≤ i19275
    · rw [if_pos c19290] at h
      replace h := Option.bind_eq_some_iff.1 h
      obtain ⟨x19291, hx19291, h⟩ := h
      refine VL.open (m := l0.length) 0 lenm rfl (pos_get hx19291) ?_
      rintro ad19292 n19293 rfl
      refine VL.va (op_indexAddr Try.underlying39 TI9 rfl rfl c19290 (lt_get c19290 hx19291) rfl (ltn rfl)) rfl ?_
      refine VL.va (op_load_row (sz := 1) (o := 0) 0 i19275.toNat 1 rfl rfl (get_map hx19291) TI9 rfl (by decide) (ltn rfl)) rfl ?_
      refine VL.va (op_assign rfl (ltn rfl)) rfl ?_
      refine VL.done ?_
      refine VN.then ?_
      refine VC.region ?_
      refine VL.va (op_move rfl (ltn rfl)) rfl ?_
      refine VL.va (op_move rfl (ltn rfl)) rfl ?_
      refine VL.va (op_lens Try.underlying9 rfl (ltn rfl)) rfl ?_
      replace h := Option.bind_eq_some_iff.1 h
      obtain ⟨t19294, hA19295, h⟩ := h
      refine VL.sC (o_call0 FO13 (tarryref01_Number.ok k (x19291.size : Int) t19294 hA19295) rfl rfl (ltn rfl) (All_of .nil)) rfl ?_
      rintro _ _ _ ⟨rfl, rfl, rfl⟩
      by_cases c19296 : s19274.size + t19294.size ≤ 9223372036854775807
      · rw [if_pos c19296] at h
        refine VL.va (op_adds rfl rfl rfl c19296 (ltn rfl)) rfl ?_
        refine VL.va (op_move rfl (ltn rfl)) rfl ?_
        by_cases c19297 : (s19274 ++ t19294).size + x19291.size ≤ 9223372036854775807
        · rw [if_pos c19297] at h
          refine VL.va (op_adds rfl rfl rfl c19297 (ltn rfl)) rfl ?_
          refine VL.va (op_assign rfl (ltn rfl)) rfl ?_
          refine VL.done ?_
          refine VN.block ?_
          refine VN.then ?_
          refine VC.region ?_
          refine VL.va (op_ari64 rfl rfl rfl (ltn rfl)) rfl ?_
          refine VL.va (op_move rfl (ltn rfl)) rfl ?_
          refine VL.done ?_
          refine VN.again [] [] (ihl1 ((s19274 ++ t19294) ++ x19291) (wrap64 (i19275 + 1)) h) ⟨rfl, ⟨rfl, rfl, rfl, rfl, rfl, trivial⟩, ⟨⟨0, rfl⟩, trivial⟩, rfl, by decide, rfl, by decide⟩
        · rw [if_neg c19297] at h; cases h
      · rw [if_neg c19296] at h; cases h
    · rw [if_neg c19290] at h; cases h
  · rw [if_neg c19289] at h
    obtain rfl : b19287 = false := hb19287.symm.trans (decide_eq_false c19289)
    refine VC.cond_f rfl ?_
    refine VC.exit ?_
    refine VX.then ?_
    refine VX.then ?_
    refine VX.hit ?_
    refine VN.then ?_
    refine VC.seq ?_
    refine VC.region ?_
    refine VL.va (op_move rfl (ltn rfl)) rfl ?_
    refine VL.va (op_assign rfl (ltn rfl)) rfl ?_
    refine VL.done ?_
    refine VN.then ?_
    refine VC.ret ?_
    obtain rfl := Option.some.inj h
    exact VR.fn (rs := [.tmp 2]) [] [] [] rfl (.tmp rfl .nil) ⟨rfl, rfl, rfl⟩ trivial rfl (by decide)
set_option maxHeartbeats 4000000 in
set_option maxRecDepth 100000 in
theorem tarrylaw01_PackRows.ok (k : Nat) (l0 : List ByteArray) (a1 : ByteArray) (v0 : Value) (r1 : Bool) (h : tarrylaw01_PackRows.f k l0 a1 = some r1) :
    VCalls Try.prog 6 [v0, .string a1] [.row v0 1 (l0.map enc_str)] (fun v G own => v = .bool r1 ∧ G = [] ∧ own = []) := by
  refine VCalls.intro Try.func6 rfl (len rfl) fun E hC hW hD hU => ?_
  unfold tarrylaw01_PackRows.f at h
  refine VC.seq ?_
  refine VC.region ?_
  refine VL.va (op_assign rfl (ltn rfl)) rfl ?_
  refine VL.done ?_
  refine VN.then ?_
  replace h := Option.bind_eq_some_iff.1 h
  obtain ⟨r105, hA106, h⟩ := h
  by_cases c109 : 0 ≤ mn (a1.size : Int) 10000
  · rw [if_pos c109] at h
    by_cases c110 : (mn (a1.size : Int) 10000) ≤ (a1.size : Int)
    · rw [if_pos c110] at h
      refine VC.join1 (fun (v108 : Value) => ⟨63, [(0, v108), (1, .string (a1.extract 0 ((mn (a1.size : Int) 10000).toNat))), (4, .bool false)], [], [], [(v108, 9, 1, r105.map enc_str)]⟩) (fun (v108 : Value) => True) ?_ ?_
      · refine VC.draw ⟨0, [], [], [], []⟩ (by kernel_rfl) rfl (by kernel_rfl) (n := 9) (listed := LB 9 0) ?_
        refine VA.more ⟨0, [], [.row v0 1 (l0.map enc_str)], [], []⟩ ⟨trivial, trivial, trivial⟩ ?_
        refine VA.va (i := 0) (listed' := LB 9 1) rfl (op_move rfl (ltn rfl)) rfl (by kernel_rfl) (by kernel_rfl) (by kernel_rfl) (by kernel_rfl) ⟨⟨⟨0, rfl⟩, trivial⟩, trivial, trivial⟩ (fun _ _ _ h => h) ?_
        refine VA.va (i := 2) (listed' := LB 9 5) rfl (op_move rfl (ltn rfl)) rfl (by kernel_rfl) (by kernel_rfl) (by kernel_rfl) (by kernel_rfl) ⟨⟨⟨0, rfl⟩, trivial⟩, trivial, trivial⟩ (fun _ _ _ h => h) ?_
        refine VA.va (i := 3) (listed' := LB 9 13) rfl (op_move rfl (ltn rfl)) rfl (by kernel_rfl) (by kernel_rfl) (by kernel_rfl) (by kernel_rfl) ⟨⟨⟨0, rfl⟩, trivial⟩, trivial, trivial⟩ (fun _ _ _ h => h) ?_
        refine VA.va (i := 4) (listed' := LB 9 29) rfl (op_lens Try.underlying9 rfl (ltn rfl)) rfl (by kernel_rfl) (by kernel_rfl) (by kernel_rfl) (by kernel_rfl) ⟨⟨⟨0, rfl⟩, trivial⟩, trivial, trivial⟩ (fun _ _ _ h => h) ?_
        refine VA.va (i := 5) (listed' := LB 9 61) rfl (op_min rfl rfl (ltn rfl)) rfl (by kernel_rfl) (by kernel_rfl) (by kernel_rfl) (by kernel_rfl) ⟨⟨⟨0, rfl⟩, trivial⟩, trivial, trivial⟩ (fun _ _ _ h => h) ?_
        refine VA.va (i := 6) (listed' := LB 9 125) rfl (op_sliceS 0 ((mn (a1.size : Int) 10000).toNat) Try.underlying9 rfl ⟨rfl, ⟨_, _, rfl, c109, rfl⟩, by omega, by omega⟩ rfl (ltn rfl)) rfl (by kernel_rfl) (by kernel_rfl) (by kernel_rfl) (by kernel_rfl) ⟨⟨⟨0, rfl⟩, trivial⟩, trivial, trivial⟩ (fun _ _ _ h => h) ?_
        refine VA.oneC (i := 1) (listed' := LB 9 127) (by kernel_rfl) rfl (o_call0 FO17 (tarrylaw01_few.ok k l0 v0 r105 hA106) rfl rfl (ltn rfl) (All_of (.cons (List.mem_of_getElem? (i := 0) rfl) .nil))) rfl (by kernel_rfl) ?_
        rintro v108 _ _ ⟨_, rfl, rfl, rfl⟩
        refine ⟨⟨⟨⟨0, rfl⟩, trivial⟩, trivial, trivial⟩, ?_⟩
        refine VA.more ⟨0, [], [.row v0 1 (l0.map enc_str)], [], [(v108, 9, 1, r105.map enc_str)]⟩ ⟨⟨⟨0, rfl⟩, trivial⟩, trivial, trivial⟩ ?_
        refine VA.va (i := 7) (listed' := LB 9 255) rfl (op_assign rfl (ltn rfl)) rfl (by kernel_rfl) (by kernel_rfl) (by kernel_rfl) (by kernel_rfl) ⟨⟨⟨0, rfl⟩, trivial⟩, trivial, ⟨⟨0, rfl⟩, trivial⟩⟩ (fun _ _ _ h => h) ?_
        refine VA.va (i := 8) (listed' := LB 9 511) rfl (op_assign rfl (ltn rfl)) rfl (by kernel_rfl) (by kernel_rfl) (by kernel_rfl) (by kernel_rfl) ⟨⟨⟨0, rfl⟩, trivial⟩, trivial, ⟨⟨0, rfl⟩, trivial⟩⟩ (fun _ _ _ h => h) ?_
        refine VA.done (by kernel_rfl) ?_
        exact VN.meet1 v108 [] [0] trivial ⟨rfl, ⟨rfl, rfl, rfl, trivial⟩, trivial, rfl, by decide, rfl, by decide⟩
      intro v108 _
      refine VC.seq ?_
      refine VC.region ?_
      refine VL.va (op_move rfl (ltn rfl)) rfl ?_
      replace h := Option.bind_eq_some_iff.1 h
      obtain ⟨⟨t288, t289⟩, hA290, h⟩ := h
      dsimp only at h
      refine VL.sC (o_call_b0 FO18 (pack_Row.ok k r105 v108 t288 t289 hA290) rfl rfl (ltn rfl) (All_of (.cons (.inr (.inl ⟨_, List.mem_of_getElem? (i := 0) rfl, rfl⟩)) .nil)) (by rintro _ _ _ ⟨rfl, rfl, rfl⟩; rfl)) rfl ?_
      rintro _ _ _ ⟨rfl, rfl, rfl⟩
      refine VL.va (op_move rfl (ltn rfl)) rfl ?_
      refine VL.va (op_extract rfl rfl (ltn rfl)) rfl ?_
      refine VL.va (op_extract rfl rfl (ltn rfl)) rfl ?_
      refine VL.va (op_assign rfl (ltn rfl)) rfl ?_
      refine VL.va (op_assign rfl (ltn rfl)) rfl ?_
      refine VL.done ?_
      refine VN.then ?_
      refine VC.seq ?_
      refine VC.region ?_
      refine VL.va (op_move rfl (ltn rfl)) rfl ?_
      replace h := Option.bind_eq_some_iff.1 h
      obtain ⟨⟨r2325, t2326⟩, hA2327, h⟩ := h
      dsimp only at h
      refine VL.sC (o_call0 FO19 (pack_ReadRow.ok k (a1.extract 0 ((mn (a1.size : Int) 10000).toNat)) r2325 t2326 hA2327) rfl rfl (ltn rfl) (All_of .nil)) rfl ?_
      rintro _ _ _ ⟨v2329, rfl, rfl, rfl⟩
      refine VL.va (op_move rfl (ltn rfl)) rfl ?_
      refine VL.va (op_extract rfl rfl (ltn rfl)) rfl ?_
      refine VL.va (op_extract rfl rfl (ltn rfl)) rfl ?_
      refine VL.va (op_assign rfl (ltn rfl)) rfl ?_
      refine VL.va (op_assign rfl (ltn rfl)) rfl ?_
      refine VL.done ?_
      refine VN.then ?_
      refine VC.seq ?_
      refine VC.region ?_
      refine VL.va (op_move rfl (ltn rfl)) rfl ?_
      replace h := Option.bind_eq_some_iff.1 h
      obtain ⟨⟨r18821, t18822⟩, hA18823, h⟩ := h
      dsimp only at h
      refine VL.sC (o_call0 FO20 (tarryref01_ReadRow.ok k (a1.extract 0 ((mn (a1.size : Int) 10000).toNat)) r18821 t18822 hA18823) rfl rfl (ltn rfl) (All_of .nil)) rfl ?_
      rintro _ _ _ ⟨v18825, rfl, rfl, rfl⟩
      refine VL.va (op_move rfl (ltn rfl)) rfl ?_
      refine VL.va (op_extract rfl rfl (ltn rfl)) rfl ?_
      refine VL.va (op_extract rfl rfl (ltn rfl)) rfl ?_
      refine VL.va (op_assign rfl (ltn rfl)) rfl ?_
      refine VL.va (op_assign rfl (ltn rfl)) rfl ?_
      refine VL.done ?_
      refine VN.then ?_
      refine VC.seq ?_
      refine VC.seq ?_
      refine VC.region ?_
      refine VL.va (op_move rfl (ltn rfl)) rfl ?_
      refine VL.va (op_move rfl (ltn rfl)) rfl ?_
      refine VL.letter ((t2326 != t18822)) fun b18956 hb18956 => ?_
      refine VL.va (op_cmp rfl rfl (congrArg some hb18956) (ltn rfl)) rfl ?_
      refine VL.va (op_move rfl (ltn rfl)) rfl ?_
      by_cases c18957 : t2326 = t18822
      · rw [if_pos c18957] at h
        obtain rfl : b18956 = false := hb18956.symm.trans (bne_eq_false_iff_eq.2 c18957)
        refine VL.va (op_move rfl (ltn rfl)) rfl ?_
        refine VL.va (op_move rfl (ltn rfl)) rfl ?_
        replace h := Option.bind_eq_some_iff.1 h
        obtain ⟨t18958, hA18959, h⟩ := h
        refine VL.sC (o_call_b0 FO21 (tarryref01_Same.ok k r2325 r18821 v2329 v18825 t18958 hA18959) rfl rfl (ltn rfl) (All_of (.cons (.inr (.inl ⟨_, List.mem_of_getElem? (i := 1) rfl, rfl⟩)) (.cons (.inr (.inl ⟨_, List.mem_of_getElem? (i := 0) rfl, rfl⟩)) .nil))) (by rintro _ _ _ ⟨rfl, rfl, rfl⟩; rfl)) rfl ?_
        rintro _ _ _ ⟨rfl, rfl, rfl⟩
        by_cases c18960 : t18958 = true
        · rw [if_pos c18960] at h
          obtain rfl := c18960
          refine VL.va (op_not rfl rfl (ltn rfl)) rfl ?_
          refine VL.va (op_pick rfl rfl (ltn rfl)) rfl ?_
          refine VL.va (op_move rfl (ltn rfl)) rfl ?_
          replace h := Option.bind_eq_some_iff.1 h
          obtain ⟨t18961, hA18962, h⟩ := h
          refine VL.sC (o_call0 FO11 (tarrylaw01_alive.ok k t18961 hA18962) rfl rfl (ltn rfl) (All_of .nil)) rfl ?_
          rintro _ _ _ ⟨rfl, rfl, rfl⟩
          by_cases c18963 : t18961 = true
          · rw [if_pos c18963] at h
            obtain rfl := c18963
            refine VL.va (op_not rfl rfl (ltn rfl)) rfl ?_
            refine VL.va (op_pick rfl rfl (ltn rfl)) rfl ?_
            refine VL.done ?_
            refine VN.then ?_
            refine VC.cond_f rfl ?_
            refine VC.skip ?_
            refine VN.then ?_
            refine VC.seq ?_
            refine VC.seq ?_
            refine VC.region ?_
            refine VL.va (op_move rfl (ltn rfl)) rfl ?_
            replace h := Option.bind_eq_some_iff.1 h
            obtain ⟨t19070, hA19071, h⟩ := h
            refine VL.sC (o_call_b0 FO22 (tarryref01_MayRow.ok k r105 v108 t19070 hA19071) rfl rfl (ltn rfl) (All_of (.cons (.inr (.inl ⟨_, List.mem_of_getElem? (i := 2) rfl, rfl⟩)) .nil)) (by rintro _ _ _ ⟨rfl, rfl, rfl⟩; rfl)) rfl ?_
            rintro _ _ _ ⟨rfl, rfl, rfl⟩
            by_cases c19072 : t19070 = true
            · rw [if_pos c19072] at h
              obtain rfl := c19072
              refine VL.va (op_not rfl rfl (ltn rfl)) rfl ?_
              refine VL.done ?_
              refine VN.then ?_
              refine VC.cond_f rfl ?_
              refine VC.skip ?_
              refine VN.then ?_
              refine VC.seq ?_
              refine VC.region ?_
              refine VL.va (op_move rfl (ltn rfl)) rfl ?_
              refine VL.letter ((t289 == 0)) fun b19301 hb19301 => ?_
              refine VL.va (op_cmp rfl rfl (congrArg some hb19301) (ltn rfl)) rfl ?_
              refine VL.va (op_move rfl (ltn rfl)) rfl ?_
              by_cases c19302 : t289 = 0
              · rw [if_pos c19302] at h
                obtain rfl : b19301 = true := hb19301.symm.trans (beq_iff_eq.2 c19302)
                refine VL.va (op_move rfl (ltn rfl)) rfl ?_
                refine VL.va (op_move rfl (ltn rfl)) rfl ?_
                replace h := Option.bind_eq_some_iff.1 h
                obtain ⟨t19303, hA19304, h⟩ := h
                refine VL.sC (o_call_b0 FO23 (tarryref01_Row.ok k r105 v108 t19303 hA19304) rfl rfl (ltn rfl) (All_of (.cons (.inr (.inl ⟨_, List.mem_of_getElem? (i := 2) rfl, rfl⟩)) .nil)) (by rintro _ _ _ ⟨rfl, rfl, rfl⟩; rfl)) rfl ?_
                rintro _ _ _ ⟨rfl, rfl, rfl⟩
                refine VL.letter ((t288 == t19303)) fun b19305 hb19305 => ?_
                refine VL.va (op_cmps rfl rfl (congrArg some hb19305) (ltn rfl)) rfl ?_
                refine VL.va (op_pick rfl rfl (ltn rfl)) rfl ?_
                refine VL.va (op_assign rfl (ltn rfl)) rfl ?_
                refine VL.done ?_
                refine VN.then ?_
                refine VC.ret ?_
                obtain rfl := Option.some.inj h
                subst hb19305
                exact VR.fn (rs := [.tmp 4]) [] [] [] rfl (.tmp rfl .nil) ⟨rfl, rfl, rfl⟩ trivial rfl (by decide)
              · rw [if_neg c19302] at h
                obtain rfl : b19301 = false := hb19301.symm.trans (beq_eq_false_iff_ne.2 c19302)
                refine VL.un rfl rfl (ltn rfl) ?_
                refine VL.un rfl rfl (ltn rfl) ?_
                refine VL.un rfl rfl (ltn rfl) ?_
                refine VL.un rfl rfl (ltn rfl) ?_
                refine VL.va (op_pick rfl rfl (ltn rfl)) rfl ?_
                refine VL.va (op_assign rfl (ltn rfl)) rfl ?_
                refine VL.done ?_
                refine VN.then ?_
                refine VC.ret ?_
                cases h
            · rw [if_neg c19072] at h
              obtain rfl := Bool.eq_false_iff.2 c19072
              refine VL.va (op_not rfl rfl (ltn rfl)) rfl ?_
              refine VL.done ?_
              refine VN.then ?_
              refine VC.cond_t rfl ?_
              refine VC.seq ?_
              refine VC.region ?_
              refine VL.va (op_move rfl (ltn rfl)) rfl ?_
              refine VL.letter ((t289 == 3)) fun b19309 hb19309 => ?_
              refine VL.va (op_cmp rfl rfl (congrArg some hb19309) (ltn rfl)) rfl ?_
              refine VL.va (op_move rfl (ltn rfl)) rfl ?_
              by_cases c19310 : t289 = 3
              · rw [if_pos c19310] at h
                obtain rfl : b19309 = true := hb19309.symm.trans (beq_iff_eq.2 c19310)
                refine VL.va (op_move rfl (ltn rfl)) rfl ?_
                refine VL.letter ((t288 == (⟨#[]⟩ : ByteArray))) fun b19311 hb19311 => ?_
                refine VL.va (op_cmps rfl rfl (congrArg some hb19311) (ltn rfl)) rfl ?_
                refine VL.va (op_pick rfl rfl (ltn rfl)) rfl ?_
                refine VL.va (op_assign rfl (ltn rfl)) rfl ?_
                refine VL.done ?_
                refine VN.then ?_
                refine VC.ret ?_
                refine VR.then ?_
                obtain rfl := Option.some.inj h
                subst hb19311
                exact VR.fn (rs := [.tmp 4]) [] [] [] rfl (.tmp rfl .nil) ⟨rfl, rfl, rfl⟩ trivial rfl (by decide)
              · rw [if_neg c19310] at h
                obtain rfl : b19309 = false := hb19309.symm.trans (beq_eq_false_iff_ne.2 c19310)
                refine VL.un rfl rfl (ltn rfl) ?_
                refine VL.un rfl rfl (ltn rfl) ?_
                refine VL.va (op_pick rfl rfl (ltn rfl)) rfl ?_
                refine VL.va (op_assign rfl (ltn rfl)) rfl ?_
                refine VL.done ?_
                refine VN.then ?_
                refine VC.ret ?_
                refine VR.then ?_
                cases h
          · rw [if_neg c18963] at h
            obtain rfl := Bool.eq_false_iff.2 c18963
            refine VL.va (op_not rfl rfl (ltn rfl)) rfl ?_
            refine VL.va (op_pick rfl rfl (ltn rfl)) rfl ?_
            refine VL.done ?_
            refine VN.then ?_
            refine VC.cond_t rfl ?_
            refine VC.seq ?_
            refine VC.region ?_
            refine VL.va (op_assign rfl (ltn rfl)) rfl ?_
            refine VL.done ?_
            refine VN.then ?_
            refine VC.ret ?_
            refine VR.then ?_
            cases h
        · rw [if_neg c18960] at h
          obtain rfl := Bool.eq_false_iff.2 c18960
          refine VL.va (op_not rfl rfl (ltn rfl)) rfl ?_
          refine VL.va (op_pick rfl rfl (ltn rfl)) rfl ?_
          refine VL.va (op_move rfl (ltn rfl)) rfl ?_
          refine VL.un rfl rfl (ltn rfl) ?_
          refine VL.un rfl rfl (ltn rfl) ?_
          refine VL.va (op_pick rfl rfl (ltn rfl)) rfl ?_
          refine VL.done ?_
          refine VN.then ?_
          refine VC.cond_t rfl ?_
          refine VC.seq ?_
          refine VC.region ?_
          refine VL.va (op_assign rfl (ltn rfl)) rfl ?_
          refine VL.done ?_
          refine VN.then ?_
          refine VC.ret ?_
          refine VR.then ?_
          cases h
      · rw [if_neg c18957] at h
        obtain rfl : b18956 = true := hb18956.symm.trans (bne_iff_ne.2 c18957)
        refine VL.un rfl rfl (ltn rfl) ?_
        refine VL.un rfl rfl (ltn rfl) ?_
        refine VL.un rfl rfl (ltn rfl) ?_
        refine VL.un rfl rfl (ltn rfl) ?_
        refine VL.va (op_pick rfl rfl (ltn rfl)) rfl ?_
        refine VL.va (op_move rfl (ltn rfl)) rfl ?_
        refine VL.un rfl rfl (ltn rfl) ?_
        refine VL.un rfl rfl (ltn rfl) ?_
        refine VL.va (op_pick rfl rfl (ltn rfl)) rfl ?_
        refine VL.done ?_
        refine VN.then ?_
        refine VC.cond_t rfl ?_
        refine VC.seq ?_
        refine VC.region ?_
        refine VL.va (op_assign rfl (ltn rfl)) rfl ?_
        refine VL.done ?_
        refine VN.then ?_
        refine VC.ret ?_
        refine VR.then ?_
        cases h
    · rw [if_neg c110] at h; cases h
  · rw [if_neg c109] at h; cases h

end Go.Proofs.Ytacenfolbmdpoaa.PPackRows
