/- Written by a program of this repo: what the program's functions do, each as a Lean function, shown of the loaded code; or a statement's row over that; no condition of its own. -/
import Derived.Test.YtdofmkbffffbpaaPWaitsGox3
namespace Go.Proofs.Ytdofmkbffffbpaa.PWaitsGo
open Go Go.RowKit Go.Proofs.YtdofmkbffffbpaaV
set_option linter.unusedVariables false
set_option linter.unusedSimpArgs false

set_option maxHeartbeats 4000000 in
set_option maxRecDepth 100000 in
theorem waits_like_is.ok (a0_0 : ByteArray) (a0_1 : Int) (a0_2 : Int) (a0_3 : Int) (a1_0 : ByteArray) (a1_1 : Int) (a1_2 : Int) (a1_3 : Int)  (r1 : Bool) (h : waits_like_is.f a0_0 a0_1 a0_2 a0_3 a1_0 a1_1 a1_2 a1_3 = some r1) :
    VCalls Try.prog 35 [.agg #[.string a0_0, .int .i64 a0_1, .int .i64 a0_2, .int .i64 a0_3], .agg #[.string a1_0, .int .i64 a1_1, .int .i64 a1_2, .int .i64 a1_3]] [] (fun v G own => v = .bool r1 ∧ G = [] ∧ own = []) := by
  refine VCalls.intro Try.func35 rfl (len rfl) fun E hC hW hD hU => ?_
  unfold waits_like_is.f at h
  refine VC.seq ?_
  refine VC.region ?_
  refine VL.sG (o_box rfl (.agg (.of rfl)) (ltn rfl)) rfl ?_
  intro g1743
  refine VL.sG (o_box rfl (.agg (.of rfl)) (ltn rfl)) rfl ?_
  intro g1744
  refine VL.va (op_assign rfl (ltn rfl)) rfl ?_
  refine VL.done ?_
  refine VN.then ?_
  refine VC.seq ?_
  refine VC.region ?_
  refine VL.va (op_fieldAddr FI57_1 rfl (add_at _ _ _) (ltn rfl)) rfl ?_
  refine VL.va (op_fieldAddr FI24_2 rfl (add_at _ _ _) (ltn rfl)) rfl ?_
  refine VL.va (op_load 1 1 rfl rfl TI3 rfl (by decide) (ltn rfl)) rfl ?_
  refine VL.va (op_fieldAddr FI26_1 rfl (add_at _ _ _) (ltn rfl)) rfl ?_
  refine VL.va (op_fieldAddr FI24_2 rfl (add_at _ _ _) (ltn rfl)) rfl ?_
  refine VL.va (op_load 0 1 rfl rfl TI3 rfl (by decide) (ltn rfl)) rfl ?_
  refine VL.letter ((a0_3 == a1_3)) fun b1748 hb1748 => ?_
  refine VL.va (op_cmp rfl rfl (congrArg some hb1748) (ltn rfl)) rfl ?_
  refine VL.va (op_move rfl (ltn rfl)) rfl ?_
  by_cases c1749 : a0_3 = a1_3
  · rw [if_pos c1749] at h
    obtain rfl : b1748 = true := hb1748.symm.trans (beq_iff_eq.2 c1749)
    refine VL.un rfl rfl (ltn rfl) ?_
    refine VL.un rfl rfl (ltn rfl) ?_
    refine VL.un rfl rfl (ltn rfl) ?_
    refine VL.un rfl rfl (ltn rfl) ?_
    refine VL.un rfl rfl (ltn rfl) ?_
    refine VL.un rfl rfl (ltn rfl) ?_
    refine VL.un rfl rfl (ltn rfl) ?_
    refine VL.va (op_pick rfl rfl (ltn rfl)) rfl ?_
    refine VL.va (op_assign rfl (ltn rfl)) rfl ?_
    refine VL.done ?_
    refine VN.then ?_
    refine VC.ret ?_
    obtain rfl := Option.some.inj h
    exact VR.fn (rs := [.tmp 4]) [] [] [] rfl (.tmp rfl .nil) ⟨rfl, rfl, rfl⟩ trivial rfl (by decide)
  · rw [if_neg c1749] at h
    obtain rfl : b1748 = false := hb1748.symm.trans (beq_eq_false_iff_ne.2 c1749)
    refine VL.va (op_fieldAddr FI57_1 rfl (add_at _ _ _) (ltn rfl)) rfl ?_
    refine VL.va (op_fieldAddr FI24_1 rfl (add_at _ _ _) (ltn rfl)) rfl ?_
    refine VL.va (op_load 1 1 rfl rfl TI3 rfl (by decide) (ltn rfl)) rfl ?_
    refine VL.va (op_fieldAddr FI26_1 rfl (add_at _ _ _) (ltn rfl)) rfl ?_
    refine VL.va (op_fieldAddr FI24_1 rfl (add_at _ _ _) (ltn rfl)) rfl ?_
    refine VL.va (op_load 0 1 rfl rfl TI3 rfl (by decide) (ltn rfl)) rfl ?_
    refine VL.letter ((a0_2 == a1_2)) fun b1750 hb1750 => ?_
    refine VL.va (op_cmp rfl rfl (congrArg some hb1750) (ltn rfl)) rfl ?_
    refine VL.va (op_pick rfl rfl (ltn rfl)) rfl ?_
    refine VL.va (op_assign rfl (ltn rfl)) rfl ?_
    refine VL.done ?_
    refine VN.then ?_
    refine VC.ret ?_
    obtain rfl := Option.some.inj h
    subst hb1750
    exact VR.fn (rs := [.tmp 4]) [] [] [] rfl (.tmp rfl .nil) ⟨rfl, rfl, rfl⟩ trivial rfl (by decide)
set_option maxHeartbeats 4000000 in
set_option maxRecDepth 100000 in
theorem slices_IndexFunc_api_Line_api_Line.ok (k : Nat) (l0 : List S25) (a1_90_0 : ByteArray) (a1_90_1 : Int) (a1_90_2 : Int) (a1_90_3 : Int) (v0 : Value) (r1 : Int) (h : slices_IndexFunc_api_Line_api_Line.f k l0 a1_90_0 a1_90_1 a1_90_2 a1_90_3 = some r1) :
    VCalls Try.prog 50 [v0, (.func (.func 35) #[.agg #[.string a1_90_0, .int .i64 a1_90_1, .int .i64 a1_90_2, .int .i64 a1_90_3]] #[])] [.row v0 4 (l0.map enc25)] (fun v G own => v = .int .i64 r1 ∧ G = [] ∧ own = []) := by
  refine VCalls.intro Try.func50 rfl (len rfl) fun E hC hW hD hU => ?_
  unfold slices_IndexFunc_api_Line_api_Line.f at h
  refine VC.seq ?_
  refine VC.region ?_
  refine VL.va (op_assign rfl (ltn rfl)) rfl ?_
  refine VL.done ?_
  refine VN.then ?_
  refine VC.seq ?_
  refine VC.seq ?_
  refine VC.region ?_
  refine VL.va (op_move rfl (ltn rfl)) rfl ?_
  refine VL.va (op_len (m := l0.length) 0 lenm Try.underlying22 rfl rfl (ltn rfl)) rfl ?_
  refine VL.va (op_move rfl (ltn rfl)) rfl ?_
  refine VL.done ?_
  refine VN.then ?_
  refine VC.block ?_
  refine VC.loop1 (fun (i1810 : Int) => ⟨19, [(0, v0), (1, (.func (.func 35) #[.agg #[.string a1_90_0, .int .i64 a1_90_1, .int .i64 a1_90_2, .int .i64 a1_90_3]] #[])), (4, .int .i64 0), (7, .int .i64 (l0.length : Int)), (8, .int .i64 i1810)], [.row v0 4 (l0.map enc25)], [], []⟩) (fun (ml1 : Nat) (i1810 : Int) => slices_IndexFunc_api_Line_api_Line.l1 k a1_90_0 a1_90_1 a1_90_2 a1_90_3 l0 ml1 i1810 = some r1) k 0 [] [] h ⟨rfl, ⟨rfl, rfl, rfl, rfl, rfl, trivial⟩, ⟨⟨0, rfl⟩, trivial⟩, rfl, by decide, rfl, by decide⟩ (by intros; simp [slices_IndexFunc_api_Line_api_Line.l1]) ?_
  clear h
  intro ml1 ihl1 i1810 h
  simp only [slices_IndexFunc_api_Line_api_Line.l1] at h
  refine VC.seq ?_
  refine VC.region ?_
  refine VL.letter (decide (i1810 < (l0.length : Int))) fun b1828 hb1828 => ?_
  refine VL.va (op_cmp rfl rfl (congrArg some hb1828) (ltn rfl)) rfl ?_
  refine VL.done ?_
  refine VN.then ?_
  refine VC.seq ?_
  by_cases c1830 : i1810 < (l0.length : Int)
  · rw [if_pos c1830] at h
    obtain rfl : b1828 = true := hb1828.symm.trans (decide_eq_true c1830)
    refine VC.cond_t rfl ?_
    refine VC.skip ?_
    refine VN.then ?_
    refine VC.seq ?_
    refine VC.block ?_
    refine VC.seq ?_
    refine VC.region ?_
    refine VL.va (op_move rfl (ltn rfl)) rfl ?_
    refine VL.va (op_assign rfl (ltn rfl)) rfl ?_
    refine VL.done ?_
    refine VN.then ?_
    refine VC.seq ?_
    refine VC.region ?_
    refine VL.va (op_move rfl (ltn rfl)) rfl ?_
    refine VL.va (op_move rfl (ltn rfl)) rfl ?_
    refine VL.va (op_move rfl (ltn rfl)) rfl ?_
    by_cases c1838 : 0 ≤ i1810
    · rw [if_pos c1838] at h
      replace h := Option.bind_eq_some_iff.1 h
      obtain ⟨x1839, hx1839, h⟩ := h
      refine VL.open (m := l0.length) 0 lenm rfl (pos_get hx1839) ?_
      rintro ad1840 n1841 rfl
      refine VL.va (op_indexAddr Try.underlying22 TI26 rfl rfl c1838 (lt_get c1838 hx1839) rfl (ltn rfl)) rfl ?_
      refine VL.va (op_load_row (sz := 4) (o := 0) 0 i1810.toNat 4 rfl rfl (get_map hx1839) TI26 rfl (fun h => absurd h (by decide)) (ltn rfl)) rfl ?_
      replace h := Option.bind_eq_some_iff.1 h
      obtain ⟨t1842, hA1843, h⟩ := h
      refine VL.sC (o_callB (bnd := [.agg #[.string a1_90_0, .int .i64 a1_90_1, .int .i64 a1_90_2, .int .i64 a1_90_3]]) (vals := [.agg #[.string x1839.f0, .int .i64 x1839.f1, .int .i64 x1839.f2, .int .i64 x1839.f3]]) FO35 (waits_like_is.ok a1_90_0 a1_90_1 a1_90_2 a1_90_3 x1839.f0 x1839.f1 x1839.f2 x1839.f3 t1842 hA1843) rfl rfl (ltn rfl) (All_of .nil)) rfl ?_
      rintro _ _ _ ⟨rfl, rfl, rfl⟩
      refine VL.done ?_
      refine VN.then ?_
      by_cases c1844 : t1842 = true
      · rw [if_pos c1844] at h
        obtain rfl := c1844
        refine VC.cond_t rfl ?_
        refine VC.seq ?_
        refine VC.region ?_
        refine VL.va (op_move rfl (ltn rfl)) rfl ?_
        refine VL.va (op_assign rfl (ltn rfl)) rfl ?_
        refine VL.done ?_
        refine VN.then ?_
        refine VC.ret ?_
        refine VR.block ?_
        refine VR.then ?_
        refine VR.then ?_
        refine VR.block ?_
        refine VR.then ?_
        obtain rfl := Option.some.inj h
        exact VR.fn (rs := [.tmp 4]) [] [] [] rfl (.tmp rfl .nil) ⟨rfl, rfl, rfl⟩ trivial rfl (by decide)
      · rw [if_neg c1844] at h
        obtain rfl := Bool.eq_false_iff.2 c1844
        refine VC.cond_f rfl ?_
        refine VC.skip ?_
        refine VN.block ?_
        refine VN.then ?_
        refine VC.region ?_
        refine VL.va (op_ari64 rfl rfl rfl (ltn rfl)) rfl ?_
        refine VL.va (op_move rfl (ltn rfl)) rfl ?_
        refine VL.done ?_
        refine VN.again [] [] (ihl1 (wrap64 (i1810 + 1)) h) ⟨rfl, ⟨rfl, rfl, rfl, rfl, rfl, trivial⟩, ⟨⟨0, rfl⟩, trivial⟩, rfl, by decide, rfl, by decide⟩
    · rw [if_neg c1838] at h; cases h
  · rw [if_neg c1830] at h
    obtain rfl : b1828 = false := hb1828.symm.trans (decide_eq_false c1830)
    refine VC.cond_f rfl ?_
    refine VC.exit ?_
    refine VX.then ?_
    refine VX.then ?_
    refine VX.hit ?_
    refine VN.then ?_
    refine VC.seq ?_
    refine VC.region ?_
    refine VL.va (op_assign rfl (ltn rfl)) rfl ?_
    refine VL.done ?_
    refine VN.then ?_
    refine VC.ret ?_
    obtain rfl := Option.some.inj h
    exact VR.fn (rs := [.tmp 4]) [] [] [] rfl (.tmp rfl .nil) ⟨rfl, rfl, rfl⟩ trivial rfl (by decide)
set_option maxHeartbeats 4000000 in
set_option maxRecDepth 100000 in
theorem slices_ContainsFunc_api_Line_api_Line.ok (k : Nat) (l0 : List S25) (a1_90_0 : ByteArray) (a1_90_1 : Int) (a1_90_2 : Int) (a1_90_3 : Int) (v0 : Value) (r1 : Bool) (h : slices_ContainsFunc_api_Line_api_Line.f k l0 a1_90_0 a1_90_1 a1_90_2 a1_90_3 = some r1) :
    VCalls Try.prog 34 [v0, (.func (.func 35) #[.agg #[.string a1_90_0, .int .i64 a1_90_1, .int .i64 a1_90_2, .int .i64 a1_90_3]] #[])] [.row v0 4 (l0.map enc25)] (fun v G own => v = .bool r1 ∧ G = [] ∧ own = []) := by
  refine VCalls.intro Try.func34 rfl (len rfl) fun E hC hW hD hU => ?_
  unfold slices_ContainsFunc_api_Line_api_Line.f at h
  refine VC.seq ?_
  refine VC.region ?_
  refine VL.va (op_assign rfl (ltn rfl)) rfl ?_
  refine VL.done ?_
  refine VN.then ?_
  refine VC.seq ?_
  refine VC.region ?_
  refine VL.va (op_move rfl (ltn rfl)) rfl ?_
  refine VL.va (op_move rfl (ltn rfl)) rfl ?_
  replace h := Option.bind_eq_some_iff.1 h
  obtain ⟨t1845, hA1846, h⟩ := h
  refine VL.sC (o_call0 FO50 (slices_IndexFunc_api_Line_api_Line.ok k l0 a1_90_0 a1_90_1 a1_90_2 a1_90_3 v0 t1845 hA1846) rfl rfl (ltn rfl) (All_of (.cons (List.mem_of_getElem? (i := 0) rfl) .nil))) rfl ?_
  rintro _ _ _ ⟨rfl, rfl, rfl⟩
  refine VL.letter (decide (t1845 ≥ 0)) fun b1847 hb1847 => ?_
  refine VL.va (op_cmp rfl rfl (congrArg some hb1847) (ltn rfl)) rfl ?_
  refine VL.va (op_assign rfl (ltn rfl)) rfl ?_
  refine VL.done ?_
  refine VN.then ?_
  refine VC.ret ?_
  obtain rfl := Option.some.inj h
  subst hb1847
  exact VR.fn (rs := [.tmp 4]) [] [] [] rfl (.tmp rfl .nil) ⟨rfl, rfl, rfl⟩ trivial rfl (by decide)
set_option maxHeartbeats 4000000 in
set_option maxRecDepth 100000 in
theorem waits_all.ok (k : Nat) (l0 : List S25) (v0 : Value) (r1 : Bool) (h : waits_all.f k l0 = some r1) :
    VCalls Try.prog 29 [v0] [.row v0 4 (l0.map enc25)] (fun v G own => v = .bool r1 ∧ G = [] ∧ own = []) := by
  refine VCalls.intro Try.func29 rfl (len rfl) fun E hC hW hD hU => ?_
  unfold waits_all.f at h
  refine VC.seq ?_
  refine VC.region ?_
  refine VL.va (op_assign rfl (ltn rfl)) rfl ?_
  refine VL.done ?_
  refine VN.then ?_
  refine VC.seq ?_
  refine VC.seq ?_
  refine VC.region ?_
  refine VL.va (op_move rfl (ltn rfl)) rfl ?_
  refine VL.va (op_len (m := l0.length) 0 lenm Try.underlying22 rfl rfl (ltn rfl)) rfl ?_
  refine VL.va (op_move rfl (ltn rfl)) rfl ?_
  refine VL.done ?_
  refine VN.then ?_
  refine VC.block ?_
  refine VC.loop1 (fun (i1956 : Int) => ⟨27, [(0, v0), (2, .bool false), (5, v0), (6, .int .i64 (l0.length : Int)), (7, .int .i64 i1956)], [.row v0 4 (l0.map enc25)], [], []⟩) (fun (ml1 : Nat) (i1956 : Int) => waits_all.l1 k l0 ml1 i1956 = some r1) k 0 [] [] h ⟨rfl, ⟨rfl, rfl, rfl, rfl, rfl, trivial⟩, ⟨⟨0, rfl⟩, trivial⟩, rfl, by decide, rfl, by decide⟩ (by intros; simp [waits_all.l1]) ?_
  clear h
  intro ml1 ihl1 i1956 h
  simp only [waits_all.l1] at h
  refine VC.seq ?_
  refine VC.region ?_
  refine VL.letter (decide (i1956 < (l0.length : Int))) fun b1988 hb1988 => ?_
  refine VL.va (op_cmp rfl rfl (congrArg some hb1988) (ltn rfl)) rfl ?_
  refine VL.done ?_
  refine VN.then ?_
  refine VC.seq ?_
  by_cases c1991 : i1956 < (l0.length : Int)
  · rw [if_pos c1991] at h
    obtain rfl : b1988 = true := hb1988.symm.trans (decide_eq_true c1991)
    refine VC.cond_t rfl ?_
    refine VC.skip ?_
    refine VN.then ?_
    refine VC.seq ?_
    refine VC.block ?_
    refine VC.seq ?_
    refine VC.region ?_
    refine VL.va (op_move rfl (ltn rfl)) rfl ?_
    by_cases c2006 : 0 ≤ i1956
    · rw [if_pos c2006] at h
      replace h := Option.bind_eq_some_iff.1 h
      obtain ⟨x2007, hx2007, h⟩ := h
      refine VL.open (m := l0.length) 0 lenm rfl (pos_get hx2007) ?_
      rintro ad2008 n2009 rfl
      refine VL.va (op_indexAddr Try.underlying22 TI26 rfl rfl c2006 (lt_get c2006 hx2007) rfl (ltn rfl)) rfl ?_
      refine VL.va (op_load_row (sz := 4) (o := 0) 0 i1956.toNat 4 rfl rfl (get_map hx2007) TI26 rfl (fun h => absurd h (by decide)) (ltn rfl)) rfl ?_
      refine VL.sG (o_alloc Z26 ZL26 (ltn rfl)) rfl ?_
      intro g2010
      refine VL.va (op_assign rfl (ltn rfl)) rfl ?_
      refine VL.step1 (o_store 0 4 rfl rfl rfl TI26 (.agg (.of rfl)) rfl (len rfl)) rfl ?_
      refine VL.done ?_
      refine VN.then ?_
      replace h := Option.bind_eq_some_iff.1 h
      obtain ⟨t2011, hA2012, h⟩ := h
      by_cases c2013 : t2011 = true
      · rw [if_pos c2013] at h
        obtain rfl := c2013
        by_cases c2014 : i1956 ≤ (l0.length : Int)
        · rw [if_pos c2014] at h
          replace h := Option.bind_eq_some_iff.1 h
          obtain ⟨t2017, hA2018, h⟩ := h
          refine VC.join1 (fun (v2016 : Value) => ⟨27, [(0, (.slice (some ad2008) l0.length n2009)), (2, .bool false), (3, .int .i64 i1956), (4, .pointer (some ⟨g2010, 0, none⟩)), (5, (.slice (some ad2008) l0.length n2009)), (6, .int .i64 (l0.length : Int)), (7, .int .i64 i1956), (8, .bool true), (9, .int .i64 i1956), (11, .agg #[.string x2007.f0, .int .i64 x2007.f1, .int .i64 x2007.f2, .int .i64 x2007.f3]), (12, .agg #[.string x2007.f0, .int .i64 x2007.f1, .int .i64 x2007.f2, .int .i64 x2007.f3]), (13, .bool true), (14, .bool false), (15, .bool false), (16, (.slice (some ad2008) l0.length n2009)), (17, .int .i64 i1956), (18, v2016), (19, .agg #[.string x2007.f0, .int .i64 x2007.f1, .int .i64 x2007.f2, .int .i64 x2007.f3]), (20, (.func (.func 35) #[.agg #[.string x2007.f0, .int .i64 x2007.f1, .int .i64 x2007.f2, .int .i64 x2007.f3]] #[])), (21, .bool t2017), (22, .bool t2017)], [.row v2016 4 (((l0.take i1956.toNat).drop 0).map enc25), .row (.slice (some ad2008) l0.length n2009) 4 (l0.map enc25)], [(g2010, 26, [.string x2007.f0, .int .i64 x2007.f1, .int .i64 x2007.f2, .int .i64 x2007.f3])], []⟩) (fun (v2016 : Value) => True) ?_ ?_
          · refine VC.draw ⟨0, [], [.row (.slice (some ad2008) l0.length n2009) 4 (l0.map enc25)], [(g2010, 26, [.string x2007.f0, .int .i64 x2007.f1, .int .i64 x2007.f2, .int .i64 x2007.f3])], []⟩ (by kernel_rfl) rfl (by kernel_rfl) (n := 11) (listed := LB 11 0) ?_
            refine VA.va (i := 0) (listed' := LB 11 1) rfl (op_load 0 4 rfl rfl TI26 rfl (fun h => absurd h (by decide)) (ltn rfl)) rfl (by kernel_rfl) (by kernel_rfl) (by kernel_rfl) (by kernel_rfl) ⟨⟨⟨0, rfl⟩, trivial⟩, ⟨⟨0, rfl⟩, trivial⟩, trivial⟩ (fun _ _ _ h => h) ?_
            refine VA.oneC (i := 1) (listed' := LB 11 3) (by kernel_rfl) rfl (o_call0 FO33 (waits_may.ok k x2007.f0 x2007.f1 x2007.f2 x2007.f3 true hA2012) rfl rfl (ltn rfl) (All_of .nil)) rfl (by kernel_rfl) ?_
            rintro _ _ _ ⟨rfl, rfl, rfl⟩
            refine ⟨⟨⟨⟨0, rfl⟩, trivial⟩, ⟨⟨0, rfl⟩, trivial⟩, trivial⟩, ?_⟩
            refine VA.va (i := 2) (listed' := LB 11 7) rfl (op_not rfl rfl (ltn rfl)) rfl (by kernel_rfl) (by kernel_rfl) (by kernel_rfl) (by kernel_rfl) ⟨⟨⟨0, rfl⟩, trivial⟩, ⟨⟨0, rfl⟩, trivial⟩, trivial⟩ (fun _ _ _ h => h) ?_
            refine VA.va (i := 3) (listed' := LB 11 15) rfl (op_move rfl (ltn rfl)) rfl (by kernel_rfl) (by kernel_rfl) (by kernel_rfl) (by kernel_rfl) ⟨⟨⟨0, rfl⟩, trivial⟩, ⟨⟨0, rfl⟩, trivial⟩, trivial⟩ (fun _ _ _ h => h) ?_
            refine VA.va (i := 4) (listed' := LB 11 31) rfl (op_move rfl (ltn rfl)) rfl (by kernel_rfl) (by kernel_rfl) (by kernel_rfl) (by kernel_rfl) ⟨⟨⟨0, rfl⟩, trivial⟩, ⟨⟨0, rfl⟩, trivial⟩, trivial⟩ (fun _ _ _ h => h) ?_
            refine VA.va (i := 5) (listed' := LB 11 63) rfl (op_move rfl (ltn rfl)) rfl (by kernel_rfl) (by kernel_rfl) (by kernel_rfl) (by kernel_rfl) ⟨⟨⟨0, rfl⟩, trivial⟩, ⟨⟨0, rfl⟩, trivial⟩, trivial⟩ (fun _ _ _ h => h) ?_
            refine VA.cut (i := 6) (listed' := LB 11 127) rfl (m := l0.length) 0 0 i1956.toNat lenm cutm Try.underlying22 TI26 rfl rfl ⟨rfl, ⟨_, _, rfl, c2006, rfl⟩, by omega, by omega⟩ (ltn rfl) rfl (by kernel_rfl) (by kernel_rfl) (by kernel_rfl) (by kernel_rfl) ⟨⟨⟨0, rfl⟩, trivial⟩, ⟨⟨0, rfl⟩, trivial⟩, trivial⟩ (fun _ _ _ _ h => h) ?_
            intro v2016
            refine VA.va (i := 7) (listed' := LB 11 255) rfl (op_load 0 4 rfl rfl TI26 rfl (fun h => absurd h (by decide)) (ltn rfl)) rfl (by kernel_rfl) (by kernel_rfl) (by kernel_rfl) (by kernel_rfl) ⟨⟨⟨1, rfl⟩, trivial⟩, ⟨⟨0, rfl⟩, trivial⟩, trivial⟩ (fun _ _ _ h => h) ?_
            refine VA.va (i := 8) (listed' := LB 11 511) rfl (op_makeFuncB (vals := [.agg #[.string x2007.f0, .int .i64 x2007.f1, .int .i64 x2007.f2, .int .i64 x2007.f3]]) rfl (ltn rfl)) rfl (by kernel_rfl) (by kernel_rfl) (by kernel_rfl) (by kernel_rfl) ⟨⟨⟨1, rfl⟩, trivial⟩, ⟨⟨0, rfl⟩, trivial⟩, trivial⟩ (fun _ _ _ h => h) ?_
            refine VA.oneC (i := 9) (listed' := LB 11 1023) (by kernel_rfl) rfl (o_call0 FO34 (slices_ContainsFunc_api_Line_api_Line.ok k ((l0.take i1956.toNat).drop 0) x2007.f0 x2007.f1 x2007.f2 x2007.f3 v2016 t2017 hA2018) rfl rfl (ltn rfl) (All_of (.cons (List.mem_of_getElem? (i := 0) rfl) .nil))) rfl (by kernel_rfl) ?_
            rintro _ _ _ ⟨rfl, rfl, rfl⟩
            refine ⟨⟨⟨⟨1, rfl⟩, trivial⟩, ⟨⟨0, rfl⟩, trivial⟩, trivial⟩, ?_⟩
            refine VA.va (i := 10) (listed' := LB 11 2047) rfl (op_pick rfl rfl (ltn rfl)) rfl (by kernel_rfl) (by kernel_rfl) (by kernel_rfl) (by kernel_rfl) ⟨⟨⟨1, rfl⟩, trivial⟩, ⟨⟨0, rfl⟩, trivial⟩, trivial⟩ (fun _ _ _ h => h) ?_
            refine VA.done (by kernel_rfl) ?_
            exact VN.meet1 v2016 [0] [] trivial ⟨rfl, ⟨rfl, rfl, rfl, rfl, rfl, rfl, rfl, rfl, rfl, rfl, rfl, rfl, rfl, rfl, rfl, rfl, rfl, rfl, rfl, rfl, rfl, trivial⟩, ⟨⟨0, rfl⟩, ⟨1, rfl⟩, trivial⟩, rfl, by decide, rfl, by decide⟩
          intro v2016 _
          by_cases c2019 : t2017 = true
          · rw [if_pos c2019] at h
            obtain rfl := c2019
            refine VC.cond_t rfl ?_
            refine VC.seq ?_
            refine VC.region ?_
            refine VL.va (op_assign rfl (ltn rfl)) rfl ?_
            refine VL.done ?_
            refine VN.then ?_
            refine VC.ret ?_
            refine VR.block ?_
            refine VR.then ?_
            refine VR.then ?_
            refine VR.block ?_
            refine VR.then ?_
            obtain rfl := Option.some.inj h
            exact VR.fn (rs := [.tmp 2]) [] [] [] rfl (.tmp rfl .nil) ⟨rfl, rfl, rfl⟩ trivial rfl (by decide)
          · rw [if_neg c2019] at h
            obtain rfl := Bool.eq_false_iff.2 c2019
            refine VC.cond_f rfl ?_
            refine VC.skip ?_
            refine VN.block ?_
            refine VN.then ?_
            refine VC.region ?_
            refine VL.va (op_ari64 rfl rfl rfl (ltn rfl)) rfl ?_
            refine VL.va (op_move rfl (ltn rfl)) rfl ?_
            refine VL.done ?_
            refine VN.again [] [] (ihl1 (wrap64 (i1956 + 1)) h) ⟨rfl, ⟨rfl, rfl, rfl, rfl, rfl, trivial⟩, ⟨⟨1, rfl⟩, trivial⟩, rfl, by decide, rfl, by decide⟩
        · rw [if_neg c2014] at h; cases h
      · rw [if_neg c2013] at h
        obtain rfl := Bool.eq_false_iff.2 c2013
        refine VC.join0 (⟨27, [(0, (.slice (some ad2008) l0.length n2009)), (2, .bool false), (3, .int .i64 i1956), (4, .pointer (some ⟨g2010, 0, none⟩)), (5, (.slice (some ad2008) l0.length n2009)), (6, .int .i64 (l0.length : Int)), (7, .int .i64 i1956), (8, .bool true), (9, .int .i64 i1956), (11, .agg #[.string x2007.f0, .int .i64 x2007.f1, .int .i64 x2007.f2, .int .i64 x2007.f3]), (12, .agg #[.string x2007.f0, .int .i64 x2007.f1, .int .i64 x2007.f2, .int .i64 x2007.f3]), (13, .bool false), (14, .bool true), (15, .bool true), (16, undef), (17, undef), (18, undef), (19, undef), (20, undef), (21, undef), (22, .bool true)], [.row (.slice (some ad2008) l0.length n2009) 4 (l0.map enc25)], [(g2010, 26, [.string x2007.f0, .int .i64 x2007.f1, .int .i64 x2007.f2, .int .i64 x2007.f3])], []⟩) (True) ?_ ?_
        · refine VC.draw ⟨0, [], [], [(g2010, 26, [.string x2007.f0, .int .i64 x2007.f1, .int .i64 x2007.f2, .int .i64 x2007.f3])], []⟩ (by kernel_rfl) rfl (by kernel_rfl) (n := 11) (listed := LB 11 0) ?_
          refine VA.va (i := 0) (listed' := LB 11 1) rfl (op_load 0 4 rfl rfl TI26 rfl (fun h => absurd h (by decide)) (ltn rfl)) rfl (by kernel_rfl) (by kernel_rfl) (by kernel_rfl) (by kernel_rfl) ⟨trivial, ⟨⟨0, rfl⟩, trivial⟩, trivial⟩ (fun _ _ _ h => h) ?_
          refine VA.oneC (i := 1) (listed' := LB 11 3) (by kernel_rfl) rfl (o_call0 FO33 (waits_may.ok k x2007.f0 x2007.f1 x2007.f2 x2007.f3 false hA2012) rfl rfl (ltn rfl) (All_of .nil)) rfl (by kernel_rfl) ?_
          rintro _ _ _ ⟨rfl, rfl, rfl⟩
          refine ⟨⟨trivial, ⟨⟨0, rfl⟩, trivial⟩, trivial⟩, ?_⟩
          refine VA.va (i := 2) (listed' := LB 11 7) rfl (op_not rfl rfl (ltn rfl)) rfl (by kernel_rfl) (by kernel_rfl) (by kernel_rfl) (by kernel_rfl) ⟨trivial, ⟨⟨0, rfl⟩, trivial⟩, trivial⟩ (fun _ _ _ h => h) ?_
          refine VA.va (i := 3) (listed' := LB 11 15) rfl (op_move rfl (ltn rfl)) rfl (by kernel_rfl) (by kernel_rfl) (by kernel_rfl) (by kernel_rfl) ⟨trivial, ⟨⟨0, rfl⟩, trivial⟩, trivial⟩ (fun _ _ _ h => h) ?_
          refine VA.un (i := 4) (listed' := LB 11 31) rfl rfl rfl (ltn rfl) (by kernel_rfl) (by kernel_rfl) (by kernel_rfl) (by kernel_rfl) ⟨trivial, ⟨⟨0, rfl⟩, trivial⟩, trivial⟩ (fun _ _ _ h => h) ?_
          refine VA.un (i := 5) (listed' := LB 11 63) rfl rfl rfl (ltn rfl) (by kernel_rfl) (by kernel_rfl) (by kernel_rfl) (by kernel_rfl) ⟨trivial, ⟨⟨0, rfl⟩, trivial⟩, trivial⟩ (fun _ _ _ h => h) ?_
          refine VA.un (i := 6) (listed' := LB 11 127) rfl rfl rfl (ltn rfl) (by kernel_rfl) (by kernel_rfl) (by kernel_rfl) (by kernel_rfl) ⟨trivial, ⟨⟨0, rfl⟩, trivial⟩, trivial⟩ (fun _ _ _ h => h) ?_
          refine VA.un (i := 7) (listed' := LB 11 255) rfl rfl rfl (ltn rfl) (by kernel_rfl) (by kernel_rfl) (by kernel_rfl) (by kernel_rfl) ⟨trivial, ⟨⟨0, rfl⟩, trivial⟩, trivial⟩ (fun _ _ _ h => h) ?_
          refine VA.un (i := 8) (listed' := LB 11 511) rfl rfl rfl (ltn rfl) (by kernel_rfl) (by kernel_rfl) (by kernel_rfl) (by kernel_rfl) ⟨trivial, ⟨⟨0, rfl⟩, trivial⟩, trivial⟩ (fun _ _ _ h => h) ?_
          refine VA.un (i := 9) (listed' := LB 11 1023) rfl rfl rfl (ltn rfl) (by kernel_rfl) (by kernel_rfl) (by kernel_rfl) (by kernel_rfl) ⟨trivial, ⟨⟨0, rfl⟩, trivial⟩, trivial⟩ (fun _ _ _ h => h) ?_
          refine VA.va (i := 10) (listed' := LB 11 2047) rfl (op_pick rfl rfl (ltn rfl)) rfl (by kernel_rfl) (by kernel_rfl) (by kernel_rfl) (by kernel_rfl) ⟨trivial, ⟨⟨0, rfl⟩, trivial⟩, trivial⟩ (fun _ _ _ h => h) ?_
          refine VA.done (by kernel_rfl) ?_
          exact VN.meet0  [0] [] trivial ⟨rfl, ⟨rfl, rfl, rfl, rfl, rfl, rfl, rfl, rfl, rfl, rfl, rfl, rfl, rfl, rfl, rfl, rfl, rfl, rfl, rfl, rfl, rfl, trivial⟩, ⟨⟨0, rfl⟩, trivial⟩, rfl, by decide, rfl, by decide⟩
        intro _
        refine VC.cond_t rfl ?_
        refine VC.seq ?_
        refine VC.region ?_
        refine VL.va (op_assign rfl (ltn rfl)) rfl ?_
        refine VL.done ?_
        refine VN.then ?_
        refine VC.ret ?_
        refine VR.block ?_
        refine VR.then ?_
        refine VR.then ?_
        refine VR.block ?_
        refine VR.then ?_
        obtain rfl := Option.some.inj h
        exact VR.fn (rs := [.tmp 2]) [] [] [] rfl (.tmp rfl .nil) ⟨rfl, rfl, rfl⟩ trivial rfl (by decide)
    · rw [if_neg c2006] at h; cases h
  · rw [if_neg c1991] at h
    obtain rfl : b1988 = false := hb1988.symm.trans (decide_eq_false c1991)
    refine VC.cond_f rfl ?_
    refine VC.exit ?_
    refine VX.then ?_
    refine VX.then ?_
    refine VX.hit ?_
    refine VN.then ?_
    refine VC.seq ?_
    refine VC.region ?_
    refine VL.va (op_move rfl (ltn rfl)) rfl ?_
    refine VL.va (op_len (m := l0.length) 0 lenm Try.underlying22 rfl rfl (ltn rfl)) rfl ?_
    refine VL.letter (decide ((l0.length : Int) ≤ 32)) fun b2020 hb2020 => ?_
    refine VL.va (op_cmp rfl rfl (congrArg some hb2020) (ltn rfl)) rfl ?_
    refine VL.va (op_assign rfl (ltn rfl)) rfl ?_
    refine VL.done ?_
    refine VN.then ?_
    refine VC.ret ?_
    obtain rfl := Option.some.inj h
    subst hb2020
    exact VR.fn (rs := [.tmp 2]) [] [] [] rfl (.tmp rfl .nil) ⟨rfl, rfl, rfl⟩ trivial rfl (by decide)
set_option maxHeartbeats 4000000 in
set_option maxRecDepth 100000 in
theorem waits_compare.ok (k : Nat) (a0_0 : ByteArray) (a0_1 : Int) (a0_2 : Int) (a0_3 : Int) (a1_0 : ByteArray) (a1_1 : Int) (a1_2 : Int) (a1_3 : Int)  (r1 : Int) (h : waits_compare.f k a0_0 a0_1 a0_2 a0_3 a1_0 a1_1 a1_2 a1_3 = some r1) :
    VCalls Try.prog 32 [.agg #[.string a0_0, .int .i64 a0_1, .int .i64 a0_2, .int .i64 a0_3], .agg #[.string a1_0, .int .i64 a1_1, .int .i64 a1_2, .int .i64 a1_3]] [] (fun v G own => v = .int .i64 r1 ∧ G = [] ∧ own = []) := by
  refine VCalls.intro Try.func32 rfl (len rfl) fun E hC hW hD hU => ?_
  unfold waits_compare.f at h
  refine VC.seq ?_
  refine VC.region ?_
  refine VL.sG (o_box rfl (.agg (.of rfl)) (ltn rfl)) rfl ?_
  intro g2035
  refine VL.sG (o_box rfl (.agg (.of rfl)) (ltn rfl)) rfl ?_
  intro g2036
  refine VL.va (op_assign rfl (ltn rfl)) rfl ?_
  refine VL.done ?_
  refine VN.then ?_
  refine VC.seq ?_
  refine VC.region ?_
  refine VL.va (op_assign rfl (ltn rfl)) rfl ?_
  refine VL.va (op_assign rfl (ltn rfl)) rfl ?_
  refine VL.done ?_
  refine VN.then ?_
  refine VC.seq ?_
  refine VC.seq ?_
  refine VC.region ?_
  refine VL.va (op_fieldAddr FI26_1 rfl (add_at _ _ _) (ltn rfl)) rfl ?_
  refine VL.va (op_load 1 3 rfl rfl TI24 rfl (fun h => absurd h (by decide)) (ltn rfl)) rfl ?_
  refine VL.va (op_fieldAddr FI26_1 rfl (add_at _ _ _) (ltn rfl)) rfl ?_
  refine VL.va (op_load 0 3 rfl rfl TI24 rfl (fun h => absurd h (by decide)) (ltn rfl)) rfl ?_
  replace h := Option.bind_eq_some_iff.1 h
  obtain ⟨t2040, hA2041, h⟩ := h
  refine VL.sC (o_call0 FO23 (queue_Less.ok k a0_1 a0_2 a0_3 a1_1 a1_2 a1_3 t2040 hA2041) rfl rfl (ltn rfl) (All_of .nil)) rfl ?_
  rintro _ _ _ ⟨rfl, rfl, rfl⟩
  refine VL.done ?_
  refine VN.then ?_
  by_cases c2042 : t2040 = true
  · rw [if_pos c2042] at h
    obtain rfl := c2042
    refine VC.cond_t rfl ?_
    refine VC.region ?_
    refine VL.va (op_assign rfl (ltn rfl)) rfl ?_
    refine VL.done ?_
    refine VN.then ?_
    refine VC.seq ?_
    refine VC.seq ?_
    refine VC.region ?_
    refine VL.va (op_fieldAddr FI26_1 rfl (add_at _ _ _) (ltn rfl)) rfl ?_
    refine VL.va (op_load 0 3 rfl rfl TI24 rfl (fun h => absurd h (by decide)) (ltn rfl)) rfl ?_
    refine VL.va (op_fieldAddr FI26_1 rfl (add_at _ _ _) (ltn rfl)) rfl ?_
    refine VL.va (op_load 1 3 rfl rfl TI24 rfl (fun h => absurd h (by decide)) (ltn rfl)) rfl ?_
    replace h := Option.bind_eq_some_iff.1 h
    obtain ⟨t2046, hA2047, h⟩ := h
    refine VL.sC (o_call0 FO23 (queue_Less.ok k a1_1 a1_2 a1_3 a0_1 a0_2 a0_3 t2046 hA2047) rfl rfl (ltn rfl) (All_of .nil)) rfl ?_
    rintro _ _ _ ⟨rfl, rfl, rfl⟩
    refine VL.done ?_
    refine VN.then ?_
    by_cases c2048 : t2046 = true
    · rw [if_pos c2048] at h
      obtain rfl := c2048
      refine VC.cond_t rfl ?_
      refine VC.region ?_
      refine VL.va (op_assign rfl (ltn rfl)) rfl ?_
      refine VL.done ?_
      refine VN.then ?_
      refine VC.seq ?_
      refine VC.region ?_
      refine VL.va (op_fieldAddr FI26_0 rfl (add_at _ _ _) (ltn rfl)) rfl ?_
      refine VL.va (op_load 1 1 rfl rfl TI9 rfl (by decide) (ltn rfl)) rfl ?_
      refine VL.va (op_fieldAddr FI26_0 rfl (add_at _ _ _) (ltn rfl)) rfl ?_
      refine VL.va (op_load 0 1 rfl rfl TI9 rfl (by decide) (ltn rfl)) rfl ?_
      replace h := Option.bind_eq_some_iff.1 h
      obtain ⟨t2049, hA2050, h⟩ := h
      refine VL.sC (o_call0 FO47 (strings_Compare.ok a0_0 a1_0 t2049 hA2050) rfl rfl (ltn rfl) (All_of .nil)) rfl ?_
      rintro _ _ _ ⟨rfl, rfl, rfl⟩
      refine VL.va (op_move rfl (ltn rfl)) rfl ?_
      refine VL.va (op_move rfl (ltn rfl)) rfl ?_
      refine VL.va (op_ari64 rfl rfl rfl (ltn rfl)) rfl ?_
      refine VL.sG (o_buildSlice (vals := [(0, .int .i64 t2049), (1, .int .i64 (wrap64 (1 - 1)))]) (cells := #[.int .i64 t2049, .int .i64 (wrap64 (1 - 1))]) (es := List.map enc_inti64 ([t2049, wrap64 (1 - 1)] : List Int)) Try.underlying92 TI3 Z3 rfl (by decide) (by decide) (by kernel_rfl) (by kernel_rfl) rfl (flat_map enc_inti64_ok _) (ltn rfl)) rfl ?_
      intro v2052
      replace h := Option.bind_eq_some_iff.1 h
      obtain ⟨t2053, hA2054, h⟩ := h
      refine VL.sC (o_call_b0 FO46 (cmp_Or_int.ok k ([t2049, wrap64 (1 - 1)] : List Int) v2052 t2053 hA2054) rfl rfl (ltn rfl) (All_of (.cons (.inr (.inl ⟨_, List.mem_of_getElem? (i := 0) rfl, rfl⟩)) .nil)) (by rintro _ _ _ ⟨rfl, rfl, rfl⟩; rfl)) rfl ?_
      rintro _ _ _ ⟨rfl, rfl, rfl⟩
      refine VL.va (op_assign rfl (ltn rfl)) rfl ?_
      refine VL.done ?_
      refine VN.then ?_
      refine VC.ret ?_
      obtain rfl := Option.some.inj h
      exact VR.fn (rs := [.tmp 4]) [] [] [] rfl (.tmp rfl .nil) ⟨rfl, rfl, rfl⟩ trivial rfl (by decide)
    · rw [if_neg c2048] at h
      obtain rfl := Bool.eq_false_iff.2 c2048
      refine VC.cond_f rfl ?_
      refine VC.skip ?_
      refine VN.then ?_
      refine VC.seq ?_
      refine VC.region ?_
      refine VL.va (op_fieldAddr FI26_0 rfl (add_at _ _ _) (ltn rfl)) rfl ?_
      refine VL.va (op_load 1 1 rfl rfl TI9 rfl (by decide) (ltn rfl)) rfl ?_
      refine VL.va (op_fieldAddr FI26_0 rfl (add_at _ _ _) (ltn rfl)) rfl ?_
      refine VL.va (op_load 0 1 rfl rfl TI9 rfl (by decide) (ltn rfl)) rfl ?_
      replace h := Option.bind_eq_some_iff.1 h
      obtain ⟨t2055, hA2056, h⟩ := h
      refine VL.sC (o_call0 FO47 (strings_Compare.ok a0_0 a1_0 t2055 hA2056) rfl rfl (ltn rfl) (All_of .nil)) rfl ?_
      rintro _ _ _ ⟨rfl, rfl, rfl⟩
      refine VL.va (op_move rfl (ltn rfl)) rfl ?_
      refine VL.va (op_move rfl (ltn rfl)) rfl ?_
      refine VL.va (op_ari64 rfl rfl rfl (ltn rfl)) rfl ?_
      refine VL.sG (o_buildSlice (vals := [(0, .int .i64 t2055), (1, .int .i64 (wrap64 (0 - 1)))]) (cells := #[.int .i64 t2055, .int .i64 (wrap64 (0 - 1))]) (es := List.map enc_inti64 ([t2055, wrap64 (0 - 1)] : List Int)) Try.underlying92 TI3 Z3 rfl (by decide) (by decide) (by kernel_rfl) (by kernel_rfl) rfl (flat_map enc_inti64_ok _) (ltn rfl)) rfl ?_
      intro v2058
      replace h := Option.bind_eq_some_iff.1 h
      obtain ⟨t2059, hA2060, h⟩ := h
      refine VL.sC (o_call_b0 FO46 (cmp_Or_int.ok k ([t2055, wrap64 (0 - 1)] : List Int) v2058 t2059 hA2060) rfl rfl (ltn rfl) (All_of (.cons (.inr (.inl ⟨_, List.mem_of_getElem? (i := 0) rfl, rfl⟩)) .nil)) (by rintro _ _ _ ⟨rfl, rfl, rfl⟩; rfl)) rfl ?_
      rintro _ _ _ ⟨rfl, rfl, rfl⟩
      refine VL.va (op_assign rfl (ltn rfl)) rfl ?_
      refine VL.done ?_
      refine VN.then ?_
      refine VC.ret ?_
      obtain rfl := Option.some.inj h
      exact VR.fn (rs := [.tmp 4]) [] [] [] rfl (.tmp rfl .nil) ⟨rfl, rfl, rfl⟩ trivial rfl (by decide)
  · rw [if_neg c2042] at h
    obtain rfl := Bool.eq_false_iff.2 c2042
    refine VC.cond_f rfl ?_
    refine VC.skip ?_
    refine VN.then ?_
    refine VC.seq ?_
    refine VC.seq ?_
    refine VC.region ?_
    refine VL.va (op_fieldAddr FI26_1 rfl (add_at _ _ _) (ltn rfl)) rfl ?_
    refine VL.va (op_load 0 3 rfl rfl TI24 rfl (fun h => absurd h (by decide)) (ltn rfl)) rfl ?_
    refine VL.va (op_fieldAddr FI26_1 rfl (add_at _ _ _) (ltn rfl)) rfl ?_
    refine VL.va (op_load 1 3 rfl rfl TI24 rfl (fun h => absurd h (by decide)) (ltn rfl)) rfl ?_
    replace h := Option.bind_eq_some_iff.1 h
    obtain ⟨t2064, hA2065, h⟩ := h
    refine VL.sC (o_call0 FO23 (queue_Less.ok k a1_1 a1_2 a1_3 a0_1 a0_2 a0_3 t2064 hA2065) rfl rfl (ltn rfl) (All_of .nil)) rfl ?_
    rintro _ _ _ ⟨rfl, rfl, rfl⟩
    refine VL.done ?_
    refine VN.then ?_
    by_cases c2066 : t2064 = true
    · rw [if_pos c2066] at h
      obtain rfl := c2066
      refine VC.cond_t rfl ?_
      refine VC.region ?_
      refine VL.va (op_assign rfl (ltn rfl)) rfl ?_
      refine VL.done ?_
      refine VN.then ?_
      refine VC.seq ?_
      refine VC.region ?_
      refine VL.va (op_fieldAddr FI26_0 rfl (add_at _ _ _) (ltn rfl)) rfl ?_
      refine VL.va (op_load 1 1 rfl rfl TI9 rfl (by decide) (ltn rfl)) rfl ?_
      refine VL.va (op_fieldAddr FI26_0 rfl (add_at _ _ _) (ltn rfl)) rfl ?_
      refine VL.va (op_load 0 1 rfl rfl TI9 rfl (by decide) (ltn rfl)) rfl ?_
      replace h := Option.bind_eq_some_iff.1 h
      obtain ⟨t2067, hA2068, h⟩ := h
      refine VL.sC (o_call0 FO47 (strings_Compare.ok a0_0 a1_0 t2067 hA2068) rfl rfl (ltn rfl) (All_of .nil)) rfl ?_
      rintro _ _ _ ⟨rfl, rfl, rfl⟩
      refine VL.va (op_move rfl (ltn rfl)) rfl ?_
      refine VL.va (op_move rfl (ltn rfl)) rfl ?_
      refine VL.va (op_ari64 rfl rfl rfl (ltn rfl)) rfl ?_
      refine VL.sG (o_buildSlice (vals := [(0, .int .i64 t2067), (1, .int .i64 (wrap64 (1 - 0)))]) (cells := #[.int .i64 t2067, .int .i64 (wrap64 (1 - 0))]) (es := List.map enc_inti64 ([t2067, wrap64 (1 - 0)] : List Int)) Try.underlying92 TI3 Z3 rfl (by decide) (by decide) (by kernel_rfl) (by kernel_rfl) rfl (flat_map enc_inti64_ok _) (ltn rfl)) rfl ?_
      intro v2070
      replace h := Option.bind_eq_some_iff.1 h
      obtain ⟨t2071, hA2072, h⟩ := h
      refine VL.sC (o_call_b0 FO46 (cmp_Or_int.ok k ([t2067, wrap64 (1 - 0)] : List Int) v2070 t2071 hA2072) rfl rfl (ltn rfl) (All_of (.cons (.inr (.inl ⟨_, List.mem_of_getElem? (i := 0) rfl, rfl⟩)) .nil)) (by rintro _ _ _ ⟨rfl, rfl, rfl⟩; rfl)) rfl ?_
      rintro _ _ _ ⟨rfl, rfl, rfl⟩
      refine VL.va (op_assign rfl (ltn rfl)) rfl ?_
      refine VL.done ?_
      refine VN.then ?_
      refine VC.ret ?_
      obtain rfl := Option.some.inj h
      exact VR.fn (rs := [.tmp 4]) [] [] [] rfl (.tmp rfl .nil) ⟨rfl, rfl, rfl⟩ trivial rfl (by decide)
    · rw [if_neg c2066] at h
      obtain rfl := Bool.eq_false_iff.2 c2066
      refine VC.cond_f rfl ?_
      refine VC.skip ?_
      refine VN.then ?_
      refine VC.seq ?_
      refine VC.region ?_
      refine VL.va (op_fieldAddr FI26_0 rfl (add_at _ _ _) (ltn rfl)) rfl ?_
      refine VL.va (op_load 1 1 rfl rfl TI9 rfl (by decide) (ltn rfl)) rfl ?_
      refine VL.va (op_fieldAddr FI26_0 rfl (add_at _ _ _) (ltn rfl)) rfl ?_
      refine VL.va (op_load 0 1 rfl rfl TI9 rfl (by decide) (ltn rfl)) rfl ?_
      replace h := Option.bind_eq_some_iff.1 h
      obtain ⟨t2073, hA2074, h⟩ := h
      refine VL.sC (o_call0 FO47 (strings_Compare.ok a0_0 a1_0 t2073 hA2074) rfl rfl (ltn rfl) (All_of .nil)) rfl ?_
      rintro _ _ _ ⟨rfl, rfl, rfl⟩
      refine VL.va (op_move rfl (ltn rfl)) rfl ?_
      refine VL.va (op_move rfl (ltn rfl)) rfl ?_
      refine VL.va (op_ari64 rfl rfl rfl (ltn rfl)) rfl ?_
      refine VL.sG (o_buildSlice (vals := [(0, .int .i64 t2073), (1, .int .i64 (wrap64 (0 - 0)))]) (cells := #[.int .i64 t2073, .int .i64 (wrap64 (0 - 0))]) (es := List.map enc_inti64 ([t2073, wrap64 (0 - 0)] : List Int)) Try.underlying92 TI3 Z3 rfl (by decide) (by decide) (by kernel_rfl) (by kernel_rfl) rfl (flat_map enc_inti64_ok _) (ltn rfl)) rfl ?_
      intro v2076
      replace h := Option.bind_eq_some_iff.1 h
      obtain ⟨t2077, hA2078, h⟩ := h
      refine VL.sC (o_call_b0 FO46 (cmp_Or_int.ok k ([t2073, wrap64 (0 - 0)] : List Int) v2076 t2077 hA2078) rfl rfl (ltn rfl) (All_of (.cons (.inr (.inl ⟨_, List.mem_of_getElem? (i := 0) rfl, rfl⟩)) .nil)) (by rintro _ _ _ ⟨rfl, rfl, rfl⟩; rfl)) rfl ?_
      rintro _ _ _ ⟨rfl, rfl, rfl⟩
      refine VL.va (op_assign rfl (ltn rfl)) rfl ?_
      refine VL.done ?_
      refine VN.then ?_
      refine VC.ret ?_
      obtain rfl := Option.some.inj h
      exact VR.fn (rs := [.tmp 4]) [] [] [] rfl (.tmp rfl .nil) ⟨rfl, rfl, rfl⟩ trivial rfl (by decide)
set_option maxHeartbeats 4000000 in
set_option maxRecDepth 100000 in
theorem slices_IsSortedFunc_api_Line_api_Line.ok (k : Nat) (l0 : List S25) (v0 : Value) (r1 : Bool) (h : slices_IsSortedFunc_api_Line_api_Line.f k l0 = some r1) :
    VCalls Try.prog 37 [v0, (.func (.func 32) #[] #[])] [.row v0 4 (l0.map enc25)] (fun v G own => v = .bool r1 ∧ G = [] ∧ own = []) := by
  refine VCalls.intro Try.func37 rfl (len rfl) fun E hC hW hD hU => ?_
  unfold slices_IsSortedFunc_api_Line_api_Line.f at h
  refine VC.seq ?_
  refine VC.region ?_
  refine VL.va (op_assign rfl (ltn rfl)) rfl ?_
  refine VL.done ?_
  refine VN.then ?_
  refine VC.seq ?_
  refine VC.seq ?_
  refine VC.region ?_
  refine VL.va (op_move rfl (ltn rfl)) rfl ?_
  refine VL.va (op_len (m := l0.length) 0 lenm Try.underlying22 rfl rfl (ltn rfl)) rfl ?_
  refine VL.va (op_ari64 rfl rfl rfl (ltn rfl)) rfl ?_
  refine VL.va (op_assign rfl (ltn rfl)) rfl ?_
  refine VL.done ?_
  refine VN.then ?_
  refine VC.block ?_
  refine VC.loop1 (fun (i2152 : Int) => ⟨25, [(0, v0), (1, (.func (.func 32) #[] #[])), (4, .bool false), (5, .int .i64 i2152)], [.row v0 4 (l0.map enc25)], [], []⟩) (fun (ml1 : Nat) (i2152 : Int) => slices_IsSortedFunc_api_Line_api_Line.l1 k l0 ml1 i2152 = some r1) k (wrap64 ((l0.length : Int) - 1)) [] [] h ⟨rfl, ⟨rfl, rfl, rfl, rfl, trivial⟩, ⟨⟨0, rfl⟩, trivial⟩, rfl, by decide, rfl, by decide⟩ (by intros; simp [slices_IsSortedFunc_api_Line_api_Line.l1]) ?_
  clear h
  intro ml1 ihl1 i2152 h
  simp only [slices_IsSortedFunc_api_Line_api_Line.l1] at h
  refine VC.seq ?_
  refine VC.seq ?_
  refine VC.region ?_
  refine VL.va (op_move rfl (ltn rfl)) rfl ?_
  refine VL.letter (decide (i2152 > 0)) fun b2175 hb2175 => ?_
  refine VL.va (op_cmp rfl rfl (congrArg some hb2175) (ltn rfl)) rfl ?_
  refine VL.done ?_
  refine VN.then ?_
  by_cases c2176 : i2152 > 0
  · rw [if_pos c2176] at h
    obtain rfl : b2175 = true := hb2175.symm.trans (decide_eq_true c2176)
    refine VC.cond_t rfl ?_
    refine VC.skip ?_
    refine VN.then ?_
    refine VC.seq ?_
    refine VC.block ?_
    by_cases c2185 : 0 ≤ i2152
    · rw [if_pos c2185] at h
      replace h := Option.bind_eq_some_iff.1 h
      obtain ⟨x2186, hx2186, h⟩ := h
      by_cases c2187 : 0 ≤ wrap64 (i2152 - 1)
      · rw [if_pos c2187] at h
        replace h := Option.bind_eq_some_iff.1 h
        obtain ⟨x2188, hx2188, h⟩ := h
        replace h := Option.bind_eq_some_iff.1 h
        obtain ⟨t2189, hA2190, h⟩ := h
        refine VC.letter (decide (t2189 < 0)) fun b2191 hb2191 => ?_
        refine VC.open (m := l0.length) 0 lenm rfl (pos_get hx2186) ?_
        rintro ad2031 n2032 rfl
        refine VC.join0 (⟨25, [(0, (.slice (some ad2031) l0.length n2032)), (1, (.func (.func 32) #[] #[])), (4, .bool false), (5, .int .i64 i2152), (9, .int .i64 i2152), (10, .bool true), (13, (.func (.func 32) #[] #[])), (14, (.slice (some ad2031) l0.length n2032)), (15, .int .i64 i2152), (17, .agg #[.string x2186.f0, .int .i64 x2186.f1, .int .i64 x2186.f2, .int .i64 x2186.f3]), (18, (.slice (some ad2031) l0.length n2032)), (19, .int .i64 i2152), (20, .int .i64 (wrap64 (i2152 - 1))), (22, .agg #[.string x2188.f0, .int .i64 x2188.f1, .int .i64 x2188.f2, .int .i64 x2188.f3]), (23, .int .i64 t2189), (24, .bool b2191)], [.row (.slice (some ad2031) l0.length n2032) 4 (l0.map enc25)], [], []⟩) (True) ?_ ?_
        · refine VC.draw ⟨0, [], [.row (.slice (some ad2031) l0.length n2032) 4 (l0.map enc25)], [], []⟩ (by kernel_rfl) rfl (by kernel_rfl) (n := 12) (listed := LB 12 0) ?_
          refine VA.va (i := 0) (listed' := LB 12 1) rfl (op_move rfl (ltn rfl)) rfl (by kernel_rfl) (by kernel_rfl) (by kernel_rfl) (by kernel_rfl) ⟨⟨⟨0, rfl⟩, trivial⟩, trivial, trivial⟩ (fun _ _ _ h => h) ?_
          refine VA.va (i := 1) (listed' := LB 12 3) rfl (op_move rfl (ltn rfl)) rfl (by kernel_rfl) (by kernel_rfl) (by kernel_rfl) (by kernel_rfl) ⟨⟨⟨0, rfl⟩, trivial⟩, trivial, trivial⟩ (fun _ _ _ h => h) ?_
          refine VA.va (i := 2) (listed' := LB 12 7) rfl (op_move rfl (ltn rfl)) rfl (by kernel_rfl) (by kernel_rfl) (by kernel_rfl) (by kernel_rfl) ⟨⟨⟨0, rfl⟩, trivial⟩, trivial, trivial⟩ (fun _ _ _ h => h) ?_
          refine VA.va (i := 3) (listed' := LB 12 15) rfl (op_indexAddr Try.underlying22 TI26 rfl rfl c2185 (lt_get c2185 hx2186) rfl (ltn rfl)) rfl (by kernel_rfl) (by kernel_rfl) (by kernel_rfl) (by kernel_rfl) ⟨⟨⟨0, rfl⟩, trivial⟩, trivial, trivial⟩ (fun _ _ _ h => h) ?_
          refine VA.va (i := 4) (listed' := LB 12 31) rfl (op_load_row (sz := 4) (o := 0) 0 i2152.toNat 4 rfl rfl (get_map hx2186) TI26 rfl (fun h => absurd h (by decide)) (ltn rfl)) rfl (by kernel_rfl) (by kernel_rfl) (by kernel_rfl) (by kernel_rfl) ⟨⟨⟨0, rfl⟩, trivial⟩, trivial, trivial⟩ (fun _ _ _ h => h) ?_
          refine VA.va (i := 5) (listed' := LB 12 63) rfl (op_move rfl (ltn rfl)) rfl (by kernel_rfl) (by kernel_rfl) (by kernel_rfl) (by kernel_rfl) ⟨⟨⟨0, rfl⟩, trivial⟩, trivial, trivial⟩ (fun _ _ _ h => h) ?_
          refine VA.va (i := 6) (listed' := LB 12 127) rfl (op_move rfl (ltn rfl)) rfl (by kernel_rfl) (by kernel_rfl) (by kernel_rfl) (by kernel_rfl) ⟨⟨⟨0, rfl⟩, trivial⟩, trivial, trivial⟩ (fun _ _ _ h => h) ?_
          refine VA.va (i := 7) (listed' := LB 12 255) rfl (op_ari64 rfl rfl rfl (ltn rfl)) rfl (by kernel_rfl) (by kernel_rfl) (by kernel_rfl) (by kernel_rfl) ⟨⟨⟨0, rfl⟩, trivial⟩, trivial, trivial⟩ (fun _ _ _ h => h) ?_
          refine VA.va (i := 8) (listed' := LB 12 511) rfl (op_indexAddr Try.underlying22 TI26 rfl rfl c2187 (lt_get c2187 hx2188) rfl (ltn rfl)) rfl (by kernel_rfl) (by kernel_rfl) (by kernel_rfl) (by kernel_rfl) ⟨⟨⟨0, rfl⟩, trivial⟩, trivial, trivial⟩ (fun _ _ _ h => h) ?_
          refine VA.va (i := 9) (listed' := LB 12 1023) rfl (op_load_row (sz := 4) (o := 0) 0 (wrap64 (i2152 - 1)).toNat 4 rfl rfl (get_map hx2188) TI26 rfl (fun h => absurd h (by decide)) (ltn rfl)) rfl (by kernel_rfl) (by kernel_rfl) (by kernel_rfl) (by kernel_rfl) ⟨⟨⟨0, rfl⟩, trivial⟩, trivial, trivial⟩ (fun _ _ _ h => h) ?_
          refine VA.oneC (i := 10) (listed' := LB 12 2047) (by kernel_rfl) rfl (o_call0 FO32 (waits_compare.ok k x2186.f0 x2186.f1 x2186.f2 x2186.f3 x2188.f0 x2188.f1 x2188.f2 x2188.f3 t2189 hA2190) rfl rfl (ltn rfl) (All_of .nil)) rfl (by kernel_rfl) ?_
          rintro _ _ _ ⟨rfl, rfl, rfl⟩
          refine ⟨⟨⟨⟨0, rfl⟩, trivial⟩, trivial, trivial⟩, ?_⟩
          refine VA.va (i := 11) (listed' := LB 12 4095) rfl (op_cmp rfl rfl (congrArg some hb2191) (ltn rfl)) rfl (by kernel_rfl) (by kernel_rfl) (by kernel_rfl) (by kernel_rfl) ⟨⟨⟨0, rfl⟩, trivial⟩, trivial, trivial⟩ (fun _ _ _ h => h) ?_
          refine VA.done (by kernel_rfl) ?_
          exact VN.meet0  [] [] trivial ⟨rfl, ⟨rfl, rfl, rfl, rfl, rfl, rfl, rfl, rfl, rfl, rfl, rfl, rfl, rfl, rfl, rfl, rfl, trivial⟩, ⟨⟨0, rfl⟩, trivial⟩, rfl, by decide, rfl, by decide⟩
        intro _
        by_cases c2192 : t2189 < 0
        · rw [if_pos c2192] at h
          obtain rfl : b2191 = true := hb2191.symm.trans (decide_eq_true c2192)
          refine VC.cond_t rfl ?_
          refine VC.seq ?_
          refine VC.region ?_
          refine VL.va (op_assign rfl (ltn rfl)) rfl ?_
          refine VL.done ?_
          refine VN.then ?_
          refine VC.ret ?_
          refine VR.block ?_
          refine VR.then ?_
          refine VR.then ?_
          refine VR.block ?_
          refine VR.then ?_
          obtain rfl := Option.some.inj h
          exact VR.fn (rs := [.tmp 4]) [] [] [] rfl (.tmp rfl .nil) ⟨rfl, rfl, rfl⟩ trivial rfl (by decide)
        · rw [if_neg c2192] at h
          obtain rfl : b2191 = false := hb2191.symm.trans (decide_eq_false c2192)
          refine VC.cond_f rfl ?_
          refine VC.skip ?_
          refine VN.block ?_
          refine VN.then ?_
          refine VC.region ?_
          refine VL.va (op_move rfl (ltn rfl)) rfl ?_
          refine VL.va (op_ari64 rfl rfl rfl (ltn rfl)) rfl ?_
          refine VL.va (op_assign rfl (ltn rfl)) rfl ?_
          refine VL.done ?_
          refine VN.again [] [] (ihl1 (wrap64 (i2152 - 1)) h) ⟨rfl, ⟨rfl, rfl, rfl, rfl, trivial⟩, ⟨⟨0, rfl⟩, trivial⟩, rfl, by decide, rfl, by decide⟩
      · rw [if_neg c2187] at h; cases h
    · rw [if_neg c2185] at h; cases h
  · rw [if_neg c2176] at h
    obtain rfl : b2175 = false := hb2175.symm.trans (decide_eq_false c2176)
    refine VC.cond_f rfl ?_
    refine VC.exit ?_
    refine VX.then ?_
    refine VX.then ?_
    refine VX.hit ?_
    refine VN.then ?_
    refine VC.seq ?_
    refine VC.region ?_
    refine VL.va (op_assign rfl (ltn rfl)) rfl ?_
    refine VL.done ?_
    refine VN.then ?_
    refine VC.ret ?_
    obtain rfl := Option.some.inj h
    exact VR.fn (rs := [.tmp 4]) [] [] [] rfl (.tmp rfl .nil) ⟨rfl, rfl, rfl⟩ trivial rfl (by decide)
set_option maxHeartbeats 4000000 in
set_option maxRecDepth 100000 in
theorem waits_Right.ok (k : Nat) (l0 : List S25) (v0 : Value) (r1 : Bool) (h : waits_Right.f k l0 = some r1) :
    VCalls Try.prog 11 [v0] [.row v0 4 (l0.map enc25)] (fun v G own => v = .bool r1 ∧ G = [] ∧ own = []) := by
  refine VCalls.intro Try.func11 rfl (len rfl) fun E hC hW hD hU => ?_
  unfold waits_Right.f at h
  refine VC.seq ?_
  refine VC.region ?_
  refine VL.va (op_assign rfl (ltn rfl)) rfl ?_
  refine VL.done ?_
  refine VN.then ?_
  refine VC.seq ?_
  refine VC.region ?_
  refine VL.va (op_move rfl (ltn rfl)) rfl ?_
  replace h := Option.bind_eq_some_iff.1 h
  obtain ⟨t2195, hA2196, h⟩ := h
  refine VL.sC (o_call0 FO29 (waits_all.ok k l0 v0 t2195 hA2196) rfl rfl (ltn rfl) (All_of (.cons (List.mem_of_getElem? (i := 0) rfl) .nil))) rfl ?_
  rintro _ _ _ ⟨rfl, rfl, rfl⟩
  refine VL.va (op_move rfl (ltn rfl)) rfl ?_
  by_cases c2197 : t2195 = true
  · rw [if_pos c2197] at h
    obtain rfl := c2197
    refine VL.va (op_move rfl (ltn rfl)) rfl ?_
    replace h := Option.bind_eq_some_iff.1 h
    obtain ⟨t2198, hA2199, h⟩ := h
    refine VL.sC (o_call0 FO37 (slices_IsSortedFunc_api_Line_api_Line.ok k l0 v0 t2198 hA2199) rfl rfl (ltn rfl) (All_of (.cons (List.mem_of_getElem? (i := 0) rfl) .nil))) rfl ?_
    rintro _ _ _ ⟨rfl, rfl, rfl⟩
    refine VL.va (op_pick rfl rfl (ltn rfl)) rfl ?_
    refine VL.va (op_assign rfl (ltn rfl)) rfl ?_
    refine VL.done ?_
    refine VN.then ?_
    refine VC.ret ?_
    obtain rfl := Option.some.inj h
    exact VR.fn (rs := [.tmp 2]) [] [] [] rfl (.tmp rfl .nil) ⟨rfl, rfl, rfl⟩ trivial rfl (by decide)
  · rw [if_neg c2197] at h
    obtain rfl := Bool.eq_false_iff.2 c2197
    refine VL.un rfl rfl (ltn rfl) ?_
    refine VL.un rfl rfl (ltn rfl) ?_
    refine VL.va (op_pick rfl rfl (ltn rfl)) rfl ?_
    refine VL.va (op_assign rfl (ltn rfl)) rfl ?_
    refine VL.done ?_
    refine VN.then ?_
    refine VC.ret ?_
    obtain rfl := Option.some.inj h
    exact VR.fn (rs := [.tmp 2]) [] [] [] rfl (.tmp rfl .nil) ⟨rfl, rfl, rfl⟩ trivial rfl (by decide)
set_option maxHeartbeats 4000000 in
set_option maxRecDepth 100000 in
theorem waits_at_1.ok (a0_0 : ByteArray) (a0_1 : Int) (a0_2 : Int) (a0_3 : Int) (a1_0 : Int) (p1 : Nat) (r1 : Bool) (h : waits_at_1.f a0_0 a0_1 a0_2 a0_3 a1_0 = some r1) :
    VCalls Try.prog 53 [.agg #[.string a0_0, .int .i64 a0_1, .int .i64 a0_2, .int .i64 a0_3], .pointer (some ⟨p1, 0, none⟩)] [.at_ ⟨p1, 0, none⟩ [.int .i64 a1_0]] (fun v G own => v = .bool r1 ∧ G = [] ∧ own = []) := by
  refine VCalls.intro Try.func53 rfl (len rfl) fun E hC hW hD hU => ?_
  unfold waits_at_1.f at h
  refine VC.seq ?_
  refine VC.region ?_
  refine VL.sG (o_box rfl (.agg (.of rfl)) (ltn rfl)) rfl ?_
  intro g2219
  refine VL.va (op_assign rfl (ltn rfl)) rfl ?_
  refine VL.done ?_
  refine VN.then ?_
  refine VC.seq ?_
  refine VC.region ?_
  refine VL.va (op_fieldAddr FI26_1 rfl (add_at _ _ _) (ltn rfl)) rfl ?_
  refine VL.va (op_fieldAddr FI24_2 rfl (add_at _ _ _) (ltn rfl)) rfl ?_
  refine VL.va (op_load 0 1 rfl rfl TI3 rfl (by decide) (ltn rfl)) rfl ?_
  refine VL.va (op_load_at (ad := ⟨p1, 0, none⟩) 0 0 1 (by first | rfl | exact congrArg (fun a => some (Value.pointer (some a))) (add_at _ 0 _).symm) rfl TI3 rfl (by decide) (ltn rfl)) rfl ?_
  refine VL.letter ((a0_3 == a1_0)) fun b2220 hb2220 => ?_
  refine VL.va (op_cmp rfl rfl (congrArg some hb2220) (ltn rfl)) rfl ?_
  refine VL.va (op_assign rfl (ltn rfl)) rfl ?_
  refine VL.done ?_
  refine VN.then ?_
  refine VC.ret ?_
  obtain rfl := Option.some.inj h
  subst hb2220
  exact VR.fn (rs := [.tmp 3]) [] [] [] rfl (.tmp rfl .nil) ⟨rfl, rfl, rfl⟩ trivial rfl (by decide)
set_option maxHeartbeats 4000000 in
set_option maxRecDepth 100000 in
theorem slices_IndexFunc_api_Line_api_Line_s42.ok (k : Nat) (l0 : List S25) (a1_0_0 : Int) (v0 : Value) (p1_0 : Nat) (r1 : Int) (h : slices_IndexFunc_api_Line_api_Line_s42.f k l0 a1_0_0 = some r1) :
    VCalls Try.prog 50 [v0, (.func (.func 53) #[] #[.pointer (some ⟨p1_0, 0, none⟩)])] [.row v0 4 (l0.map enc25), .at_ ⟨p1_0, 0, none⟩ [.int .i64 a1_0_0]] (fun v G own => v = .int .i64 r1 ∧ G = [] ∧ own = []) := by
  refine VCalls.intro Try.func50 rfl (len rfl) fun E hC hW hD hU => ?_
  unfold slices_IndexFunc_api_Line_api_Line_s42.f at h
  refine VC.seq ?_
  refine VC.region ?_
  refine VL.va (op_assign rfl (ltn rfl)) rfl ?_
  refine VL.done ?_
  refine VN.then ?_
  refine VC.seq ?_
  refine VC.seq ?_
  refine VC.region ?_
  refine VL.va (op_move rfl (ltn rfl)) rfl ?_
  refine VL.va (op_len (m := l0.length) 0 lenm Try.underlying22 rfl rfl (ltn rfl)) rfl ?_
  refine VL.va (op_move rfl (ltn rfl)) rfl ?_
  refine VL.done ?_
  refine VN.then ?_
  refine VC.block ?_
  refine VC.loop1 (fun (i2280 : Int) => ⟨19, [(0, v0), (1, (.func (.func 53) #[] #[.pointer (some ⟨p1_0, 0, none⟩)])), (4, .int .i64 0), (7, .int .i64 (l0.length : Int)), (8, .int .i64 i2280)], [.at_ ⟨p1_0, 0, none⟩ [.int .i64 a1_0_0], .row v0 4 (l0.map enc25)], [], []⟩) (fun (ml1 : Nat) (i2280 : Int) => slices_IndexFunc_api_Line_api_Line_s42.l1 k a1_0_0 l0 ml1 i2280 = some r1) k 0 [] [] h ⟨rfl, ⟨rfl, rfl, rfl, rfl, rfl, trivial⟩, ⟨⟨1, rfl⟩, ⟨0, rfl⟩, trivial⟩, rfl, by decide, rfl, by decide⟩ (by intros; simp [slices_IndexFunc_api_Line_api_Line_s42.l1]) ?_
  clear h
  intro ml1 ihl1 i2280 h
  simp only [slices_IndexFunc_api_Line_api_Line_s42.l1] at h
  refine VC.seq ?_
  refine VC.region ?_
  refine VL.letter (decide (i2280 < (l0.length : Int))) fun b2298 hb2298 => ?_
  refine VL.va (op_cmp rfl rfl (congrArg some hb2298) (ltn rfl)) rfl ?_
  refine VL.done ?_
  refine VN.then ?_
  refine VC.seq ?_
  by_cases c2300 : i2280 < (l0.length : Int)
  · rw [if_pos c2300] at h
    obtain rfl : b2298 = true := hb2298.symm.trans (decide_eq_true c2300)
    refine VC.cond_t rfl ?_
    refine VC.skip ?_
    refine VN.then ?_
    refine VC.seq ?_
    refine VC.block ?_
    refine VC.seq ?_
    refine VC.region ?_
    refine VL.va (op_move rfl (ltn rfl)) rfl ?_
    refine VL.va (op_assign rfl (ltn rfl)) rfl ?_
    refine VL.done ?_
    refine VN.then ?_
    refine VC.seq ?_
    refine VC.region ?_
    refine VL.va (op_move rfl (ltn rfl)) rfl ?_
    refine VL.va (op_move rfl (ltn rfl)) rfl ?_
    refine VL.va (op_move rfl (ltn rfl)) rfl ?_
    by_cases c2308 : 0 ≤ i2280
    · rw [if_pos c2308] at h
      replace h := Option.bind_eq_some_iff.1 h
      obtain ⟨x2309, hx2309, h⟩ := h
      refine VL.open (m := l0.length) 1 lenm rfl (pos_get hx2309) ?_
      rintro ad2310 n2311 rfl
      refine VL.va (op_indexAddr Try.underlying22 TI26 rfl rfl c2308 (lt_get c2308 hx2309) rfl (ltn rfl)) rfl ?_
      refine VL.va (op_load_row (sz := 4) (o := 0) 1 i2280.toNat 4 rfl rfl (get_map hx2309) TI26 rfl (fun h => absurd h (by decide)) (ltn rfl)) rfl ?_
      replace h := Option.bind_eq_some_iff.1 h
      obtain ⟨t2312, hA2313, h⟩ := h
      refine VL.sC (o_call (vals := [.agg #[.string x2309.f0, .int .i64 x2309.f1, .int .i64 x2309.f2, .int .i64 x2309.f3]]) (caps := [.pointer (some ⟨p1_0, 0, none⟩)]) FO53 (waits_at_1.ok x2309.f0 x2309.f1 x2309.f2 x2309.f3 a1_0_0 p1_0 t2312 hA2313) rfl rfl (ltn rfl) (All_of (.cons (List.mem_of_getElem? (i := 0) rfl) .nil))) rfl ?_
      rintro _ _ _ ⟨rfl, rfl, rfl⟩
      refine VL.done ?_
      refine VN.then ?_
      by_cases c2314 : t2312 = true
      · rw [if_pos c2314] at h
        obtain rfl := c2314
        refine VC.cond_t rfl ?_
        refine VC.seq ?_
        refine VC.region ?_
        refine VL.va (op_move rfl (ltn rfl)) rfl ?_
        refine VL.va (op_assign rfl (ltn rfl)) rfl ?_
        refine VL.done ?_
        refine VN.then ?_
        refine VC.ret ?_
        refine VR.block ?_
        refine VR.then ?_
        refine VR.then ?_
        refine VR.block ?_
        refine VR.then ?_
        obtain rfl := Option.some.inj h
        exact VR.fn (rs := [.tmp 4]) [] [] [] rfl (.tmp rfl .nil) ⟨rfl, rfl, rfl⟩ trivial rfl (by decide)
      · rw [if_neg c2314] at h
        obtain rfl := Bool.eq_false_iff.2 c2314
        refine VC.cond_f rfl ?_
        refine VC.skip ?_
        refine VN.block ?_
        refine VN.then ?_
        refine VC.region ?_
        refine VL.va (op_ari64 rfl rfl rfl (ltn rfl)) rfl ?_
        refine VL.va (op_move rfl (ltn rfl)) rfl ?_
        refine VL.done ?_
        refine VN.again [] [] (ihl1 (wrap64 (i2280 + 1)) h) ⟨rfl, ⟨rfl, rfl, rfl, rfl, rfl, trivial⟩, ⟨⟨0, rfl⟩, ⟨1, rfl⟩, trivial⟩, rfl, by decide, rfl, by decide⟩
    · rw [if_neg c2308] at h; cases h
  · rw [if_neg c2300] at h
    obtain rfl : b2298 = false := hb2298.symm.trans (decide_eq_false c2300)
    refine VC.cond_f rfl ?_
    refine VC.exit ?_
    refine VX.then ?_
    refine VX.then ?_
    refine VX.hit ?_
    refine VN.then ?_
    refine VC.seq ?_
    refine VC.region ?_
    refine VL.va (op_assign rfl (ltn rfl)) rfl ?_
    refine VL.done ?_
    refine VN.then ?_
    refine VC.ret ?_
    obtain rfl := Option.some.inj h
    exact VR.fn (rs := [.tmp 4]) [] [] [] rfl (.tmp rfl .nil) ⟨rfl, rfl, rfl⟩ trivial rfl (by decide)
set_option maxHeartbeats 4000000 in
set_option maxRecDepth 100000 in
theorem waits_at.ok (k : Nat) (l0 : List S25) (a1 : Int) (v0 : Value) (r1 : Int) (r2 : Int) (h : waits_at.f k l0 a1 = some (r1, r2)) :
    VCalls Try.prog 41 [v0, .int .i64 a1] [.row v0 4 (l0.map enc25)] (fun v G own => v = .tuple #[.int .i64 r1, .int .i64 r2] ∧ G = [] ∧ own = []) := by
  refine VCalls.intro Try.func41 rfl (len rfl) fun E hC hW hD hU => ?_
  unfold waits_at.f at h
  refine VC.seq ?_
  refine VC.region ?_
  refine VL.sG (o_box rfl (.c rfl) (ltn rfl)) rfl ?_
  intro g141
  refine VL.va (op_assign rfl (ltn rfl)) rfl ?_
  refine VL.va (op_assign rfl (ltn rfl)) rfl ?_
  refine VL.done ?_
  refine VN.then ?_
  refine VC.seq ?_
  refine VC.seq ?_
  refine VC.region ?_
  refine VL.va (op_move rfl (ltn rfl)) rfl ?_
  replace h := Option.bind_eq_some_iff.1 h
  obtain ⟨t2209, hA2210, h⟩ := h
  refine VL.sC (o_call0 FO11 (waits_Right.ok k l0 v0 t2209 hA2210) rfl rfl (ltn rfl) (All_of (.cons (List.mem_of_getElem? (i := 0) rfl) .nil))) rfl ?_
  rintro _ _ _ ⟨rfl, rfl, rfl⟩
  by_cases c2211 : t2209 = true
  · rw [if_pos c2211] at h
    obtain rfl := c2211
    refine VL.va (op_not rfl rfl (ltn rfl)) rfl ?_
    refine VL.done ?_
    refine VN.then ?_
    refine VC.cond_f rfl ?_
    refine VC.skip ?_
    refine VN.then ?_
    refine VC.seq ?_
    refine VC.region ?_
    refine VL.va (op_move rfl (ltn rfl)) rfl ?_
    refine VL.va (op_makeFunc (vals := [.pointer (some ⟨g141, 0, none⟩)]) rfl (ltn rfl)) rfl ?_
    refine VL.freeze' 0 rfl ?_
    replace h := Option.bind_eq_some_iff.1 h
    obtain ⟨t2315, hA2316, h⟩ := h
    refine VL.sC (o_call0 FO50 (slices_IndexFunc_api_Line_api_Line_s42.ok k l0 a1 v0 g141 t2315 hA2316) rfl rfl (ltn rfl) (All_of (.cons (List.mem_of_getElem? (i := 1) rfl) (.cons (List.mem_of_getElem? (i := 0) rfl) .nil)))) rfl ?_
    rintro _ _ _ ⟨rfl, rfl, rfl⟩
    refine VL.va (op_assign rfl (ltn rfl)) rfl ?_
    refine VL.done ?_
    refine VN.then ?_
    refine VC.seq ?_
    refine VC.seq ?_
    refine VC.region ?_
    refine VL.va (op_move rfl (ltn rfl)) rfl ?_
    refine VL.letter (decide (t2315 < 0)) fun b2319 hb2319 => ?_
    refine VL.va (op_cmp rfl rfl (congrArg some hb2319) (ltn rfl)) rfl ?_
    refine VL.done ?_
    refine VN.then ?_
    by_cases c2320 : t2315 < 0
    · rw [if_pos c2320] at h
      obtain rfl : b2319 = true := hb2319.symm.trans (decide_eq_true c2320)
      refine VC.cond_t rfl ?_
      refine VC.seq ?_
      refine VC.region ?_
      refine VL.va (op_assign rfl (ltn rfl)) rfl ?_
      refine VL.va (op_assign rfl (ltn rfl)) rfl ?_
      refine VL.done ?_
      refine VN.then ?_
      refine VC.ret ?_
      refine VR.then ?_
      simp only [Option.some.injEq, Prod.mk.injEq] at h
      obtain ⟨rfl, rfl⟩ := h
      exact VR.fn (rs := [.tmp 4, .tmp 5]) [] [] [] rfl (.tmp rfl (.tmp rfl .nil)) ⟨rfl, rfl, rfl⟩ trivial rfl (by decide)
    · rw [if_neg c2320] at h
      obtain rfl : b2319 = false := hb2319.symm.trans (decide_eq_false c2320)
      refine VC.cond_f rfl ?_
      refine VC.skip ?_
      refine VN.then ?_
      refine VC.seq ?_
      refine VC.region ?_
      refine VL.va (op_move rfl (ltn rfl)) rfl ?_
      refine VL.va (op_assign rfl (ltn rfl)) rfl ?_
      refine VL.va (op_assign rfl (ltn rfl)) rfl ?_
      refine VL.done ?_
      refine VN.then ?_
      refine VC.ret ?_
      simp only [Option.some.injEq, Prod.mk.injEq] at h
      obtain ⟨rfl, rfl⟩ := h
      exact VR.fn (rs := [.tmp 4, .tmp 5]) [] [] [] rfl (.tmp rfl (.tmp rfl .nil)) ⟨rfl, rfl, rfl⟩ trivial rfl (by decide)
  · rw [if_neg c2211] at h
    obtain rfl := Bool.eq_false_iff.2 c2211
    refine VL.va (op_not rfl rfl (ltn rfl)) rfl ?_
    refine VL.done ?_
    refine VN.then ?_
    refine VC.cond_t rfl ?_
    refine VC.seq ?_
    refine VC.region ?_
    refine VL.va (op_assign rfl (ltn rfl)) rfl ?_
    refine VL.va (op_assign rfl (ltn rfl)) rfl ?_
    refine VL.done ?_
    refine VN.then ?_
    refine VC.ret ?_
    refine VR.then ?_
    simp only [Option.some.injEq, Prod.mk.injEq] at h
    obtain ⟨rfl, rfl⟩ := h
    exact VR.fn (rs := [.tmp 4, .tmp 5]) [] [] [] rfl (.tmp rfl (.tmp rfl .nil)) ⟨rfl, rfl, rfl⟩ trivial rfl (by decide)

end Go.Proofs.Ytdofmkbffffbpaa.PWaitsGo
