/- Written by a program of this repo over the kit's print program: what the program's functions do, each as a Lean function, shown of the loaded code; or a statement's row over that; no condition of its own. -/
import Derived.Test.YtjghhdnecilcfaaPNetTurnsx0
import Derived.Test.YtjghhdnecilcfaaPNetTurnsx4
import Derived.Test.YtjghhdnecilcfaaPNetTurnsx5
namespace Go.Proofs.Ytjghhdnecilcfaa.PNetTurns
open Go.RowKit Go.Proofs.YtjghhdnecilcfaaW.PrintWords Go.Proofs.YtjghhdnecilcfaaW.PrintLast Go.Proofs.YtjghhdnecilcfaaW.PrintMore
attribute [local go_sem] max2_int min2_int max_two min_two max_three min_three max_four min_four   -- for this text's walks alone
set_option linter.unusedVariables false
set_option linter.unusedSimpArgs false

/-! ### net_Take: function 8 -/
def net_Take.j0 : Nat → Int → Bool → List (S26) → Int → Option ((List (S26)) × Int × Int × Bool × Int × Int × Int × Bool × Int)
  | 0, _, _, _, _ => none
  | k + 1, x1, x14, x127000, x127001 => if x14 = true then (some (([] : List (S26)), 0, 0, false, 0, 0, 0, false, 8)) else (if 0 ≤ x1 then (if x1 < (x127000.length : Int) then (if x1 ≤ (x127000.length : Int) then (if 0 ≤ (wrap64 (x1 + 1)) then (if (wrap64 (x1 + 1)) ≤ (x127000.length : Int) then ((net_behind.f (x127000.take (x1 : Int).toNat) (x127000.drop ((wrap64 (x1 + 1)) : Int).toNat)).bind fun t142 => (some (t142, x127001, (rd_T26 x127000 x1).f0, (rd_T26 x127000 x1).f1, (rd_T26 x127000 x1).f2, (rd_T26 x127000 x1).f3, (rd_T26 x127000 x1).f4, (rd_T26 x127000 x1).f5, 0))) else (none)) else (none)) else (none)) else (none)) else (none))
def net_Take.f (k : Nat) (l0_0 : List (S26)) (a0_1 : Int) (a1 : Int) : Option ((List (S26)) × Int × Int × Bool × Int × Int × Int × Bool × Int) := (net_Right.f k l0_0 a0_1).bind fun t129 => (if t129 = true then (if a1 < 0 then (net_Take.j0 k a1 true l0_0 a0_1) else (net_Take.j0 k a1 (decide (a1 ≥ (l0_0.length : Int))) l0_0 a0_1)) else (some (([] : List (S26)), 0, 0, false, 0, 0, 0, false, 1)))
theorem net_Take.mono_l : ∀ k, (∀ y0 y1 y2 y3, LeO (net_Take.j0 k y0 y1 y2 y3) (net_Take.j0 (k + 1) y0 y1 y2 y3))
  | 0 => fun _ _ _ _ r h => by simp [net_Take.j0] at h
  | k + 1 => by
    have ih0 := net_Take.mono_l k
    · intro y0 y1 y2 y3
      unfold net_Take.j0
      repeat' first
      | (with_reducible exact ih0 _ _ _ _)
      | (with_reducible exact net_Right.mono _ _ _)
      | (with_reducible exact LeO.refl _)
      | (with_reducible exact LeO.none _)
      | (with_reducible refine LeO.ite ?_ ?_)
      | (with_reducible refine LeO.bind ?_ (fun _ => ?_))
      | exact ih0 _ _ _ _
      | exact net_Right.mono _ _ _
      | exact LeO.none _
      | refine LeO.ite ?_ ?_
      | refine LeO.bind ?_ (fun _ => ?_)
theorem net_Take.mono : ∀ a0 a1 a2 k, LeO (net_Take.f k a0 a1 a2) (net_Take.f (k + 1) a0 a1 a2) := by
  intro a0 a1 a2 k
  have ih0 := net_Take.mono_l k
  unfold net_Take.f
  repeat' first
      | (with_reducible exact ih0 _ _ _ _)
      | (with_reducible exact net_Right.mono _ _ _)
      | (with_reducible exact LeO.refl _)
      | (with_reducible exact LeO.none _)
      | (with_reducible refine LeO.ite ?_ ?_)
      | (with_reducible refine LeO.bind ?_ (fun _ => ?_))
      | exact ih0 _ _ _ _
      | exact net_Right.mono _ _ _
      | exact LeO.none _
      | refine LeO.ite ?_ ?_
      | refine LeO.bind ?_ (fun _ => ?_)
def net_Take.T6 : Bool × List (List Nat × List Nat) := (true, [([], []), ([0], [0]), ([], []), ([1, 2], [1, 2]), ([], []), ([4], [4]), ([], []), ([6], [6]), ([5, 7], [5, 7]), ([3, 8], [3, 8]), ([0, 1, 2, 3, 4, 5, 6, 7, 8, 9], []), ([10, 9, 9, 0, 1, 2, 3, 4, 5, 6, 7, 8, 9], [9, 10])])
def net_Take.B6 : List Nat := [0, 1, 0, 7, 0, 16, 0, 64, 240, 511, 1023, 2047]
theorem net_Take.tab6 : rtab .any (opsOf Try.f8 6) = net_Take.T6 := by kernel_rfl
theorem net_Take.bits6 : waitsOk net_Take.T6.2 net_Take.B6 = true := by kernel_rfl
set_option maxHeartbeats 8000000 in
set_option maxRecDepth 100000 in
theorem net_Take.calls (k : Nat) (P0_0_ : Nat → Prop) (A0_0 : Option Addr) (c0_0 : Nat) (l0_0 : List (S26)) (a0_1 : Int) (a1 : Int) (r1 : List (S26)) (r2 : Int) (r3 : Int) (r4 : Bool) (r5 : Int) (r6 : Int) (r7 : Int) (r8 : Bool) (r9 : Int) (w : World) (hs0_0 : Kd.V k26 26 w w.heap.size (fun k_ => P0_0_ k_) (.slice A0_0 l0_0.length c0_0) l0_0) (h : net_Take.f k l0_0 a0_1 a1 = some (r1, r2, r3, r4, r5, r6, r7, r8, r9)) :
    Calls Try.prog 8 #[.agg #[.slice A0_0 l0_0.length c0_0, .int .i64 a0_1], .int .i64 a1] w fun e w' => ∃ v0_ : Value, e = .returned (.tuple #[.agg #[v0_, .int .i64 r2], .agg #[.int .i64 r3, .bool r4, .int .i64 r5, .int .i64 r6, .int .i64 r7, .bool r8], .int .i64 r9]) ∧ Kd.V k26 26 w' w.heap.size (fun k_ => (P0_0_ k_ ∨ w.heap.size ≤ k_)) v0_ r1 ∧ Below w.heap.size w w' := by
  have hu24 := Try.underlying24
  have hu26 := Try.underlying26
  have HO0_0 := Aside0.mk (show Kd.V k26 26 w w.heap.size (fun k_ => (P0_0_ k_ ∨ w.heap.size ≤ k_)) (.slice A0_0 l0_0.length c0_0) l0_0 from Kd.V_mono hs0_0 (fun k_ hk => .inl hk))
  have HB := Aside0.mk (Below.refl w.heap.size w)
  have H : ((net_Right.f k l0_0 a0_1).bind fun t129 => (if t129 = true then (if a1 < 0 then (net_Take.j0 k a1 true l0_0 a0_1) else (net_Take.j0 k a1 (decide (a1 ≥ (l0_0.length : Int))) l0_0 a0_1)) else (some (([] : List (S26)), 0, 0, false, 0, 0, 0, false, 1)))) = some (r1, r2, r3, r4, r5, r6, r7, r8, r9) := h
  clear h
  replace H := Option.bind_eq_some_iff.mp H
  obtain ⟨t129, A30, H⟩ := H
  replace H : (if t129 = true then (if a1 < 0 then (net_Take.j0 k a1 true l0_0 a0_1) else (net_Take.j0 k a1 (decide (a1 ≥ (l0_0.length : Int))) l0_0 a0_1)) else (some (([] : List (S26)), 0, 0, false, 0, 0, 0, false, 1))) = some (r1, r2, r3, r4, r5, r6, r7, r8, r9) := H
  have A3 := Aside0.mk A30
  clear A30
  by_cases c4 : t129 = true
  · subst c4
    have H1 : (if a1 < 0 then (net_Take.j0 k a1 true l0_0 a0_1) else (net_Take.j0 k a1 (decide (a1 ≥ (l0_0.length : Int))) l0_0 a0_1)) = some (r1, r2, r3, r4, r5, r6, r7, r8, r9) := by rw [if_pos rfl] at H; exact H
    clear H
    have H := H1
    clear H1
    have HC5 := Aside0.mk H
    clear H
    go_enter Try.func8, Try.ntmps8
    go_upto_region 3 with (first | ((with_reducible refine gate_dst (N := 2) rfl ?_); (try (refine gate_guard (by rfl) ?_; dsimp only)); refine box_event ?hg (N := 2) ?hd (cs := #[.slice A0_0 l0_0.length c0_0, .int .i64 a0_1]) (t := 24) ?hr ?_; (case hd => rfl); (case hg => rfl); (case hr => first | (go_simp; done) | (go_simp; rfl)); intro gb126 hg w6 hbox hb; have n0_ := Aside0.mk (Kd.V_below (Kd.V_elderB (by (with_reducible repeat (first | apply Kd.V_alloc | apply Kd.V_drewN | apply Kd.V_drew)); exact HO0_0.out) gb126 (Nat.le_of_eq hg.symm)) hb); have n1_ := hs_ HB hb; have n2_ := Aside0.mk (hbox); have n3_ := hz_ HB hg; have n4_ := hz_ HB hg; clear HO0_0; clear HB; have HO0_0 := n0_; have HB := n1_; have BK126 := n2_; have GW126 := n3_; have GE126 := n4_; clear n0_ n1_ n2_ n3_ n4_; clear hb hbox hg) | ((with_reducible refine gate_dst (N := 4) rfl ?_); (try (refine gate_guard (by rfl) ?_; dsimp only)); refine box_event ?hg (N := 4) ?hd (cs := #[.slice none 0 0, .int .i64 0]) (t := 24) ?hr ?_; (case hd => rfl); (case hg => rfl); (case hr => first | (go_simp; done) | (go_simp; rfl)); intro gb127 hg w7 hbox hb; have n0_ := Aside0.mk (Kd.V_below (Kd.V_elderB (by (with_reducible repeat (first | apply Kd.V_alloc | apply Kd.V_drewN | apply Kd.V_drew)); exact HO0_0.out) gb127 (Nat.le_of_eq hg.symm)) hb); have n1_ := kb_ BK126 hb; have n2_ := hs_ HB hb; have n3_ := Aside0.mk (hbox); have n4_ := hz_ HB hg; have n5_ := hz_ HB hg; have n6_ := kn_ BK126 hg; have n7_ := kr_ BK126 hg; clear HO0_0; clear BK126; clear HB; have HO0_0 := n0_; have BK126 := n1_; have HB := n2_; have BK127 := n3_; have GW127 := n4_; have GE127 := n5_; have NB126_127 := n6_; have NB127_126 := n7_; clear n0_ n1_ n2_ n3_ n4_ n5_ n6_ n7_; clear hb hbox hg) | ((with_reducible refine gate_dst (N := 5) rfl ?_); (try (refine gate_guard (by rfl) ?_; dsimp only)); refine box_event ?hg (N := 5) ?hd (cs := #[.int .i64 0, .bool false, .int .i64 0, .int .i64 0, .int .i64 0, .bool false]) (t := 26) ?hr ?_; (case hd => rfl); (case hg => rfl); (case hr => first | (go_simp; done) | (go_simp; rfl)); intro gb128 hg w8 hbox hb; have n0_ := Aside0.mk (Kd.V_below (Kd.V_elderB (by (with_reducible repeat (first | apply Kd.V_alloc | apply Kd.V_drewN | apply Kd.V_drew)); exact HO0_0.out) gb128 (Nat.le_of_eq hg.symm)) hb); have n1_ := kb_ BK126 hb; have n2_ := kb_ BK127 hb; have n3_ := hs_ HB hb; have n4_ := Aside0.mk (hbox); have n5_ := hz_ HB hg; have n6_ := hz_ HB hg; have n7_ := kn_ BK126 hg; have n8_ := kr_ BK126 hg; have n9_ := kn_ BK127 hg; have n10_ := kr_ BK127 hg; clear HO0_0; clear BK126; clear BK127; clear HB; have HO0_0 := n0_; have BK126 := n1_; have BK127 := n2_; have HB := n3_; have BK128 := n4_; have GW128 := n5_; have GE128 := n6_; have NB126_128 := n7_; have NB128_126 := n8_; have NB127_128 := n9_; have NB128_127 := n10_; clear n0_ n1_ n2_ n3_ n4_ n5_ n6_ n7_ n8_ n9_ n10_; clear hb hbox hg; have hnb9 := NB126_127.out; have hnc9 := NB127_126.out; have hnb10 := NB126_128.out; have hnc10 := NB128_126.out; have hcz11_0 : w8.cell? ⟨gb126, 0, none⟩ = some (.slice A0_0 l0_0.length c0_0) := (blk_cell BK126.out 0).trans rfl; have hcz11_1 : w8.cell? ⟨gb126, 1, none⟩ = some (.int .i64 a0_1) := (blk_cell BK126.out 1).trans rfl; have hfz11_0 := blk_frozen BK126.out 0; have hfz11_1 := blk_frozen BK126.out 1) | ((with_reducible refine gate_callee (f := 11) rfl ?_); refine goesL_ (some 10) rfl rfl Try.func11 (by kernel_rfl) rfl #[.agg #[.slice A0_0 l0_0.length c0_0, .int .i64 a0_1]] rfl (by (try simp only [List.map_toArray, List.map_cons, List.map_nil]); first | done | rfl | (simp only [List.length_drop, List.length_take]; rfl)) ?_; (with_reducible refine (net_Right.calls k _ _ l0_0 a0_1 true _ ?side1 ?side2 A3.out).mono ?_); (case side1 => repeat (first | exact (Kd.V_reads' HO0_0.out).2.2 | (with_reducible refine Kd.C_alloc ?_ _) | (with_reducible refine Kd.C_drewN ?_ _) | (with_reducible refine Kd.C_drew ?_))); (case side2 => exact (Kd.V_reads' HO0_0.out).2.1); rintro e w12 ⟨rfl, hb⟩; refine ⟨_, rfl, ?_⟩; have n0_ := Aside0.mk (Kd.V_below (by (with_reducible repeat (first | apply Kd.V_alloc | apply Kd.V_drewN | apply Kd.V_drew)); exact HO0_0.out) hb); have n1_ := kb_ BK126 hb; have n2_ := kb_ BK127 hb; have n3_ := kb_ BK128 hb; have n4_ := hs_ HB hb; clear HO0_0; clear BK126; clear BK127; clear BK128; clear HB; have HO0_0 := n0_; have BK126 := n1_; have BK127 := n2_; have BK128 := n3_; have HB := n4_; clear n0_ n1_ n2_ n3_ n4_; (try clear hb); (try clear hb2); (try clear hk); (try clear hi)))
    (try simp only [Act.put, List.setIfInBounds_toArray, List.set_cons_zero, List.set_cons_succ])
    go_cut [14] (fun v14 wc => ∃ (kq : Nat) (x14_4 : Bool), v14 = .bool x14_4 ∧ Aside0 (net_Take.j0 kq a1 x14_4 l0_0 a0_1 = some (r1, r2, r3, r4, r5, r6, r7, r8, r9)) ∧ Aside0 (kq ≤ k) ∧ Aside0 (Kd.V k26 26 wc w.heap.size (fun k_ => (P0_0_ k_ ∨ w.heap.size ≤ k_) ∧ k_ ≠ gb126 ∧ k_ ≠ gb127 ∧ k_ ≠ gb128) (.slice A0_0 l0_0.length c0_0) l0_0) ∧ Aside0 (wc.heap[gb126]? = some (.cells #[(.slice A0_0 l0_0.length c0_0), .int .i64 a0_1] 24 (0, 0))) ∧ Aside0 (wc.heap[gb127]? = some (.cells #[(.slice none 0 0), .int .i64 0] 24 (0, 0))) ∧ Aside0 (wc.heap[gb128]? = some (.cells #[.int .i64 0, .bool false, .int .i64 0, .int .i64 0, .int .i64 0, .bool false] 26 (0, 0))) ∧ Aside0 (Below w.heap.size w wc))
    case first =>
      have H := HC5.out
      clear HC5
      by_cases c13 : a1 < 0
      · rw [if_pos c13] at H
        have c13b0 : decide (a1 < 0) = true := decide_eq_true c13
        clear c13
        (first | rw [c13b0] | (simp only [i64_w, i32_w]; rw [c13b0]) | skip)
        have H' := Aside0.mk H
        clear H
        go_wp2
        go_meet
        case rel =>
          refine ⟨_, (true), (by first | rfl | (simp; done) | (simp [*]; done)), H', ⟨?_⟩, ⟨?_⟩, ⟨?_⟩, ⟨?_⟩, ⟨?_⟩, ⟨?_⟩⟩
          · first | omega | exact Nat.le_refl _
          · (with_reducible repeat (first | apply Kd.V_alloc | apply Kd.V_drewN | apply Kd.V_drew)); exact Kd.V_mono HO0_0.out (fun _ hk => ⟨hk.1.1.1, ⟨hk.1.1.2, ⟨hk.1.2, hk.2⟩⟩⟩)
          · exact kk_ BK126
          · exact kk_ BK127
          · exact kk_ BK128
          · exact hh_ HB
      · rw [if_neg c13] at H
        have c13b0 : decide (a1 < 0) = false := decide_eq_false c13
        clear c13
        (first | rw [c13b0] | (simp only [i64_w, i32_w]; rw [c13b0]) | skip)
        have H' := Aside0.mk H
        clear H
        have hnb14 := NB126_127.out
        have hnc14 := NB127_126.out
        have hnb15 := NB126_128.out
        have hnc15 := NB128_126.out
        have hcz16_0 : w12.cell? ⟨gb126, 0, none⟩ = some (.slice A0_0 l0_0.length c0_0) := (blk_cell BK126.out 0).trans rfl
        have hcz16_1 : w12.cell? ⟨gb126, 1, none⟩ = some (.int .i64 a0_1) := (blk_cell BK126.out 1).trans rfl
        have hfz16_0 := blk_frozen BK126.out 0
        have hfz16_1 := blk_frozen BK126.out 1
        go_wp2
        go_meet
        case rel =>
          refine ⟨_, (decide (a1 ≥ (l0_0.length : Int))), (by first | rfl | (simp; done) | (simp [*]; done)), H', ⟨?_⟩, ⟨?_⟩, ⟨?_⟩, ⟨?_⟩, ⟨?_⟩, ⟨?_⟩⟩
          · first | omega | exact Nat.le_refl _
          · (with_reducible repeat (first | apply Kd.V_alloc | apply Kd.V_drewN | apply Kd.V_drew)); exact Kd.V_mono HO0_0.out (fun _ hk => ⟨hk.1.1.1, ⟨hk.1.1.2, ⟨hk.1.2, hk.2⟩⟩⟩)
          · exact kk_ BK126
          · exact kk_ BK127
          · exact kk_ BK128
          · exact hh_ HB
    case rest =>
      clear HC5
      try clear c1
      try clear p2
      try clear c4
      try clear c8
      try clear c9
      try clear c10
      try clear c11
      try clear c13
      try clear c13b0
      try clear c14
      try clear c15
      try clear hcz11_0
      try clear hcz11_1
      try clear hcz16_0
      try clear hcz16_1
      try clear hfz11_0
      try clear hfz11_1
      try clear hfz16_0
      try clear hfz16_1
      obtain ⟨kq, x14_4, rfl, HA, HJ4, HO_127000, BK126, BK127, BK128, HB⟩ := hcut
      cases kq with
      | zero => exact absurd HA.out (by simp [net_Take.j0])
      | succ kj4 =>
        have H := HA.out
        clear HA
        simp only [net_Take.j0] at H
        by_cases c17 : x14_4 = true
        · subst c17
          have H1 : (some (([] : List (S26)), 0, 0, false, 0, 0, 0, false, 8)) = some (r1, r2, r3, r4, r5, r6, r7, r8, r9) := by rw [if_pos rfl] at H; exact H
          clear H
          have H := H1
          clear H1
          simp only [Option.some.injEq, Prod.mk.injEq] at H
          obtain ⟨rfl, rfl, rfl, rfl, rfl, rfl, rfl, rfl, rfl⟩ := H
          have hnb18 := NB127_126.out
          have hnc18 := NB126_127.out
          have hnb19 := NB127_128.out
          have hnc19 := NB128_127.out
          have hcz20_0 : wc.cell? ⟨gb127, 0, none⟩ = some (.slice none 0 0) := (blk_cell BK127.out 0).trans rfl
          have hcz20_1 : wc.cell? ⟨gb127, 1, none⟩ = some (.int .i64 0) := (blk_cell BK127.out 1).trans rfl
          have hfz20_0 := blk_frozen BK127.out 0
          have hfz20_1 := blk_frozen BK127.out 1
          have hnb21 := NB128_126.out
          have hnc21 := NB126_128.out
          have hcz22_0 : wc.cell? ⟨gb128, 0, none⟩ = some (.int .i64 0) := (blk_cell BK128.out 0).trans rfl
          have hcz22_1 : wc.cell? ⟨gb128, 1, none⟩ = some (.bool false) := (blk_cell BK128.out 1).trans rfl
          have hcz22_2 : wc.cell? ⟨gb128, 2, none⟩ = some (.int .i64 0) := (blk_cell BK128.out 2).trans rfl
          have hcz22_3 : wc.cell? ⟨gb128, 3, none⟩ = some (.int .i64 0) := (blk_cell BK128.out 3).trans rfl
          have hcz22_4 : wc.cell? ⟨gb128, 4, none⟩ = some (.int .i64 0) := (blk_cell BK128.out 4).trans rfl
          have hcz22_5 : wc.cell? ⟨gb128, 5, none⟩ = some (.bool false) := (blk_cell BK128.out 5).trans rfl
          have hfz22_0 := blk_frozen BK128.out 0
          have hfz22_1 := blk_frozen BK128.out 1
          have hfz22_2 := blk_frozen BK128.out 2
          have hfz22_3 := blk_frozen BK128.out 3
          have hfz22_4 := blk_frozen BK128.out 4
          have hfz22_5 := blk_frozen BK128.out 5
          go_wp2
          refine bodyPost_ret (results_list (rs := [.cell 4 24, .cell 5 26, .tmp 6]) rfl (by simp) (.cell gb127 24 #[.slice none 0 0, .int .i64 0] (0, 0) _ rfl (by (with_reducible repeat (first | refine blk_drewN ?_ _ | refine blk_drew ?_ | refine blk_alloc ?_ _)); refine blk_far ?_ NB127_128.out _; (with_reducible repeat (first | refine blk_drewN ?_ _ | refine blk_drew ?_ | refine blk_alloc ?_ _)); refine blk_far ?_ NB127_128.out _; (with_reducible repeat (first | refine blk_drewN ?_ _ | refine blk_drew ?_ | refine blk_alloc ?_ _)); refine blk_far ?_ NB127_128.out _; (with_reducible repeat (first | refine blk_drewN ?_ _ | refine blk_drew ?_ | refine blk_alloc ?_ _)); refine blk_far ?_ NB127_128.out _; (with_reducible repeat (first | refine blk_drewN ?_ _ | refine blk_drew ?_ | refine blk_alloc ?_ _)); refine blk_far ?_ NB127_128.out _; (with_reducible repeat (first | refine blk_drewN ?_ _ | refine blk_drew ?_ | refine blk_alloc ?_ _)); refine blk_far ?_ NB127_128.out _; (with_reducible repeat (first | refine blk_drewN ?_ _ | refine blk_drew ?_ | refine blk_alloc ?_ _)); refine blk_put (cs := #[.slice none 0 0, .int .i64 0]) ?_ 1 _ rfl; (with_reducible repeat (first | refine blk_drewN ?_ _ | refine blk_drew ?_ | refine blk_alloc ?_ _)); refine blk_put (cs := #[.slice none 0 0, .int .i64 0]) ?_ 0 _ rfl; (with_reducible repeat (first | refine blk_drewN ?_ _ | refine blk_drew ?_ | refine blk_alloc ?_ _)); exact BK127.out) Try.underlying24 rfl (by kernel_rfl) (.cell gb128 26 #[.int .i64 0, .bool false, .int .i64 0, .int .i64 0, .int .i64 0, .bool false] (0, 0) _ rfl (by (with_reducible repeat (first | refine blk_drewN ?_ _ | refine blk_drew ?_ | refine blk_alloc ?_ _)); refine blk_put (cs := #[.int .i64 0, .bool false, .int .i64 0, .int .i64 0, .int .i64 0, .bool false]) ?_ 5 _ rfl; (with_reducible repeat (first | refine blk_drewN ?_ _ | refine blk_drew ?_ | refine blk_alloc ?_ _)); refine blk_put (cs := #[.int .i64 0, .bool false, .int .i64 0, .int .i64 0, .int .i64 0, .bool false]) ?_ 4 _ rfl; (with_reducible repeat (first | refine blk_drewN ?_ _ | refine blk_drew ?_ | refine blk_alloc ?_ _)); refine blk_put (cs := #[.int .i64 0, .bool false, .int .i64 0, .int .i64 0, .int .i64 0, .bool false]) ?_ 3 _ rfl; (with_reducible repeat (first | refine blk_drewN ?_ _ | refine blk_drew ?_ | refine blk_alloc ?_ _)); refine blk_put (cs := #[.int .i64 0, .bool false, .int .i64 0, .int .i64 0, .int .i64 0, .bool false]) ?_ 2 _ rfl; (with_reducible repeat (first | refine blk_drewN ?_ _ | refine blk_drew ?_ | refine blk_alloc ?_ _)); refine blk_put (cs := #[.int .i64 0, .bool false, .int .i64 0, .int .i64 0, .int .i64 0, .bool false]) ?_ 1 _ rfl; (with_reducible repeat (first | refine blk_drewN ?_ _ | refine blk_drew ?_ | refine blk_alloc ?_ _)); refine blk_put (cs := #[.int .i64 0, .bool false, .int .i64 0, .int .i64 0, .int .i64 0, .bool false]) ?_ 0 _ rfl; (with_reducible repeat (first | refine blk_drewN ?_ _ | refine blk_drew ?_ | refine blk_alloc ?_ _)); refine blk_far ?_ NB128_127.out _; (with_reducible repeat (first | refine blk_drewN ?_ _ | refine blk_drew ?_ | refine blk_alloc ?_ _)); refine blk_far ?_ NB128_127.out _; (with_reducible repeat (first | refine blk_drewN ?_ _ | refine blk_drew ?_ | refine blk_alloc ?_ _)); exact BK128.out) Try.underlying26 rfl (by kernel_rfl) (.tmp .nil)))) rfl ?_
          exact ⟨_, by first | rfl | (simp [errW_none, errW_some] <;> rfl) | (simp [*, errW_none, errW_some] <;> rfl), Kd.V_nil _ _ _ _ _, by repeat (first | (with_reducible first | exact HB.out | apply below_alloc | apply pw_below_drewN | apply below_drew1 | refine below_set ?_ GE126.out | refine below_set ?_ GE127.out | refine below_set ?_ GE128.out) | exact HB.out)⟩
        · replace c17 := Bool.eq_false_iff.mpr c17
          subst c17
          have H1 : (if 0 ≤ a1 then (if a1 < (l0_0.length : Int) then (if a1 ≤ (l0_0.length : Int) then (if 0 ≤ (wrap64 (a1 + 1)) then (if (wrap64 (a1 + 1)) ≤ (l0_0.length : Int) then ((net_behind.f (l0_0.take (a1 : Int).toNat) (l0_0.drop ((wrap64 (a1 + 1)) : Int).toNat)).bind fun t142 => (some (t142, a0_1, (rd_T26 l0_0 a1).f0, (rd_T26 l0_0 a1).f1, (rd_T26 l0_0 a1).f2, (rd_T26 l0_0 a1).f3, (rd_T26 l0_0 a1).f4, (rd_T26 l0_0 a1).f5, 0))) else (none)) else (none)) else (none)) else (none)) else (none)) = some (r1, r2, r3, r4, r5, r6, r7, r8, r9) := by rw [if_neg (show ¬ (false = true) by decide)] at H; exact H
          clear H
          have H := H1
          clear H1
          by_cases c23 : 0 ≤ a1
          · rw [if_pos c23] at H
            have c23b0 : decide (0 ≤ a1) = true := decide_eq_true c23
            clear c23
            by_cases c24 : a1 < (l0_0.length : Int)
            · rw [if_pos c24] at H
              have c24b0 : decide (a1 < (l0_0.length : Int)) = true := decide_eq_true c24
              clear c24
              have c25b0 := eq_true (of_decide_eq_true (by first | (with_reducible assumption) | assumption) : 0 ≤ a1)
              by_cases c26 : a1 ≤ (l0_0.length : Int)
              · rw [if_pos c26] at H
                have c26b0 := eq_true c26
                have c26b1 : decide (a1 ≤ (l0_0.length : Int)) = true := decide_eq_true c26
                clear c26
                obtain ⟨y132, hy132⟩ : ∃ y_ : List (S26), y_ = (l0_0.take (a1 : Int).toNat) := ⟨_, rfl⟩
                replace H : (if 0 ≤ (wrap64 (a1 + 1)) then (if (wrap64 (a1 + 1)) ≤ (l0_0.length : Int) then ((net_behind.f y132 (l0_0.drop ((wrap64 (a1 + 1)) : Int).toNat)).bind fun t142 => (some (t142, a0_1, (rd_T26 l0_0 a1).f0, (rd_T26 l0_0 a1).f1, (rd_T26 l0_0 a1).f2, (rd_T26 l0_0 a1).f3, (rd_T26 l0_0 a1).f4, (rd_T26 l0_0 a1).f5, 0))) else (none)) else (none)) = some (r1, r2, r3, r4, r5, r6, r7, r8, r9) := by first | (rw [hy132]; with_reducible exact H) | (have H2_ := (Option.bind_some _ _).symm.trans H; rw [hy132]; with_reducible exact H2_) | (have H2_ := (Option.bind_some _ _).symm.trans H; with_reducible exact H2_) | with_reducible exact H | (rw [hy132]; exact H) | exact H
                have Ny132 := Aside0.mk hy132
                clear hy132
                obtain ⟨ji27, hji27⟩ : ∃ j_ : Int, (wrap64 (a1 + 1)) = j_ := ⟨_, rfl⟩
                replace H : (if 0 ≤ (ji27) then (if (ji27) ≤ (l0_0.length : Int) then ((net_behind.f y132 (l0_0.drop ((ji27) : Int).toNat)).bind fun t142 => (some (t142, a0_1, (rd_T26 l0_0 a1).f0, (rd_T26 l0_0 a1).f1, (rd_T26 l0_0 a1).f2, (rd_T26 l0_0 a1).f3, (rd_T26 l0_0 a1).f4, (rd_T26 l0_0 a1).f5, 0))) else (none)) else (none)) = some (r1, r2, r3, r4, r5, r6, r7, r8, r9) := by first | (rw [hji27] at H; exact H) | (simp only [hji27] at H ⊢; exact H)
                have hji27w : (IntKind.i64.wrap (a1 + 1)) = ji27 := (i64_w _).trans hji27
                by_cases c28 : 0 ≤ (ji27)
                · rw [if_pos c28] at H
                  have c28b0 := eq_true c28
                  have c28b1 : decide (0 ≤ (ji27)) = true := decide_eq_true c28
                  clear c28
                  by_cases c29 : (ji27) ≤ (l0_0.length : Int)
                  · rw [if_pos c29] at H
                    have c29b0 := eq_true c29
                    have c29b1 : decide ((ji27) ≤ (l0_0.length : Int)) = true := decide_eq_true c29
                    clear c29
                    obtain ⟨y137, hy137⟩ : ∃ y_ : List (S26), y_ = (l0_0.drop ((ji27) : Int).toNat) := ⟨_, rfl⟩
                    replace H : ((net_behind.f y132 y137).bind fun t142 => (some (t142, a0_1, (rd_T26 l0_0 a1).f0, (rd_T26 l0_0 a1).f1, (rd_T26 l0_0 a1).f2, (rd_T26 l0_0 a1).f3, (rd_T26 l0_0 a1).f4, (rd_T26 l0_0 a1).f5, 0))) = some (r1, r2, r3, r4, r5, r6, r7, r8, r9) := by first | (rw [hy137]; with_reducible exact H) | (have H2_ := (Option.bind_some _ _).symm.trans H; rw [hy137]; with_reducible exact H2_) | (have H2_ := (Option.bind_some _ _).symm.trans H; with_reducible exact H2_) | with_reducible exact H | (rw [hy137]; exact H) | exact H
                    have Ny137 := Aside0.mk hy137
                    clear hy137
                    replace H := Option.bind_eq_some_iff.mp H
                    obtain ⟨t142, A300, H⟩ := H
                    replace H : (some (t142, a0_1, (rd_T26 l0_0 a1).f0, (rd_T26 l0_0 a1).f1, (rd_T26 l0_0 a1).f2, (rd_T26 l0_0 a1).f3, (rd_T26 l0_0 a1).f4, (rd_T26 l0_0 a1).f5, 0)) = some (r1, r2, r3, r4, r5, r6, r7, r8, r9) := H
                    have A30 := Aside0.mk A300
                    clear A300
                    simp only [Option.some.injEq, Prod.mk.injEq] at H
                    obtain ⟨rfl, rfl, rfl, rfl, rfl, rfl, rfl, rfl, rfl⟩ := H
                    have hnb31 := NB126_127.out
                    have hnc31 := NB127_126.out
                    have hnb32 := NB126_128.out
                    have hnc32 := NB128_126.out
                    have hcz33_0 : wc.cell? ⟨gb126, 0, none⟩ = some (.slice A0_0 l0_0.length c0_0) := (blk_cell BK126.out 0).trans rfl
                    have hcz33_1 : wc.cell? ⟨gb126, 1, none⟩ = some (.int .i64 a0_1) := (blk_cell BK126.out 1).trans rfl
                    have hfz33_0 := blk_frozen BK126.out 0
                    have hfz33_1 := blk_frozen BK126.out 1
                    have p130 : 0 ≤ (a1 : Int) := of_decide_eq_true (by first | (with_reducible assumption) | assumption)
                    have q130 : a1 < (l0_0.length : Int) := of_decide_eq_true (by first | (with_reducible assumption) | assumption)
                    obtain ⟨ad130, e130, hx130_0, hx130_1, hx130_2, hx130_3, hx130_4, hx130_5⟩ := at_T26 (Kd.V_reads' HO_127000.out).2.2 a1 p130 q130
                    cases e130
                    replace p130 := eq_true p130
                    replace q130 := eq_true q130
                    try go_wp2_with (first | ((with_reducible refine gate_dst (N := 7) rfl ?_); (try (refine gate_guard (by rfl) ?_; dsimp only)); refine box_event ?hg (N := 7) ?hd (cs := #[.int .i64 0, .bool false, .int .i64 0, .int .i64 0, .int .i64 0, .bool false]) (t := 26) ?hr ?_; (case hd => rfl); (case hg => rfl); (case hr => first | (go_simp; done) | (go_simp; rfl)); intro gb131 hg w34 hbox hb; have n0_ := Aside0.mk (Kd.V_below (Kd.V_elderB (by (with_reducible repeat (first | apply Kd.V_alloc | apply Kd.V_drewN | apply Kd.V_drew)); exact HO_127000.out) gb131 (Nat.le_of_eq hg.symm)) hb); have n1_ := kb_ BK126 hb; have n2_ := kb_ BK127 hb; have n3_ := kb_ BK128 hb; have n4_ := hs_ HB hb; have n5_ := Aside0.mk (hbox); have n6_ := hz_ HB hg; have n7_ := hz_ HB hg; have n8_ := kn_ BK126 hg; have n9_ := kr_ BK126 hg; have n10_ := kn_ BK127 hg; have n11_ := kr_ BK127 hg; have n12_ := kn_ BK128 hg; have n13_ := kr_ BK128 hg; clear HO_127000; clear BK126; clear BK127; clear BK128; clear HB; have HO_127000 := n0_; have BK126 := n1_; have BK127 := n2_; have BK128 := n3_; have HB := n4_; have BK131 := n5_; have GW131 := n6_; have GE131 := n7_; have NB126_131 := n8_; have NB131_126 := n9_; have NB127_131 := n10_; have NB131_127 := n11_; have NB128_131 := n12_; have NB131_128 := n13_; clear n0_ n1_ n2_ n3_ n4_ n5_ n6_ n7_ n8_ n9_ n10_ n11_ n12_ n13_; clear hb hbox hg; have hnb35 := NB131_126.out; have hnc35 := NB126_131.out; have hnb36 := NB131_127.out; have hnc36 := NB127_131.out; have hnb37 := NB131_128.out; have hnc37 := NB128_131.out; have hcz38_0 : w34.cell? ⟨gb131, 0, none⟩ = some (.int .i64 0) := (blk_cell BK131.out 0).trans rfl; have hcz38_1 : w34.cell? ⟨gb131, 1, none⟩ = some (.bool false) := (blk_cell BK131.out 1).trans rfl; have hcz38_2 : w34.cell? ⟨gb131, 2, none⟩ = some (.int .i64 0) := (blk_cell BK131.out 2).trans rfl; have hcz38_3 : w34.cell? ⟨gb131, 3, none⟩ = some (.int .i64 0) := (blk_cell BK131.out 3).trans rfl; have hcz38_4 : w34.cell? ⟨gb131, 4, none⟩ = some (.int .i64 0) := (blk_cell BK131.out 4).trans rfl; have hcz38_5 : w34.cell? ⟨gb131, 5, none⟩ = some (.bool false) := (blk_cell BK131.out 5).trans rfl; have hfz38_0 := blk_frozen BK131.out 0; have hfz38_1 := blk_frozen BK131.out 1; have hfz38_2 := blk_frozen BK131.out 2; have hfz38_3 := blk_frozen BK131.out 3; have hfz38_4 := blk_frozen BK131.out 4; have hfz38_5 := blk_frozen BK131.out 5))
                    have n0_ : Aside0 (Kd.V k26 26 ((((((w34.setCell ⟨gb131, 0, none⟩ (.int .i64 ((rd_T26 l0_0 a1).f0))).setCell ⟨gb131, 1, none⟩ (.bool ((rd_T26 l0_0 a1).f1))).setCell ⟨gb131, 2, none⟩ (.int .i64 ((rd_T26 l0_0 a1).f2))).setCell ⟨gb131, 3, none⟩ (.int .i64 ((rd_T26 l0_0 a1).f3))).setCell ⟨gb131, 4, none⟩ (.int .i64 ((rd_T26 l0_0 a1).f4))).setCell ⟨gb131, 5, none⟩ (.bool ((rd_T26 l0_0 a1).f5))) w.heap.size (fun k_ => (P0_0_ k_ ∨ w.heap.size ≤ k_) ∧ k_ ≠ gb126 ∧ k_ ≠ gb127 ∧ k_ ≠ gb128 ∧ k_ ≠ gb131) (.slice (some ad130) l0_0.length c0_0) l0_0) := ⟨by (with_reducible repeat (first | apply Kd.V_alloc | apply Kd.V_drewN | apply Kd.V_drew)); exact Kd.V_mono (Kd.V_far (p := ⟨gb131, 5, none⟩) (Kd.V_far (p := ⟨gb131, 4, none⟩) (Kd.V_far (p := ⟨gb131, 3, none⟩) (Kd.V_far (p := ⟨gb131, 2, none⟩) (Kd.V_far (p := ⟨gb131, 1, none⟩) (Kd.V_far (p := ⟨gb131, 0, none⟩) (Kd.V_mono HO_127000.out (fun k_ hk => (⟨hk, hk.2⟩ : _ ∧ k_ ≠ gb131))) (fun _ hk => hk.2) (.int .i64 ((rd_T26 l0_0 a1).f0))) (fun _ hk => hk.2) (.bool ((rd_T26 l0_0 a1).f1))) (fun _ hk => hk.2) (.int .i64 ((rd_T26 l0_0 a1).f2))) (fun _ hk => hk.2) (.int .i64 ((rd_T26 l0_0 a1).f3))) (fun _ hk => hk.2) (.int .i64 ((rd_T26 l0_0 a1).f4))) (fun _ hk => hk.2) (.bool ((rd_T26 l0_0 a1).f5))) (fun _ hk => ⟨hk.1.1.1, ⟨hk.1.1.2.1, ⟨hk.1.1.2.2.1, ⟨hk.1.1.2.2.2, hk.1.2⟩⟩⟩⟩)⟩
                    have n1_ : Aside0 (((((((w34.setCell ⟨gb131, 0, none⟩ (.int .i64 ((rd_T26 l0_0 a1).f0))).setCell ⟨gb131, 1, none⟩ (.bool ((rd_T26 l0_0 a1).f1))).setCell ⟨gb131, 2, none⟩ (.int .i64 ((rd_T26 l0_0 a1).f2))).setCell ⟨gb131, 3, none⟩ (.int .i64 ((rd_T26 l0_0 a1).f3))).setCell ⟨gb131, 4, none⟩ (.int .i64 ((rd_T26 l0_0 a1).f4))).setCell ⟨gb131, 5, none⟩ (.bool ((rd_T26 l0_0 a1).f5))).heap[gb126]? = some (.cells #[.slice (some ad130) l0_0.length c0_0, .int .i64 a0_1] 24 (0, 0))) := ⟨by exact kk_ BK126⟩
                    have n2_ : Aside0 (((((((w34.setCell ⟨gb131, 0, none⟩ (.int .i64 ((rd_T26 l0_0 a1).f0))).setCell ⟨gb131, 1, none⟩ (.bool ((rd_T26 l0_0 a1).f1))).setCell ⟨gb131, 2, none⟩ (.int .i64 ((rd_T26 l0_0 a1).f2))).setCell ⟨gb131, 3, none⟩ (.int .i64 ((rd_T26 l0_0 a1).f3))).setCell ⟨gb131, 4, none⟩ (.int .i64 ((rd_T26 l0_0 a1).f4))).setCell ⟨gb131, 5, none⟩ (.bool ((rd_T26 l0_0 a1).f5))).heap[gb127]? = some (.cells #[.slice none 0 0, .int .i64 0] 24 (0, 0))) := ⟨by exact kk_ BK127⟩
                    have n3_ : Aside0 (((((((w34.setCell ⟨gb131, 0, none⟩ (.int .i64 ((rd_T26 l0_0 a1).f0))).setCell ⟨gb131, 1, none⟩ (.bool ((rd_T26 l0_0 a1).f1))).setCell ⟨gb131, 2, none⟩ (.int .i64 ((rd_T26 l0_0 a1).f2))).setCell ⟨gb131, 3, none⟩ (.int .i64 ((rd_T26 l0_0 a1).f3))).setCell ⟨gb131, 4, none⟩ (.int .i64 ((rd_T26 l0_0 a1).f4))).setCell ⟨gb131, 5, none⟩ (.bool ((rd_T26 l0_0 a1).f5))).heap[gb128]? = some (.cells #[.int .i64 0, .bool false, .int .i64 0, .int .i64 0, .int .i64 0, .bool false] 26 (0, 0))) := ⟨by exact kk_ BK128⟩
                    have n4_ : Aside0 (((((((w34.setCell ⟨gb131, 0, none⟩ (.int .i64 ((rd_T26 l0_0 a1).f0))).setCell ⟨gb131, 1, none⟩ (.bool ((rd_T26 l0_0 a1).f1))).setCell ⟨gb131, 2, none⟩ (.int .i64 ((rd_T26 l0_0 a1).f2))).setCell ⟨gb131, 3, none⟩ (.int .i64 ((rd_T26 l0_0 a1).f3))).setCell ⟨gb131, 4, none⟩ (.int .i64 ((rd_T26 l0_0 a1).f4))).setCell ⟨gb131, 5, none⟩ (.bool ((rd_T26 l0_0 a1).f5))).heap[gb131]? = some (.cells #[.int .i64 ((rd_T26 l0_0 a1).f0), .bool ((rd_T26 l0_0 a1).f1), .int .i64 ((rd_T26 l0_0 a1).f2), .int .i64 ((rd_T26 l0_0 a1).f3), .int .i64 ((rd_T26 l0_0 a1).f4), .bool ((rd_T26 l0_0 a1).f5)] 26 (0, 0))) := ⟨by (with_reducible repeat (first | refine blk_drewN ?_ _ | refine blk_drew ?_ | refine blk_alloc ?_ _)); refine blk_put (cs := #[.int .i64 ((rd_T26 l0_0 a1).f0), .bool ((rd_T26 l0_0 a1).f1), .int .i64 ((rd_T26 l0_0 a1).f2), .int .i64 ((rd_T26 l0_0 a1).f3), .int .i64 ((rd_T26 l0_0 a1).f4), .bool false]) ?_ 5 _ rfl; (with_reducible repeat (first | refine blk_drewN ?_ _ | refine blk_drew ?_ | refine blk_alloc ?_ _)); refine blk_put (cs := #[.int .i64 ((rd_T26 l0_0 a1).f0), .bool ((rd_T26 l0_0 a1).f1), .int .i64 ((rd_T26 l0_0 a1).f2), .int .i64 ((rd_T26 l0_0 a1).f3), .int .i64 0, .bool false]) ?_ 4 _ rfl; (with_reducible repeat (first | refine blk_drewN ?_ _ | refine blk_drew ?_ | refine blk_alloc ?_ _)); refine blk_put (cs := #[.int .i64 ((rd_T26 l0_0 a1).f0), .bool ((rd_T26 l0_0 a1).f1), .int .i64 ((rd_T26 l0_0 a1).f2), .int .i64 0, .int .i64 0, .bool false]) ?_ 3 _ rfl; (with_reducible repeat (first | refine blk_drewN ?_ _ | refine blk_drew ?_ | refine blk_alloc ?_ _)); refine blk_put (cs := #[.int .i64 ((rd_T26 l0_0 a1).f0), .bool ((rd_T26 l0_0 a1).f1), .int .i64 0, .int .i64 0, .int .i64 0, .bool false]) ?_ 2 _ rfl; (with_reducible repeat (first | refine blk_drewN ?_ _ | refine blk_drew ?_ | refine blk_alloc ?_ _)); refine blk_put (cs := #[.int .i64 ((rd_T26 l0_0 a1).f0), .bool false, .int .i64 0, .int .i64 0, .int .i64 0, .bool false]) ?_ 1 _ rfl; (with_reducible repeat (first | refine blk_drewN ?_ _ | refine blk_drew ?_ | refine blk_alloc ?_ _)); refine blk_put (cs := #[.int .i64 0, .bool false, .int .i64 0, .int .i64 0, .int .i64 0, .bool false]) ?_ 0 _ rfl; (with_reducible repeat (first | refine blk_drewN ?_ _ | refine blk_drew ?_ | refine blk_alloc ?_ _)); exact BK131.out⟩
                    have n5_ : Aside0 (Below w.heap.size w ((((((w34.setCell ⟨gb131, 0, none⟩ (.int .i64 ((rd_T26 l0_0 a1).f0))).setCell ⟨gb131, 1, none⟩ (.bool ((rd_T26 l0_0 a1).f1))).setCell ⟨gb131, 2, none⟩ (.int .i64 ((rd_T26 l0_0 a1).f2))).setCell ⟨gb131, 3, none⟩ (.int .i64 ((rd_T26 l0_0 a1).f3))).setCell ⟨gb131, 4, none⟩ (.int .i64 ((rd_T26 l0_0 a1).f4))).setCell ⟨gb131, 5, none⟩ (.bool ((rd_T26 l0_0 a1).f5)))) := ⟨by exact hh_ HB⟩
                    (try clear HO_127000)
                    (try clear BK126)
                    (try clear BK127)
                    (try clear BK128)
                    (try clear BK131)
                    (try clear HB)
                    generalize ((((((w34.setCell ⟨gb131, 0, none⟩ (.int .i64 ((rd_T26 l0_0 a1).f0))).setCell ⟨gb131, 1, none⟩ (.bool ((rd_T26 l0_0 a1).f1))).setCell ⟨gb131, 2, none⟩ (.int .i64 ((rd_T26 l0_0 a1).f2))).setCell ⟨gb131, 3, none⟩ (.int .i64 ((rd_T26 l0_0 a1).f3))).setCell ⟨gb131, 4, none⟩ (.int .i64 ((rd_T26 l0_0 a1).f4))).setCell ⟨gb131, 5, none⟩ (.bool ((rd_T26 l0_0 a1).f5))) = w39 at n0_ n1_ n2_ n3_ n4_ n5_ ⊢
                    have HO_127000 := n0_
                    have BK126 := n1_
                    have BK127 := n2_
                    have BK128 := n3_
                    have BK131 := n4_
                    have HB := n5_
                    clear n0_ n1_ n2_ n3_ n4_ n5_
                    have n0_ := Aside0.mk (Kd.V_drew HO_127000.out)
                    have n1_ := Aside0.mk (blk_drew BK126.out)
                    have n2_ := Aside0.mk (blk_drew BK127.out)
                    have n3_ := Aside0.mk (blk_drew BK128.out)
                    have n4_ := Aside0.mk (blk_drew BK131.out)
                    have n5_ := Aside0.mk (below_drew1 HB.out)
                    clear HO_127000
                    clear BK126
                    clear BK127
                    clear BK128
                    clear BK131
                    clear HB
                    have HO_127000 := n0_
                    have BK126 := n1_
                    have BK127 := n2_
                    have BK128 := n3_
                    have BK131 := n4_
                    have HB := n5_
                    clear n0_ n1_ n2_ n3_ n4_ n5_
                    have q41 : (a1 : Int) ≤ ((l0_0.length : Int) : Int) := of_decide_eq_true (by first | (with_reducible assumption) | assumption)
                    obtain ⟨i041, hi041, _, hsz41, _⟩ := info_parts info26
                    have hroom41 : l0_0.length ≤ c0_0 := (Kd.V_reads' HO_127000.out).2.1
                    have hC41 : Kd.F k26 _ _ (some ad130) l0_0.length l0_0 := (Kd.V_at (base := w.heap.size) HO_127000.out).2.2
                    have hcut41 := cut_to (P := Try.prog) 22 26 .i64 Try.underlying22 hi041 (some ad130) l0_0.length c0_0 a1 (of_decide_eq_true (by first | (with_reducible assumption) | assumption)) q41 hroom41
                    have hr41 := Kd.F_take (m := (a1 : Int).toNat) hC41 (by omega)
                    have hy41 : y132.length = (a1 : Int).toNat := (by rw [Ny132.out, List.length_take]; omega)
                    rw [← Ny132.out] at hr41
                    rw [← hy41] at hcut41
                    have HO136 := Aside0.mk (show Kd.V k26 26 _ w.heap.size _ (.slice (some ad130) y132.length c0_0) y132 from Kd.V_mk (by omega) hr41)
                    have HC136 := Aside0.mk (show y132.length ≤ c0_0 from by omega)
                    clear hr41 hC41 hroom41 hi041 hsz41
                    have KY41 := Aside0.mk hy41
                    clear hy41
                    replace q41 := eq_true q41
                    have q42 : ((ji27) : Int) ≤ ((l0_0.length : Int) : Int) := of_decide_eq_true (by first | (with_reducible assumption) | assumption)
                    obtain ⟨i042, hi042, _, hsz42, _⟩ := info_parts info26
                    have hroom42 : l0_0.length ≤ c0_0 := (Kd.V_reads' HO_127000.out).2.1
                    have hC42 : Kd.F k26 _ _ (some ad130) l0_0.length l0_0 := (Kd.V_at (base := w.heap.size) HO_127000.out).2.2
                    have q042 : (0 : Int) ≤ ((ji27) : Int) := of_decide_eq_true (by first | (with_reducible assumption) | assumption)
                    have hcut42 := cut_from (P := Try.prog) 22 26 .i64 Try.underlying22 hi042 6 hsz42 (some ad130) l0_0.length c0_0 (ji27) q042 q42
                    have hr42 := Kd.F_cut (m := ((ji27) : Int).toNat) (c := c0_0) hC42 (by omega) hroom42
                    obtain ⟨A42, hA42⟩ : ∃ A1, A1 = (if c0_0 = ((ji27) : Int).toNat then (some ad130) else ((some ad130) : Option Addr).map (·.add (((ji27) : Int).toNat * 6))) := ⟨_, rfl⟩
                    obtain ⟨c42, hc42⟩ : ∃ c1, c1 = c0_0 - ((ji27) : Int).toNat := ⟨_, rfl⟩
                    have hy42 : y137.length = l0_0.length - ((ji27) : Int).toNat := (by rw [Ny137.out, List.length_drop] <;> omega)
                    rw [show (l0_0).drop ((ji27) : Int).toNat = y137 from Ny137.out.symm] at hr42
                    replace hr42 : Kd.F k26 _ _ A42 y137.length y137 := (by rw [hA42]; exact hr42)
                    rw [← hy42, ← hA42, ← hc42] at hcut42
                    have HO141 := Aside0.mk (show Kd.V k26 26 _ w.heap.size _ (.slice A42 y137.length c42) y137 from Kd.V_mk (by rw [hy42, hc42]; exact Nat.sub_le_sub_right hroom42 _) hr42)
                    have HC141 := Aside0.mk (show y137.length ≤ c42 from by rw [hy42, hc42]; exact Nat.sub_le_sub_right hroom42 _)
                    clear hr42 hC42 hroom42 hi042 hsz42 hc42
                    have KY42 := Aside0.mk hy42
                    have KA42 := Aside0.mk hA42
                    clear hy42 hA42
                    replace q42 := eq_true q42
                    refine start_ (n := 12) (S := fun w' => w'.cell? ⟨gb126, 0, none⟩ = some (.slice (some ad130) l0_0.length c0_0) ∧ w'.cell? ⟨gb126, 1, none⟩ = some (.int .i64 a0_1)) (ds := [11]) #[false, false, false, false, false, false, false, false, false, false, false, false] (by kernel_rfl) rfl rfl ⟨(blk_cell BK126.out 0).trans rfl, (blk_cell BK126.out 1).trans rfl⟩ (fun hHeld => ?_); refine with_tabW net_Take.tab6 net_Take.bits6 (fun HT_ HW_ => ?_)
                    generalize w39.drew = w40 at HO_127000 BK126 BK127 BK128 BK131 HB HO136 HO141 hHeld ⊢
                    refine pure_ (i := 0) (N := some 31) (v := ?_) (a' := ?_) #[true, false, false, false, false, false, false, false, false, false, false, false] rfl rfl (any_of HT_.out (by kernel_rfl)) (fun _ _ _ h => h) (Or.inl ⟨by rfl, ?_⟩) ?_ ?_
                    rotate_left
                    · intro w'
                      go_simp
                      with_reducible rfl
                    rotate_left
                    · simp only [Act.put, List.setIfInBounds_toArray, List.set_cons_zero, List.set_cons_succ, i64_w, i32_w]
                      rfl
                    refine pure_ (i := 2) (N := some 33) (v := ?_) (a' := ?_) #[true, false, true, false, false, false, false, false, false, false, false, false] rfl rfl (any_of HT_.out (by kernel_rfl)) (fun _ _ _ h => h) (Or.inl ⟨by rfl, ?_⟩) ?_ ?_
                    rotate_left
                    · intro w'
                      go_simp
                      with_reducible rfl
                    rotate_left
                    · simp only [Act.put, List.setIfInBounds_toArray, List.set_cons_zero, List.set_cons_succ, i64_w, i32_w]
                      rfl
                    refine pure_ (i := 4) (N := some 35) (v := ?_) (a' := ?_) #[true, false, true, false, true, false, false, false, false, false, false, false] rfl rfl (any_of HT_.out (by kernel_rfl)) (fun _ _ _ h => h) (Or.inl ⟨by rfl, ?_⟩) ?_ ?_
                    rotate_left
                    · intro w'
                      go_simp
                      with_reducible rfl
                    rotate_left
                    · simp only [Act.put, List.setIfInBounds_toArray, List.set_cons_zero, List.set_cons_succ, i64_w, i32_w]
                      rfl
                    refine pure_ (i := 6) (N := some 37) (v := ?_) (a' := ?_) #[true, false, true, false, true, false, true, false, false, false, false, false] rfl rfl (any_of HT_.out (by kernel_rfl)) (fun _ _ _ h => h) (Or.inl ⟨by rfl, ?_⟩) ?_ ?_
                    rotate_left
                    · intro w'
                      go_simp
                      with_reducible rfl
                    rotate_left
                    · simp only [Act.put, List.setIfInBounds_toArray, List.set_cons_zero, List.set_cons_succ, i64_w, i32_w]
                      rfl
                    refine pure_ (i := 7) (N := some 38) (v := ?_) (a' := ?_) #[true, false, true, false, true, false, true, true, false, false, false, false] rfl rfl (any_of HT_.out (by kernel_rfl)) (fun _ _ _ h => h) (Or.inl ⟨by rfl, ?_⟩) ?_ ?_
                    rotate_left
                    · intro w'
                      go_simp
                      with_reducible rfl
                    rotate_left
                    · simp only [Act.put, List.setIfInBounds_toArray, List.set_cons_zero, List.set_cons_succ, i64_w, i32_w]
                      rfl
                    refine take_ (i := 1) (N := some 32) (v := ?_) (a' := ?_) #[true, true, true, false, true, false, true, true, false, false, false, false] rfl rfl (take_ofW HT_.out HW_.out (by kernel_rfl)) (fun _ _ _ h => h) (Or.inl ⟨by rfl, ?_⟩) hHeld ?_ ?_
                    rotate_left
                    · rintro w' ⟨s0, s1⟩
                      go_simp
                      with_reducible rfl
                    rotate_left
                    · simp only [Act.put, List.setIfInBounds_toArray, List.set_cons_zero, List.set_cons_succ, i64_w, i32_w]
                      rfl
                    refine pure_ (i := 3) (N := some 34) (v := ?_) (a' := ?_) #[true, true, true, true, true, false, true, true, false, false, false, false] rfl rfl (any_of HT_.out (by kernel_rfl)) (fun _ _ _ h => h) (Or.inl ⟨by rfl, ?_⟩) ?_ ?_
                    rotate_left
                    · intro w'
                      go_simp
                      with_reducible rfl
                    rotate_left
                    · simp only [Act.put, List.setIfInBounds_toArray, List.set_cons_zero, List.set_cons_succ, i64_w, i32_w]
                      rfl
                    refine take_ (i := 5) (N := some 36) (v := ?_) (a' := ?_) #[true, true, true, true, true, true, true, true, false, false, false, false] rfl rfl (take_ofW HT_.out HW_.out (by kernel_rfl)) (fun _ _ _ h => h) (Or.inl ⟨by rfl, ?_⟩) hHeld ?_ ?_
                    rotate_left
                    · rintro w' ⟨s0, s1⟩
                      go_simp
                      with_reducible rfl
                    rotate_left
                    · simp only [Act.put, List.setIfInBounds_toArray, List.set_cons_zero, List.set_cons_succ, i64_w, i32_w]
                      rfl
                    refine pure_ (i := 8) (N := some 39) (v := ?_) (a' := ?_) #[true, true, true, true, true, true, true, true, true, false, false, false] rfl rfl (any_of HT_.out (by kernel_rfl)) (fun _ _ _ h => h) (Or.inl ⟨by rfl, ?_⟩) ?_ ?_
                    rotate_left
                    · intro w'
                      go_simp
                      with_reducible rfl
                    rotate_left
                    · simp only [Act.put, List.setIfInBounds_toArray, List.set_cons_zero, List.set_cons_succ, i64_w, i32_w]
                      rfl
                    refine one_ (i := 9) (N := some 40) #[true, true, true, true, true, true, true, true, true, true, false, false] rfl rfl (one_of HT_.out (by kernel_rfl)) (by decide) (fun K hK => ?_)
                    refine goes_ Try.func17 (by kernel_rfl) rfl #[.slice (some ad130) y132.length c0_0, .slice A42 y137.length c42] (by rfl) rfl rfl (by (try simp only [List.map_toArray, List.map_cons, List.map_nil]); first | done | rfl | (simp only [List.length_drop, List.length_take]; rfl)) ?_
                    with_reducible refine (net_behind.calls (fun k_ => ((P0_0_ k_ ∨ w.heap.size ≤ k_) ∧ (k_ ≠ gb126 ∧ (k_ ≠ gb127 ∧ (k_ ≠ gb128 ∧ k_ ≠ gb131))))) _ _ y132 _ _ y137 t142 _ ?side1 ?side2 ?side3 A30.out).mono ?_
                    (case side1 => exact HO136.out)
                    (case side2 => repeat (first | exact (Kd.V_reads' HO141.out).2.2 | (with_reducible refine Kd.C_alloc ?_ _) | (with_reducible refine Kd.C_drewN ?_ _) | (with_reducible refine Kd.C_drew ?_)))
                    (case side3 => exact (Kd.V_reads' HO141.out).2.1)
                    rintro e w43 ⟨v143, rfl, ho0, hb⟩
                    refine ⟨_, rfl, ?_⟩
                    have n0_ := Aside0.mk (Kd.V_below (by (with_reducible repeat (first | apply Kd.V_alloc | apply Kd.V_drewN | apply Kd.V_drew)); exact HO_127000.out) hb)
                    have n1_ := Aside0.mk (Kd.V_below (by (with_reducible repeat (first | apply Kd.V_alloc | apply Kd.V_drewN | apply Kd.V_drew)); exact HO136.out) hb)
                    have n2_ := Aside0.mk (Kd.V_below (by (with_reducible repeat (first | apply Kd.V_alloc | apply Kd.V_drewN | apply Kd.V_drew)); exact HO141.out) hb)
                    have n3_ := Aside0.mk (Kd.V_lower (Kd.V_mono (ok' := fun k_ => (P0_0_ k_ ∨ w.heap.size ≤ k_) ∧ k_ ≠ gb126 ∧ k_ ≠ gb127 ∧ k_ ≠ gb128 ∧ k_ ≠ gb131) ho0 (fun k_ hk_ => ⟨Or.elim hk_ (fun hs_ => hs_.1) (fun hn_ => (.inr (Nat.le_trans (below_size (by repeat (first | (with_reducible first | exact HB.out | apply below_alloc | apply pw_below_drewN | apply below_drew1 | refine below_set ?_ GE126.out | refine below_set ?_ GE127.out | refine below_set ?_ GE128.out | refine below_set ?_ GE131.out) | exact HB.out))) hn_))), Or.elim hk_ (fun hs_ => hs_.2.1) (fun hn_ => (Kd.freshB (g := gb126) (o := .cells #[.slice (some ad130) l0_0.length c0_0, .int .i64 a0_1] 24 (0, 0)) (by exact kk_ BK126) k_ hn_)), Or.elim hk_ (fun hs_ => hs_.2.2.1) (fun hn_ => (Kd.freshB (g := gb127) (o := .cells #[.slice none 0 0, .int .i64 0] 24 (0, 0)) (by exact kk_ BK127) k_ hn_)), Or.elim hk_ (fun hs_ => hs_.2.2.2.1) (fun hn_ => (Kd.freshB (g := gb128) (o := .cells #[.int .i64 0, .bool false, .int .i64 0, .int .i64 0, .int .i64 0, .bool false] 26 (0, 0)) (by exact kk_ BK128) k_ hn_)), Or.elim hk_ (fun hs_ => hs_.2.2.2.2) (fun hn_ => (Kd.freshB (g := gb131) (o := .cells #[.int .i64 ((rd_T26 l0_0 a1).f0), .bool ((rd_T26 l0_0 a1).f1), .int .i64 ((rd_T26 l0_0 a1).f2), .int .i64 ((rd_T26 l0_0 a1).f3), .int .i64 ((rd_T26 l0_0 a1).f4), .bool ((rd_T26 l0_0 a1).f5)] 26 (0, 0)) (by exact kk_ BK131) k_ hn_))⟩)) (below_size (by repeat (first | (with_reducible first | exact HB.out | apply below_alloc | apply pw_below_drewN | apply below_drew1 | refine below_set ?_ GE126.out | refine below_set ?_ GE127.out | refine below_set ?_ GE128.out | refine below_set ?_ GE131.out) | exact HB.out))))
                    have n4_ := kb_ BK126 hb
                    have n5_ := kb_ BK127 hb
                    have n6_ := kb_ BK128 hb
                    have n7_ := kb_ BK131 hb
                    have n8_ := hs_ HB hb
                    clear HO_127000
                    clear HO136
                    clear HO141
                    clear BK126
                    clear BK127
                    clear BK128
                    clear BK131
                    clear HB
                    have HO_127000 := n0_
                    have HO136 := n1_
                    have HO141 := n2_
                    have HO144 := n3_
                    have BK126 := n4_
                    have BK127 := n5_
                    have BK128 := n6_
                    have BK131 := n7_
                    have HB := n8_
                    clear n0_ n1_ n2_ n3_ n4_ n5_ n6_ n7_ n8_
                    (try clear hb)
                    (try clear hb2)
                    (try clear hk)
                    (try clear hi)
                    (try clear ho0)
                    obtain ⟨Ao44, co44, eo44⟩ := Kd.V_slice HO144.out
                    (first | subst eo44 | (injection eo44 with f1_ f2_ f3_; have f4_ := f1_.symm; have f5_ := f3_.symm; clear f1_ f2_ f3_; subst f4_; subst f5_))
                    refine hK.out _ _ ⟨(blk_cell BK126.out 0).trans rfl, (blk_cell BK126.out 1).trans rfl⟩ (fun hHeld => ?_)
                    clear hK K
                    refine norm_ (a' := ?_) ?_ ?_
                    rotate_left
                    · show Act.put _ (some 40) _ = _
                      simp only [Act.put, List.setIfInBounds_toArray, List.set_cons_zero, List.set_cons_succ, i64_w, i32_w]
                      rfl
                    refine pure_ (i := 10) (N := some 41) (v := ?_) (a' := ?_) #[true, true, true, true, true, true, true, true, true, true, true, false] rfl rfl (any_of HT_.out (by kernel_rfl)) (fun _ _ _ h => h) (Or.inl ⟨by rfl, ?_⟩) ?_ ?_
                    rotate_left
                    · intro w'
                      go_simp
                      with_reducible rfl
                    rotate_left
                    · simp only [Act.put, List.setIfInBounds_toArray, List.set_cons_zero, List.set_cons_succ, i64_w, i32_w]
                      rfl
                    refine last_ (i := 11) (N := none) #[true, true, true, true, true, true, true, true, true, true, true, true] rfl rfl (one_of HT_.out (by kernel_rfl)) (by decide) (fun K hK => ?_)
                    have hs45 : w43.cell? ⟨gb126, 0, none⟩ = some (.slice (some ad130) l0_0.length c0_0) := (blk_cell BK126.out 0).trans rfl
                    have hfs45 := blk_frozen BK126.out 0
                    have hns45_1 := NB127_126.out
                    have hns45_2 := NB128_126.out
                    have hns45_3 := NB131_126.out
                    have hms45_1 := NB126_127.out
                    have hms45_2 := NB126_128.out
                    have hms45_3 := NB126_131.out
                    refine skip_ (w1 := ?_) (by rfl) rfl ?_ ?_
                    rotate_left
                    · go_simp
                      rfl
                    refine hK.out _ _ ?_
                    clear hK K
                    refine done_ (done_of HT_.out (by kernel_rfl)) ?_
                    try go_wp2
                    have n0_ : Aside0 (Kd.V k26 26 (w43.setCell ⟨gb126, 0, none⟩ (.slice Ao44 t142.length co44)) w.heap.size (fun k_ => (P0_0_ k_ ∨ w.heap.size ≤ k_) ∧ k_ ≠ gb126 ∧ k_ ≠ gb127 ∧ k_ ≠ gb128 ∧ k_ ≠ gb131) (.slice (some ad130) l0_0.length c0_0) l0_0) := ⟨by (with_reducible repeat (first | apply Kd.V_alloc | apply Kd.V_drewN | apply Kd.V_drew)); exact Kd.V_mono (Kd.V_far (p := ⟨gb126, 0, none⟩) (Kd.V_mono HO_127000.out (fun k_ hk => (⟨hk, hk.2.1⟩ : _ ∧ k_ ≠ gb126))) (fun _ hk => hk.2) (.slice Ao44 t142.length co44)) (fun _ hk => ⟨hk.1.1, ⟨hk.1.2.1, ⟨hk.1.2.2.1, ⟨hk.1.2.2.2.1, hk.1.2.2.2.2⟩⟩⟩⟩)⟩
                    have n1_ : Aside0 (Kd.V k26 26 (w43.setCell ⟨gb126, 0, none⟩ (.slice Ao44 t142.length co44)) w.heap.size (fun k_ => (P0_0_ k_ ∨ w.heap.size ≤ k_) ∧ k_ ≠ gb126 ∧ k_ ≠ gb127 ∧ k_ ≠ gb128 ∧ k_ ≠ gb131) (.slice (some ad130) y132.length c0_0) y132) := ⟨by (with_reducible repeat (first | apply Kd.V_alloc | apply Kd.V_drewN | apply Kd.V_drew)); exact Kd.V_mono (Kd.V_far (p := ⟨gb126, 0, none⟩) (Kd.V_mono HO136.out (fun k_ hk => (⟨hk, hk.2.1⟩ : _ ∧ k_ ≠ gb126))) (fun _ hk => hk.2) (.slice Ao44 t142.length co44)) (fun _ hk => ⟨hk.1.1, ⟨hk.1.2.1, ⟨hk.1.2.2.1, ⟨hk.1.2.2.2.1, hk.1.2.2.2.2⟩⟩⟩⟩)⟩
                    have n2_ : Aside0 (Kd.V k26 26 (w43.setCell ⟨gb126, 0, none⟩ (.slice Ao44 t142.length co44)) w.heap.size (fun k_ => (P0_0_ k_ ∨ w.heap.size ≤ k_) ∧ k_ ≠ gb126 ∧ k_ ≠ gb127 ∧ k_ ≠ gb128 ∧ k_ ≠ gb131) (.slice A42 y137.length c42) y137) := ⟨by (with_reducible repeat (first | apply Kd.V_alloc | apply Kd.V_drewN | apply Kd.V_drew)); exact Kd.V_mono (Kd.V_far (p := ⟨gb126, 0, none⟩) (Kd.V_mono HO141.out (fun k_ hk => (⟨hk, hk.2.1⟩ : _ ∧ k_ ≠ gb126))) (fun _ hk => hk.2) (.slice Ao44 t142.length co44)) (fun _ hk => ⟨hk.1.1, ⟨hk.1.2.1, ⟨hk.1.2.2.1, ⟨hk.1.2.2.2.1, hk.1.2.2.2.2⟩⟩⟩⟩)⟩
                    have n3_ : Aside0 (Kd.V k26 26 (w43.setCell ⟨gb126, 0, none⟩ (.slice Ao44 t142.length co44)) w.heap.size (fun k_ => (P0_0_ k_ ∨ w.heap.size ≤ k_) ∧ k_ ≠ gb126 ∧ k_ ≠ gb127 ∧ k_ ≠ gb128 ∧ k_ ≠ gb131) (.slice Ao44 t142.length co44) t142) := ⟨by (with_reducible repeat (first | apply Kd.V_alloc | apply Kd.V_drewN | apply Kd.V_drew)); exact Kd.V_mono (Kd.V_far (p := ⟨gb126, 0, none⟩) (Kd.V_mono HO144.out (fun k_ hk => (⟨hk, hk.2.1⟩ : _ ∧ k_ ≠ gb126))) (fun _ hk => hk.2) (.slice Ao44 t142.length co44)) (fun _ hk => ⟨hk.1.1, ⟨hk.1.2.1, ⟨hk.1.2.2.1, ⟨hk.1.2.2.2.1, hk.1.2.2.2.2⟩⟩⟩⟩)⟩
                    have n4_ : Aside0 ((w43.setCell ⟨gb126, 0, none⟩ (.slice Ao44 t142.length co44)).heap[gb126]? = some (.cells #[.slice Ao44 t142.length co44, .int .i64 a0_1] 24 (0, 0))) := ⟨by (with_reducible repeat (first | refine blk_drewN ?_ _ | refine blk_drew ?_ | refine blk_alloc ?_ _)); refine blk_put (cs := #[.slice (some ad130) l0_0.length c0_0, .int .i64 a0_1]) ?_ 0 _ rfl; (with_reducible repeat (first | refine blk_drewN ?_ _ | refine blk_drew ?_ | refine blk_alloc ?_ _)); exact BK126.out⟩
                    have n5_ : Aside0 ((w43.setCell ⟨gb126, 0, none⟩ (.slice Ao44 t142.length co44)).heap[gb127]? = some (.cells #[.slice none 0 0, .int .i64 0] 24 (0, 0))) := ⟨by exact kk_ BK127⟩
                    have n6_ : Aside0 ((w43.setCell ⟨gb126, 0, none⟩ (.slice Ao44 t142.length co44)).heap[gb128]? = some (.cells #[.int .i64 0, .bool false, .int .i64 0, .int .i64 0, .int .i64 0, .bool false] 26 (0, 0))) := ⟨by exact kk_ BK128⟩
                    have n7_ : Aside0 ((w43.setCell ⟨gb126, 0, none⟩ (.slice Ao44 t142.length co44)).heap[gb131]? = some (.cells #[.int .i64 ((rd_T26 l0_0 a1).f0), .bool ((rd_T26 l0_0 a1).f1), .int .i64 ((rd_T26 l0_0 a1).f2), .int .i64 ((rd_T26 l0_0 a1).f3), .int .i64 ((rd_T26 l0_0 a1).f4), .bool ((rd_T26 l0_0 a1).f5)] 26 (0, 0))) := ⟨by exact kk_ BK131⟩
                    have n8_ : Aside0 (Below w.heap.size w (w43.setCell ⟨gb126, 0, none⟩ (.slice Ao44 t142.length co44))) := ⟨by exact hh_ HB⟩
                    (try clear HO_127000)
                    (try clear HO136)
                    (try clear HO141)
                    (try clear HO144)
                    (try clear BK126)
                    (try clear BK127)
                    (try clear BK128)
                    (try clear BK131)
                    (try clear HB)
                    generalize (w43.setCell ⟨gb126, 0, none⟩ (.slice Ao44 t142.length co44)) = w46 at n0_ n1_ n2_ n3_ n4_ n5_ n6_ n7_ n8_ ⊢
                    have HO_127000 := n0_
                    have HO136 := n1_
                    have HO141 := n2_
                    have HO144 := n3_
                    have BK126 := n4_
                    have BK127 := n5_
                    have BK128 := n6_
                    have BK131 := n7_
                    have HB := n8_
                    clear n0_ n1_ n2_ n3_ n4_ n5_ n6_ n7_ n8_
                    have n0_ := Aside0.mk (Kd.V_drew HO_127000.out)
                    have n1_ := Aside0.mk (Kd.V_drew HO136.out)
                    have n2_ := Aside0.mk (Kd.V_drew HO141.out)
                    have n3_ := Aside0.mk (Kd.V_drew HO144.out)
                    have n4_ := Aside0.mk (blk_drew BK126.out)
                    have n5_ := Aside0.mk (blk_drew BK127.out)
                    have n6_ := Aside0.mk (blk_drew BK128.out)
                    have n7_ := Aside0.mk (blk_drew BK131.out)
                    have n8_ := Aside0.mk (below_drew1 HB.out)
                    clear HO_127000
                    clear HO136
                    clear HO141
                    clear HO144
                    clear BK126
                    clear BK127
                    clear BK128
                    clear BK131
                    clear HB
                    have HO_127000 := n0_
                    have HO136 := n1_
                    have HO141 := n2_
                    have HO144 := n3_
                    have BK126 := n4_
                    have BK127 := n5_
                    have BK128 := n6_
                    have BK131 := n7_
                    have HB := n8_
                    clear n0_ n1_ n2_ n3_ n4_ n5_ n6_ n7_ n8_
                    refine start_ (n := 5) (S := fun w' => w'.cell? ⟨gb126, 0, none⟩ = some (.slice Ao44 t142.length co44) ∧ w'.cell? ⟨gb126, 1, none⟩ = some (.int .i64 a0_1) ∧ w'.cell? ⟨gb131, 0, none⟩ = some (.int .i64 ((rd_T26 l0_0 a1).f0)) ∧ w'.cell? ⟨gb131, 1, none⟩ = some (.bool ((rd_T26 l0_0 a1).f1)) ∧ w'.cell? ⟨gb131, 2, none⟩ = some (.int .i64 ((rd_T26 l0_0 a1).f2)) ∧ w'.cell? ⟨gb131, 3, none⟩ = some (.int .i64 ((rd_T26 l0_0 a1).f3)) ∧ w'.cell? ⟨gb131, 4, none⟩ = some (.int .i64 ((rd_T26 l0_0 a1).f4)) ∧ w'.cell? ⟨gb131, 5, none⟩ = some (.bool ((rd_T26 l0_0 a1).f5))) (ds := []) #[false, false, false, false, false] (by kernel_rfl) rfl rfl ⟨(blk_cell BK126.out 0).trans rfl, (blk_cell BK126.out 1).trans rfl, (blk_cell BK131.out 0).trans rfl, (blk_cell BK131.out 1).trans rfl, (blk_cell BK131.out 2).trans rfl, (blk_cell BK131.out 3).trans rfl, (blk_cell BK131.out 4).trans rfl, (blk_cell BK131.out 5).trans rfl⟩ (fun hHeld => ?_)
                    generalize w46.drew = w47 at HO_127000 HO136 HO141 HO144 BK126 BK127 BK128 BK131 HB hHeld ⊢
                    refine take_ (i := 0) (N := some 42) (v := ?_) (a' := ?_) #[true, false, false, false, false] rfl rfl (by kernel_rfl) (fun _ _ _ h => h) (Or.inl ⟨by rfl, ?_⟩) hHeld ?_ ?_
                    rotate_left
                    · rintro w' ⟨s0, s1, s2, s3, s4, s5, s6, s7⟩
                      go_simp
                      with_reducible rfl
                    rotate_left
                    · simp only [Act.put, List.setIfInBounds_toArray, List.set_cons_zero, List.set_cons_succ, i64_w, i32_w]
                      rfl
                    refine take_ (i := 1) (N := some 43) (v := ?_) (a' := ?_) #[true, true, false, false, false] rfl rfl (by kernel_rfl) (fun _ _ _ h => h) (Or.inl ⟨by rfl, ?_⟩) hHeld ?_ ?_
                    rotate_left
                    · rintro w' ⟨s0, s1, s2, s3, s4, s5, s6, s7⟩
                      go_simp
                      with_reducible rfl
                    rotate_left
                    · simp only [Act.put, List.setIfInBounds_toArray, List.set_cons_zero, List.set_cons_succ, i64_w, i32_w]
                      rfl
                    refine one_ (i := 2) (N := none) #[true, true, true, false, false] rfl rfl (by kernel_rfl) (by decide) (fun K hK => ?_)
                    have hs48 : w47.cell? ⟨gb127, 0, none⟩ = some (.slice none 0 0) := (blk_cell BK127.out 0).trans rfl
                    have hfs48 := blk_frozen BK127.out 0
                    have hns48_0 := NB126_127.out
                    have hns48_2 := NB128_127.out
                    have hns48_3 := NB131_127.out
                    have hms48_0 := NB127_126.out
                    have hms48_2 := NB127_128.out
                    have hms48_3 := NB127_131.out
                    have hs49 : w47.cell? ⟨gb127, 1, none⟩ = some (.int .i64 0) := (blk_cell BK127.out 1).trans rfl
                    have hfs49 := blk_frozen BK127.out 1
                    have hns49_0 := NB126_127.out
                    have hns49_2 := NB128_127.out
                    have hns49_3 := NB131_127.out
                    have hms49_0 := NB127_126.out
                    have hms49_2 := NB127_128.out
                    have hms49_3 := NB127_131.out
                    refine skip_ (w1 := ?_) (by rfl) rfl ?_ ?_
                    rotate_left
                    · go_simp
                      rfl
                    refine hK.out _ _ ⟨((cell_far (p := ⟨gb127, _, none⟩) NB126_127.out _).trans (((cell_far (p := ⟨gb127, _, none⟩) NB126_127.out _).trans (hHeld.1)))), ((cell_far (p := ⟨gb127, _, none⟩) NB126_127.out _).trans (((cell_far (p := ⟨gb127, _, none⟩) NB126_127.out _).trans (hHeld.2.1)))), ((cell_far (p := ⟨gb127, _, none⟩) NB131_127.out _).trans (((cell_far (p := ⟨gb127, _, none⟩) NB131_127.out _).trans (hHeld.2.2.1)))), ((cell_far (p := ⟨gb127, _, none⟩) NB131_127.out _).trans (((cell_far (p := ⟨gb127, _, none⟩) NB131_127.out _).trans (hHeld.2.2.2.1)))), ((cell_far (p := ⟨gb127, _, none⟩) NB131_127.out _).trans (((cell_far (p := ⟨gb127, _, none⟩) NB131_127.out _).trans (hHeld.2.2.2.2.1)))), ((cell_far (p := ⟨gb127, _, none⟩) NB131_127.out _).trans (((cell_far (p := ⟨gb127, _, none⟩) NB131_127.out _).trans (hHeld.2.2.2.2.2.1)))), ((cell_far (p := ⟨gb127, _, none⟩) NB131_127.out _).trans (((cell_far (p := ⟨gb127, _, none⟩) NB131_127.out _).trans (hHeld.2.2.2.2.2.2.1)))), ((cell_far (p := ⟨gb127, _, none⟩) NB131_127.out _).trans (((cell_far (p := ⟨gb127, _, none⟩) NB131_127.out _).trans (hHeld.2.2.2.2.2.2.2))))⟩ (fun hHeld => ?_)
                    clear hK K
                    refine one_ (i := 3) (N := none) #[true, true, true, true, false] rfl rfl (by kernel_rfl) (by decide) (fun K hK => ?_)
                    have hs50 : w47.cell? ⟨gb128, 0, none⟩ = some (.int .i64 0) := (blk_cell BK128.out 0).trans rfl
                    have hfs50 := blk_frozen BK128.out 0
                    have hns50_0 := NB126_128.out
                    have hns50_1 := NB127_128.out
                    have hns50_3 := NB131_128.out
                    have hms50_0 := NB128_126.out
                    have hms50_1 := NB128_127.out
                    have hms50_3 := NB128_131.out
                    have hs51 : w47.cell? ⟨gb128, 1, none⟩ = some (.bool false) := (blk_cell BK128.out 1).trans rfl
                    have hfs51 := blk_frozen BK128.out 1
                    have hns51_0 := NB126_128.out
                    have hns51_1 := NB127_128.out
                    have hns51_3 := NB131_128.out
                    have hms51_0 := NB128_126.out
                    have hms51_1 := NB128_127.out
                    have hms51_3 := NB128_131.out
                    have hs52 : w47.cell? ⟨gb128, 2, none⟩ = some (.int .i64 0) := (blk_cell BK128.out 2).trans rfl
                    have hfs52 := blk_frozen BK128.out 2
                    have hns52_0 := NB126_128.out
                    have hns52_1 := NB127_128.out
                    have hns52_3 := NB131_128.out
                    have hms52_0 := NB128_126.out
                    have hms52_1 := NB128_127.out
                    have hms52_3 := NB128_131.out
                    have hs53 : w47.cell? ⟨gb128, 3, none⟩ = some (.int .i64 0) := (blk_cell BK128.out 3).trans rfl
                    have hfs53 := blk_frozen BK128.out 3
                    have hns53_0 := NB126_128.out
                    have hns53_1 := NB127_128.out
                    have hns53_3 := NB131_128.out
                    have hms53_0 := NB128_126.out
                    have hms53_1 := NB128_127.out
                    have hms53_3 := NB128_131.out
                    have hs54 : w47.cell? ⟨gb128, 4, none⟩ = some (.int .i64 0) := (blk_cell BK128.out 4).trans rfl
                    have hfs54 := blk_frozen BK128.out 4
                    have hns54_0 := NB126_128.out
                    have hns54_1 := NB127_128.out
                    have hns54_3 := NB131_128.out
                    have hms54_0 := NB128_126.out
                    have hms54_1 := NB128_127.out
                    have hms54_3 := NB128_131.out
                    have hs55 : w47.cell? ⟨gb128, 5, none⟩ = some (.bool false) := (blk_cell BK128.out 5).trans rfl
                    have hfs55 := blk_frozen BK128.out 5
                    have hns55_0 := NB126_128.out
                    have hns55_1 := NB127_128.out
                    have hns55_3 := NB131_128.out
                    have hms55_0 := NB128_126.out
                    have hms55_1 := NB128_127.out
                    have hms55_3 := NB128_131.out
                    refine skip_ (w1 := ?_) (by rfl) rfl ?_ ?_
                    rotate_left
                    · go_simp
                      rfl
                    refine hK.out _ _ ⟨((cell_far (p := ⟨gb128, _, none⟩) NB126_128.out _).trans (((cell_far (p := ⟨gb128, _, none⟩) NB126_128.out _).trans (((cell_far (p := ⟨gb128, _, none⟩) NB126_128.out _).trans (((cell_far (p := ⟨gb128, _, none⟩) NB126_128.out _).trans (((cell_far (p := ⟨gb128, _, none⟩) NB126_128.out _).trans (((cell_far (p := ⟨gb128, _, none⟩) NB126_128.out _).trans (hHeld.1)))))))))))), ((cell_far (p := ⟨gb128, _, none⟩) NB126_128.out _).trans (((cell_far (p := ⟨gb128, _, none⟩) NB126_128.out _).trans (((cell_far (p := ⟨gb128, _, none⟩) NB126_128.out _).trans (((cell_far (p := ⟨gb128, _, none⟩) NB126_128.out _).trans (((cell_far (p := ⟨gb128, _, none⟩) NB126_128.out _).trans (((cell_far (p := ⟨gb128, _, none⟩) NB126_128.out _).trans (hHeld.2.1)))))))))))), ((cell_far (p := ⟨gb128, _, none⟩) NB131_128.out _).trans (((cell_far (p := ⟨gb128, _, none⟩) NB131_128.out _).trans (((cell_far (p := ⟨gb128, _, none⟩) NB131_128.out _).trans (((cell_far (p := ⟨gb128, _, none⟩) NB131_128.out _).trans (((cell_far (p := ⟨gb128, _, none⟩) NB131_128.out _).trans (((cell_far (p := ⟨gb128, _, none⟩) NB131_128.out _).trans (hHeld.2.2.1)))))))))))), ((cell_far (p := ⟨gb128, _, none⟩) NB131_128.out _).trans (((cell_far (p := ⟨gb128, _, none⟩) NB131_128.out _).trans (((cell_far (p := ⟨gb128, _, none⟩) NB131_128.out _).trans (((cell_far (p := ⟨gb128, _, none⟩) NB131_128.out _).trans (((cell_far (p := ⟨gb128, _, none⟩) NB131_128.out _).trans (((cell_far (p := ⟨gb128, _, none⟩) NB131_128.out _).trans (hHeld.2.2.2.1)))))))))))), ((cell_far (p := ⟨gb128, _, none⟩) NB131_128.out _).trans (((cell_far (p := ⟨gb128, _, none⟩) NB131_128.out _).trans (((cell_far (p := ⟨gb128, _, none⟩) NB131_128.out _).trans (((cell_far (p := ⟨gb128, _, none⟩) NB131_128.out _).trans (((cell_far (p := ⟨gb128, _, none⟩) NB131_128.out _).trans (((cell_far (p := ⟨gb128, _, none⟩) NB131_128.out _).trans (hHeld.2.2.2.2.1)))))))))))), ((cell_far (p := ⟨gb128, _, none⟩) NB131_128.out _).trans (((cell_far (p := ⟨gb128, _, none⟩) NB131_128.out _).trans (((cell_far (p := ⟨gb128, _, none⟩) NB131_128.out _).trans (((cell_far (p := ⟨gb128, _, none⟩) NB131_128.out _).trans (((cell_far (p := ⟨gb128, _, none⟩) NB131_128.out _).trans (((cell_far (p := ⟨gb128, _, none⟩) NB131_128.out _).trans (hHeld.2.2.2.2.2.1)))))))))))), ((cell_far (p := ⟨gb128, _, none⟩) NB131_128.out _).trans (((cell_far (p := ⟨gb128, _, none⟩) NB131_128.out _).trans (((cell_far (p := ⟨gb128, _, none⟩) NB131_128.out _).trans (((cell_far (p := ⟨gb128, _, none⟩) NB131_128.out _).trans (((cell_far (p := ⟨gb128, _, none⟩) NB131_128.out _).trans (((cell_far (p := ⟨gb128, _, none⟩) NB131_128.out _).trans (hHeld.2.2.2.2.2.2.1)))))))))))), ((cell_far (p := ⟨gb128, _, none⟩) NB131_128.out _).trans (((cell_far (p := ⟨gb128, _, none⟩) NB131_128.out _).trans (((cell_far (p := ⟨gb128, _, none⟩) NB131_128.out _).trans (((cell_far (p := ⟨gb128, _, none⟩) NB131_128.out _).trans (((cell_far (p := ⟨gb128, _, none⟩) NB131_128.out _).trans (((cell_far (p := ⟨gb128, _, none⟩) NB131_128.out _).trans (hHeld.2.2.2.2.2.2.2))))))))))))⟩ (fun hHeld => ?_)
                    clear hK K
                    refine pure_ (i := 4) (N := some 6) (v := ?_) (a' := ?_) #[true, true, true, true, true] rfl rfl (by kernel_rfl) (fun _ _ _ h => h) (Or.inl ⟨by rfl, ?_⟩) ?_ ?_
                    rotate_left
                    · intro w'
                      go_simp
                      with_reducible rfl
                    rotate_left
                    · simp only [Act.put, List.setIfInBounds_toArray, List.set_cons_zero, List.set_cons_succ, i64_w, i32_w]
                      rfl
                    refine done_ (by kernel_rfl) ?_
                    try go_wp2
                    refine bodyPost_ret (results_list (rs := [.cell 4 24, .cell 5 26, .tmp 6]) rfl (by simp) (.cell gb127 24 #[.slice Ao44 t142.length co44, .int .i64 a0_1] (0, 0) _ rfl (by (with_reducible repeat (first | refine blk_drewN ?_ _ | refine blk_drew ?_ | refine blk_alloc ?_ _)); refine blk_far ?_ NB127_128.out _; (with_reducible repeat (first | refine blk_drewN ?_ _ | refine blk_drew ?_ | refine blk_alloc ?_ _)); refine blk_far ?_ NB127_128.out _; (with_reducible repeat (first | refine blk_drewN ?_ _ | refine blk_drew ?_ | refine blk_alloc ?_ _)); refine blk_far ?_ NB127_128.out _; (with_reducible repeat (first | refine blk_drewN ?_ _ | refine blk_drew ?_ | refine blk_alloc ?_ _)); refine blk_far ?_ NB127_128.out _; (with_reducible repeat (first | refine blk_drewN ?_ _ | refine blk_drew ?_ | refine blk_alloc ?_ _)); refine blk_far ?_ NB127_128.out _; (with_reducible repeat (first | refine blk_drewN ?_ _ | refine blk_drew ?_ | refine blk_alloc ?_ _)); refine blk_far ?_ NB127_128.out _; (with_reducible repeat (first | refine blk_drewN ?_ _ | refine blk_drew ?_ | refine blk_alloc ?_ _)); refine blk_put (cs := #[.slice Ao44 t142.length co44, .int .i64 0]) ?_ 1 _ rfl; (with_reducible repeat (first | refine blk_drewN ?_ _ | refine blk_drew ?_ | refine blk_alloc ?_ _)); refine blk_put (cs := #[.slice none 0 0, .int .i64 0]) ?_ 0 _ rfl; (with_reducible repeat (first | refine blk_drewN ?_ _ | refine blk_drew ?_ | refine blk_alloc ?_ _)); exact BK127.out) Try.underlying24 rfl (by kernel_rfl) (.cell gb128 26 #[.int .i64 ((rd_T26 l0_0 a1).f0), .bool ((rd_T26 l0_0 a1).f1), .int .i64 ((rd_T26 l0_0 a1).f2), .int .i64 ((rd_T26 l0_0 a1).f3), .int .i64 ((rd_T26 l0_0 a1).f4), .bool ((rd_T26 l0_0 a1).f5)] (0, 0) _ rfl (by (with_reducible repeat (first | refine blk_drewN ?_ _ | refine blk_drew ?_ | refine blk_alloc ?_ _)); refine blk_put (cs := #[.int .i64 ((rd_T26 l0_0 a1).f0), .bool ((rd_T26 l0_0 a1).f1), .int .i64 ((rd_T26 l0_0 a1).f2), .int .i64 ((rd_T26 l0_0 a1).f3), .int .i64 ((rd_T26 l0_0 a1).f4), .bool false]) ?_ 5 _ rfl; (with_reducible repeat (first | refine blk_drewN ?_ _ | refine blk_drew ?_ | refine blk_alloc ?_ _)); refine blk_put (cs := #[.int .i64 ((rd_T26 l0_0 a1).f0), .bool ((rd_T26 l0_0 a1).f1), .int .i64 ((rd_T26 l0_0 a1).f2), .int .i64 ((rd_T26 l0_0 a1).f3), .int .i64 0, .bool false]) ?_ 4 _ rfl; (with_reducible repeat (first | refine blk_drewN ?_ _ | refine blk_drew ?_ | refine blk_alloc ?_ _)); refine blk_put (cs := #[.int .i64 ((rd_T26 l0_0 a1).f0), .bool ((rd_T26 l0_0 a1).f1), .int .i64 ((rd_T26 l0_0 a1).f2), .int .i64 0, .int .i64 0, .bool false]) ?_ 3 _ rfl; (with_reducible repeat (first | refine blk_drewN ?_ _ | refine blk_drew ?_ | refine blk_alloc ?_ _)); refine blk_put (cs := #[.int .i64 ((rd_T26 l0_0 a1).f0), .bool ((rd_T26 l0_0 a1).f1), .int .i64 0, .int .i64 0, .int .i64 0, .bool false]) ?_ 2 _ rfl; (with_reducible repeat (first | refine blk_drewN ?_ _ | refine blk_drew ?_ | refine blk_alloc ?_ _)); refine blk_put (cs := #[.int .i64 ((rd_T26 l0_0 a1).f0), .bool false, .int .i64 0, .int .i64 0, .int .i64 0, .bool false]) ?_ 1 _ rfl; (with_reducible repeat (first | refine blk_drewN ?_ _ | refine blk_drew ?_ | refine blk_alloc ?_ _)); refine blk_put (cs := #[.int .i64 0, .bool false, .int .i64 0, .int .i64 0, .int .i64 0, .bool false]) ?_ 0 _ rfl; (with_reducible repeat (first | refine blk_drewN ?_ _ | refine blk_drew ?_ | refine blk_alloc ?_ _)); refine blk_far ?_ NB128_127.out _; (with_reducible repeat (first | refine blk_drewN ?_ _ | refine blk_drew ?_ | refine blk_alloc ?_ _)); refine blk_far ?_ NB128_127.out _; (with_reducible repeat (first | refine blk_drewN ?_ _ | refine blk_drew ?_ | refine blk_alloc ?_ _)); exact BK128.out) Try.underlying26 rfl (by kernel_rfl) (.tmp .nil)))) rfl ?_
                    exact ⟨_, by first | rfl | (simp [errW_none, errW_some] <;> rfl) | (simp only [← hji27]; first | rfl | (simp [errW_none, errW_some] <;> rfl)) | (simp [*, errW_none, errW_some] <;> rfl), by (with_reducible repeat (first | apply Kd.V_alloc | apply Kd.V_drewN | apply Kd.V_drew)); exact Kd.V_mono (Kd.V_far (p := ⟨gb128, 5, none⟩) (Kd.V_far (p := ⟨gb128, 4, none⟩) (Kd.V_far (p := ⟨gb128, 3, none⟩) (Kd.V_far (p := ⟨gb128, 2, none⟩) (Kd.V_far (p := ⟨gb128, 1, none⟩) (Kd.V_far (p := ⟨gb128, 0, none⟩) (Kd.V_far (p := ⟨gb127, 1, none⟩) (Kd.V_far (p := ⟨gb127, 0, none⟩) (Kd.V_mono (Kd.V_mono HO144.out (fun k_ hk => (⟨hk, hk.2.2.1⟩ : _ ∧ k_ ≠ gb127))) (fun k_ hk => (⟨hk, hk.1.2.2.2.1⟩ : _ ∧ k_ ≠ gb128))) (fun _ hk => hk.1.2) (.slice Ao44 t142.length co44)) (fun _ hk => hk.1.2) (.int .i64 a0_1)) (fun _ hk => hk.2) (.int .i64 ((rd_T26 l0_0 a1).f0))) (fun _ hk => hk.2) (.bool ((rd_T26 l0_0 a1).f1))) (fun _ hk => hk.2) (.int .i64 ((rd_T26 l0_0 a1).f2))) (fun _ hk => hk.2) (.int .i64 ((rd_T26 l0_0 a1).f3))) (fun _ hk => hk.2) (.int .i64 ((rd_T26 l0_0 a1).f4))) (fun _ hk => hk.2) (.bool ((rd_T26 l0_0 a1).f5))) (fun _ hk => hk.1.1.1), by repeat (first | (with_reducible first | exact HB.out | apply below_alloc | apply pw_below_drewN | apply below_drew1 | refine below_set ?_ GE126.out | refine below_set ?_ GE127.out | refine below_set ?_ GE128.out | refine below_set ?_ GE131.out) | exact HB.out)⟩
                  · rw [if_neg c29] at H
                    exact absurd H (by simp)
                · rw [if_neg c28] at H
                  exact absurd H (by simp)
              · rw [if_neg c26] at H
                exact absurd H (by simp)
            · rw [if_neg c24] at H
              exact absurd H (by simp)
          · rw [if_neg c23] at H
            exact absurd H (by simp)
  · replace c4 := Bool.eq_false_iff.mpr c4
    subst c4
    have H1 : (some (([] : List (S26)), 0, 0, false, 0, 0, 0, false, 1)) = some (r1, r2, r3, r4, r5, r6, r7, r8, r9) := by rw [if_neg (show ¬ (false = true) by decide)] at H; exact H
    clear H
    have H := H1
    clear H1
    simp only [Option.some.injEq, Prod.mk.injEq] at H
    obtain ⟨rfl, rfl, rfl, rfl, rfl, rfl, rfl, rfl, rfl⟩ := H
    go_enter Try.func8, Try.ntmps8
    go_wp2_with (first | ((with_reducible refine gate_dst (N := 2) rfl ?_); (try (refine gate_guard (by rfl) ?_; dsimp only)); refine box_event ?hg (N := 2) ?hd (cs := #[.slice A0_0 l0_0.length c0_0, .int .i64 a0_1]) (t := 24) ?hr ?_; (case hd => rfl); (case hg => rfl); (case hr => first | (go_simp; done) | (go_simp; rfl)); intro gb126 hg w56 hbox hb; have n0_ := Aside0.mk (Kd.V_below (Kd.V_elderB (by (with_reducible repeat (first | apply Kd.V_alloc | apply Kd.V_drewN | apply Kd.V_drew)); exact HO0_0.out) gb126 (Nat.le_of_eq hg.symm)) hb); have n1_ := hs_ HB hb; have n2_ := Aside0.mk (hbox); have n3_ := hz_ HB hg; have n4_ := hz_ HB hg; clear HO0_0; clear HB; have HO0_0 := n0_; have HB := n1_; have BK126 := n2_; have GW126 := n3_; have GE126 := n4_; clear n0_ n1_ n2_ n3_ n4_; clear hb hbox hg) | ((with_reducible refine gate_dst (N := 4) rfl ?_); (try (refine gate_guard (by rfl) ?_; dsimp only)); refine box_event ?hg (N := 4) ?hd (cs := #[.slice none 0 0, .int .i64 0]) (t := 24) ?hr ?_; (case hd => rfl); (case hg => rfl); (case hr => first | (go_simp; done) | (go_simp; rfl)); intro gb127 hg w57 hbox hb; have n0_ := Aside0.mk (Kd.V_below (Kd.V_elderB (by (with_reducible repeat (first | apply Kd.V_alloc | apply Kd.V_drewN | apply Kd.V_drew)); exact HO0_0.out) gb127 (Nat.le_of_eq hg.symm)) hb); have n1_ := kb_ BK126 hb; have n2_ := hs_ HB hb; have n3_ := Aside0.mk (hbox); have n4_ := hz_ HB hg; have n5_ := hz_ HB hg; have n6_ := kn_ BK126 hg; have n7_ := kr_ BK126 hg; clear HO0_0; clear BK126; clear HB; have HO0_0 := n0_; have BK126 := n1_; have HB := n2_; have BK127 := n3_; have GW127 := n4_; have GE127 := n5_; have NB126_127 := n6_; have NB127_126 := n7_; clear n0_ n1_ n2_ n3_ n4_ n5_ n6_ n7_; clear hb hbox hg) | ((with_reducible refine gate_dst (N := 5) rfl ?_); (try (refine gate_guard (by rfl) ?_; dsimp only)); refine box_event ?hg (N := 5) ?hd (cs := #[.int .i64 0, .bool false, .int .i64 0, .int .i64 0, .int .i64 0, .bool false]) (t := 26) ?hr ?_; (case hd => rfl); (case hg => rfl); (case hr => first | (go_simp; done) | (go_simp; rfl)); intro gb128 hg w58 hbox hb; have n0_ := Aside0.mk (Kd.V_below (Kd.V_elderB (by (with_reducible repeat (first | apply Kd.V_alloc | apply Kd.V_drewN | apply Kd.V_drew)); exact HO0_0.out) gb128 (Nat.le_of_eq hg.symm)) hb); have n1_ := kb_ BK126 hb; have n2_ := kb_ BK127 hb; have n3_ := hs_ HB hb; have n4_ := Aside0.mk (hbox); have n5_ := hz_ HB hg; have n6_ := hz_ HB hg; have n7_ := kn_ BK126 hg; have n8_ := kr_ BK126 hg; have n9_ := kn_ BK127 hg; have n10_ := kr_ BK127 hg; clear HO0_0; clear BK126; clear BK127; clear HB; have HO0_0 := n0_; have BK126 := n1_; have BK127 := n2_; have HB := n3_; have BK128 := n4_; have GW128 := n5_; have GE128 := n6_; have NB126_128 := n7_; have NB128_126 := n8_; have NB127_128 := n9_; have NB128_127 := n10_; clear n0_ n1_ n2_ n3_ n4_ n5_ n6_ n7_ n8_ n9_ n10_; clear hb hbox hg; have hnb59 := NB126_127.out; have hnc59 := NB127_126.out; have hnb60 := NB126_128.out; have hnc60 := NB128_126.out; have hcz61_0 : w58.cell? ⟨gb126, 0, none⟩ = some (.slice A0_0 l0_0.length c0_0) := (blk_cell BK126.out 0).trans rfl; have hcz61_1 : w58.cell? ⟨gb126, 1, none⟩ = some (.int .i64 a0_1) := (blk_cell BK126.out 1).trans rfl; have hfz61_0 := blk_frozen BK126.out 0; have hfz61_1 := blk_frozen BK126.out 1) | ((with_reducible refine gate_callee (f := 11) rfl ?_); refine goesL_ (some 10) rfl rfl Try.func11 (by kernel_rfl) rfl #[.agg #[.slice A0_0 l0_0.length c0_0, .int .i64 a0_1]] rfl (by (try simp only [List.map_toArray, List.map_cons, List.map_nil]); first | done | rfl | (simp only [List.length_drop, List.length_take]; rfl)) ?_; (with_reducible refine (net_Right.calls k _ _ l0_0 a0_1 false _ ?side1 ?side2 A3.out).mono ?_); (case side1 => repeat (first | exact (Kd.V_reads' HO0_0.out).2.2 | (with_reducible refine Kd.C_alloc ?_ _) | (with_reducible refine Kd.C_drewN ?_ _) | (with_reducible refine Kd.C_drew ?_))); (case side2 => exact (Kd.V_reads' HO0_0.out).2.1); rintro e w62 ⟨rfl, hb⟩; refine ⟨_, rfl, ?_⟩; have n0_ := Aside0.mk (Kd.V_below (by (with_reducible repeat (first | apply Kd.V_alloc | apply Kd.V_drewN | apply Kd.V_drew)); exact HO0_0.out) hb); have n1_ := kb_ BK126 hb; have n2_ := kb_ BK127 hb; have n3_ := kb_ BK128 hb; have n4_ := hs_ HB hb; clear HO0_0; clear BK126; clear BK127; clear BK128; clear HB; have HO0_0 := n0_; have BK126 := n1_; have BK127 := n2_; have BK128 := n3_; have HB := n4_; clear n0_ n1_ n2_ n3_ n4_; (try clear hb); (try clear hb2); (try clear hk); (try clear hi); have hnb63 := NB127_128.out; have hnc63 := NB128_127.out; have hcz64_0 : w62.cell? ⟨gb127, 0, none⟩ = some (.slice none 0 0) := (blk_cell BK127.out 0).trans rfl; have hcz64_1 : w62.cell? ⟨gb127, 1, none⟩ = some (.int .i64 0) := (blk_cell BK127.out 1).trans rfl; have hfz64_0 := blk_frozen BK127.out 0; have hfz64_1 := blk_frozen BK127.out 1; have hcz65_0 : w62.cell? ⟨gb128, 0, none⟩ = some (.int .i64 0) := (blk_cell BK128.out 0).trans rfl; have hcz65_1 : w62.cell? ⟨gb128, 1, none⟩ = some (.bool false) := (blk_cell BK128.out 1).trans rfl; have hcz65_2 : w62.cell? ⟨gb128, 2, none⟩ = some (.int .i64 0) := (blk_cell BK128.out 2).trans rfl; have hcz65_3 : w62.cell? ⟨gb128, 3, none⟩ = some (.int .i64 0) := (blk_cell BK128.out 3).trans rfl; have hcz65_4 : w62.cell? ⟨gb128, 4, none⟩ = some (.int .i64 0) := (blk_cell BK128.out 4).trans rfl; have hcz65_5 : w62.cell? ⟨gb128, 5, none⟩ = some (.bool false) := (blk_cell BK128.out 5).trans rfl; have hfz65_0 := blk_frozen BK128.out 0; have hfz65_1 := blk_frozen BK128.out 1; have hfz65_2 := blk_frozen BK128.out 2; have hfz65_3 := blk_frozen BK128.out 3; have hfz65_4 := blk_frozen BK128.out 4; have hfz65_5 := blk_frozen BK128.out 5))
    refine bodyPost_ret (results_list (rs := [.cell 4 24, .cell 5 26, .tmp 6]) rfl (by simp) (.cell gb127 24 #[.slice none 0 0, .int .i64 0] (0, 0) _ rfl (by (with_reducible repeat (first | refine blk_drewN ?_ _ | refine blk_drew ?_ | refine blk_alloc ?_ _)); refine blk_far ?_ NB127_128.out _; (with_reducible repeat (first | refine blk_drewN ?_ _ | refine blk_drew ?_ | refine blk_alloc ?_ _)); refine blk_far ?_ NB127_128.out _; (with_reducible repeat (first | refine blk_drewN ?_ _ | refine blk_drew ?_ | refine blk_alloc ?_ _)); refine blk_far ?_ NB127_128.out _; (with_reducible repeat (first | refine blk_drewN ?_ _ | refine blk_drew ?_ | refine blk_alloc ?_ _)); refine blk_far ?_ NB127_128.out _; (with_reducible repeat (first | refine blk_drewN ?_ _ | refine blk_drew ?_ | refine blk_alloc ?_ _)); refine blk_far ?_ NB127_128.out _; (with_reducible repeat (first | refine blk_drewN ?_ _ | refine blk_drew ?_ | refine blk_alloc ?_ _)); refine blk_far ?_ NB127_128.out _; (with_reducible repeat (first | refine blk_drewN ?_ _ | refine blk_drew ?_ | refine blk_alloc ?_ _)); refine blk_put (cs := #[.slice none 0 0, .int .i64 0]) ?_ 1 _ rfl; (with_reducible repeat (first | refine blk_drewN ?_ _ | refine blk_drew ?_ | refine blk_alloc ?_ _)); refine blk_put (cs := #[.slice none 0 0, .int .i64 0]) ?_ 0 _ rfl; (with_reducible repeat (first | refine blk_drewN ?_ _ | refine blk_drew ?_ | refine blk_alloc ?_ _)); exact BK127.out) Try.underlying24 rfl (by kernel_rfl) (.cell gb128 26 #[.int .i64 0, .bool false, .int .i64 0, .int .i64 0, .int .i64 0, .bool false] (0, 0) _ rfl (by (with_reducible repeat (first | refine blk_drewN ?_ _ | refine blk_drew ?_ | refine blk_alloc ?_ _)); refine blk_put (cs := #[.int .i64 0, .bool false, .int .i64 0, .int .i64 0, .int .i64 0, .bool false]) ?_ 5 _ rfl; (with_reducible repeat (first | refine blk_drewN ?_ _ | refine blk_drew ?_ | refine blk_alloc ?_ _)); refine blk_put (cs := #[.int .i64 0, .bool false, .int .i64 0, .int .i64 0, .int .i64 0, .bool false]) ?_ 4 _ rfl; (with_reducible repeat (first | refine blk_drewN ?_ _ | refine blk_drew ?_ | refine blk_alloc ?_ _)); refine blk_put (cs := #[.int .i64 0, .bool false, .int .i64 0, .int .i64 0, .int .i64 0, .bool false]) ?_ 3 _ rfl; (with_reducible repeat (first | refine blk_drewN ?_ _ | refine blk_drew ?_ | refine blk_alloc ?_ _)); refine blk_put (cs := #[.int .i64 0, .bool false, .int .i64 0, .int .i64 0, .int .i64 0, .bool false]) ?_ 2 _ rfl; (with_reducible repeat (first | refine blk_drewN ?_ _ | refine blk_drew ?_ | refine blk_alloc ?_ _)); refine blk_put (cs := #[.int .i64 0, .bool false, .int .i64 0, .int .i64 0, .int .i64 0, .bool false]) ?_ 1 _ rfl; (with_reducible repeat (first | refine blk_drewN ?_ _ | refine blk_drew ?_ | refine blk_alloc ?_ _)); refine blk_put (cs := #[.int .i64 0, .bool false, .int .i64 0, .int .i64 0, .int .i64 0, .bool false]) ?_ 0 _ rfl; (with_reducible repeat (first | refine blk_drewN ?_ _ | refine blk_drew ?_ | refine blk_alloc ?_ _)); refine blk_far ?_ NB128_127.out _; (with_reducible repeat (first | refine blk_drewN ?_ _ | refine blk_drew ?_ | refine blk_alloc ?_ _)); refine blk_far ?_ NB128_127.out _; (with_reducible repeat (first | refine blk_drewN ?_ _ | refine blk_drew ?_ | refine blk_alloc ?_ _)); exact BK128.out) Try.underlying26 rfl (by kernel_rfl) (.tmp .nil)))) rfl ?_
    exact ⟨_, by first | rfl | (simp [errW_none, errW_some] <;> rfl) | (simp [*, errW_none, errW_some] <;> rfl), Kd.V_nil _ _ _ _ _, by repeat (first | (with_reducible first | exact HB.out | apply below_alloc | apply pw_below_drewN | apply below_drew1 | refine below_set ?_ GE126.out | refine below_set ?_ GE127.out | refine below_set ?_ GE128.out) | exact HB.out)⟩

end Go.Proofs.Ytjghhdnecilcfaa.PNetTurns
