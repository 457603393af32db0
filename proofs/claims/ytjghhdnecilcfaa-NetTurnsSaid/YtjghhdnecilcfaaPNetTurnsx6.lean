/- Written by a program of this repo over the kit's print program: what the program's functions do, each as a Lean function, shown of the loaded code; or a statement's row over that; no condition of its own. -/
import Derived.Test.YtjghhdnecilcfaaPNetTurnsx0
import Derived.Test.YtjghhdnecilcfaaPNetTurnsx3
import Derived.Test.YtjghhdnecilcfaaPNetTurnsx4
import Derived.Test.YtjghhdnecilcfaaPNetTurnsx5
namespace Go.Proofs.Ytjghhdnecilcfaa.PNetTurns
open Go.RowKit Go.Proofs.YtjghhdnecilcfaaW.PrintWords Go.Proofs.YtjghhdnecilcfaaW.PrintLast Go.Proofs.YtjghhdnecilcfaaW.PrintMore
attribute [local go_sem] max2_int min2_int max_two min_two max_three min_three max_four min_four   -- for this text's walks alone
set_option linter.unusedVariables false
set_option linter.unusedSimpArgs false

/-! ### net_Post: function 7 -/
mutual
def net_Post.j0 : Nat → Bool → List (S26) → Int → Int → Bool → Int → Int → Int → Bool → Option ((List (S26)) × Int × Int × Int)
  | 0, _, _, _, _, _, _, _, _, _ => none
  | k + 1, x7, x116000, x116001, x117000, x117001, x117002, x117003, x117004, x117005 => if x7 = true then (some (([] : List (S26)), 0, 0, 1)) else (if (x116000.length : Int) = 64 then (net_Post.j1 k true x116000 x116001 x117000 x117001 x117002 x117003 x117004 x117005) else (net_Post.j1 k (x116001 == 1099511627776) x116000 x116001 x117000 x117001 x117002 x117003 x117004 x117005))
def net_Post.j1 : Nat → Bool → List (S26) → Int → Int → Bool → Int → Int → Int → Bool → Option ((List (S26)) × Int × Int × Int)
  | 0, _, _, _, _, _, _, _, _, _ => none
  | k + 1, x17, x116000, x116001, x117000, x117001, x117002, x117003, x117004, x117005 => if x17 = true then (some (([] : List (S26)), 0, 0, 7)) else ((net_behind.f x116000 (([(⟨wrap64 (x116001 + 1), x117001, x117002, x117003, x117004, x117005⟩ : S26)] : List (S26)))).bind fun t123 => (some (t123, wrap64 (x116001 + 1), wrap64 (x116001 + 1), 0)))
end
def net_Post.f (k : Nat) (l0_0 : List (S26)) (a0_1 : Int) (a1_0 : Int) (a1_1 : Bool) (a1_2 : Int) (a1_3 : Int) (a1_4 : Int) (a1_5 : Bool) : Option ((List (S26)) × Int × Int × Int) := (net_Right.f k l0_0 a0_1).bind fun t118 => (if t118 = true then ((net_may.f a1_0 a1_1 a1_2 a1_3 a1_4 a1_5).bind fun t119 => (net_Post.j0 k (!t119) l0_0 a0_1 a1_0 a1_1 a1_2 a1_3 a1_4 a1_5)) else (net_Post.j0 k true l0_0 a0_1 a1_0 a1_1 a1_2 a1_3 a1_4 a1_5))
theorem net_Post.mono_l : ∀ k, (∀ y0 y1 y2 y3 y4 y5 y6 y7 y8, LeO (net_Post.j0 k y0 y1 y2 y3 y4 y5 y6 y7 y8) (net_Post.j0 (k + 1) y0 y1 y2 y3 y4 y5 y6 y7 y8)) ∧ (∀ y0 y1 y2 y3 y4 y5 y6 y7 y8, LeO (net_Post.j1 k y0 y1 y2 y3 y4 y5 y6 y7 y8) (net_Post.j1 (k + 1) y0 y1 y2 y3 y4 y5 y6 y7 y8))
  | 0 => ⟨fun _ _ _ _ _ _ _ _ _ r h => by simp [net_Post.j0] at h, fun _ _ _ _ _ _ _ _ _ r h => by simp [net_Post.j1] at h⟩
  | k + 1 => by
    obtain ⟨ih0, ih1⟩ := net_Post.mono_l k
    refine ⟨?_, ?_⟩
    · intro y0 y1 y2 y3 y4 y5 y6 y7 y8
      unfold net_Post.j0
      repeat' first
      | (with_reducible exact ih0 _ _ _ _ _ _ _ _ _)
      | (with_reducible exact ih1 _ _ _ _ _ _ _ _ _)
      | (with_reducible exact net_Right.mono _ _ _)
      | (with_reducible exact LeO.refl _)
      | (with_reducible exact LeO.none _)
      | (with_reducible refine LeO.ite ?_ ?_)
      | (with_reducible refine LeO.bind ?_ (fun _ => ?_))
      | exact ih0 _ _ _ _ _ _ _ _ _
      | exact ih1 _ _ _ _ _ _ _ _ _
      | exact net_Right.mono _ _ _
      | exact LeO.none _
      | refine LeO.ite ?_ ?_
      | refine LeO.bind ?_ (fun _ => ?_)
    · intro y0 y1 y2 y3 y4 y5 y6 y7 y8
      unfold net_Post.j1
      repeat' first
      | (with_reducible exact ih0 _ _ _ _ _ _ _ _ _)
      | (with_reducible exact ih1 _ _ _ _ _ _ _ _ _)
      | (with_reducible exact net_Right.mono _ _ _)
      | (with_reducible exact LeO.refl _)
      | (with_reducible exact LeO.none _)
      | (with_reducible refine LeO.ite ?_ ?_)
      | (with_reducible refine LeO.bind ?_ (fun _ => ?_))
      | exact ih0 _ _ _ _ _ _ _ _ _
      | exact ih1 _ _ _ _ _ _ _ _ _
      | exact net_Right.mono _ _ _
      | exact LeO.none _
      | refine LeO.ite ?_ ?_
      | refine LeO.bind ?_ (fun _ => ?_)
theorem net_Post.mono : ∀ a0 a1 a2 a3 a4 a5 a6 a7 k, LeO (net_Post.f k a0 a1 a2 a3 a4 a5 a6 a7) (net_Post.f (k + 1) a0 a1 a2 a3 a4 a5 a6 a7) := by
  intro a0 a1 a2 a3 a4 a5 a6 a7 k
  obtain ⟨ih0, ih1⟩ := net_Post.mono_l k
  unfold net_Post.f
  repeat' first
      | (with_reducible exact ih0 _ _ _ _ _ _ _ _ _)
      | (with_reducible exact ih1 _ _ _ _ _ _ _ _ _)
      | (with_reducible exact net_Right.mono _ _ _)
      | (with_reducible exact LeO.refl _)
      | (with_reducible exact LeO.none _)
      | (with_reducible refine LeO.ite ?_ ?_)
      | (with_reducible refine LeO.bind ?_ (fun _ => ?_))
      | exact ih0 _ _ _ _ _ _ _ _ _
      | exact ih1 _ _ _ _ _ _ _ _ _
      | exact net_Right.mono _ _ _
      | exact LeO.none _
      | refine LeO.ite ?_ ?_
      | refine LeO.bind ?_ (fun _ => ?_)
set_option maxHeartbeats 8000000 in
set_option maxRecDepth 100000 in
theorem net_Post.calls (k : Nat) (P0_0_ : Nat → Prop) (A0_0 : Option Addr) (c0_0 : Nat) (l0_0 : List (S26)) (a0_1 : Int) (a1_0 : Int) (a1_1 : Bool) (a1_2 : Int) (a1_3 : Int) (a1_4 : Int) (a1_5 : Bool) (r1 : List (S26)) (r2 : Int) (r3 : Int) (r4 : Int) (w : World) (hs0_0 : Kd.V k26 26 w w.heap.size (fun k_ => P0_0_ k_) (.slice A0_0 l0_0.length c0_0) l0_0) (h : net_Post.f k l0_0 a0_1 a1_0 a1_1 a1_2 a1_3 a1_4 a1_5 = some (r1, r2, r3, r4)) :
    Calls Try.prog 7 #[.agg #[.slice A0_0 l0_0.length c0_0, .int .i64 a0_1], .agg #[.int .i64 a1_0, .bool a1_1, .int .i64 a1_2, .int .i64 a1_3, .int .i64 a1_4, .bool a1_5]] w fun e w' => ∃ v0_ : Value, e = .returned (.tuple #[.agg #[v0_, .int .i64 r2], .int .i64 r3, .int .i64 r4]) ∧ Kd.V k26 26 w' w.heap.size (fun k_ => (P0_0_ k_ ∨ w.heap.size ≤ k_)) v0_ r1 ∧ Below w.heap.size w w' := by
  have hu24 := Try.underlying24
  have hu26 := Try.underlying26
  have HO0_0 := Aside0.mk (show Kd.V k26 26 w w.heap.size (fun k_ => (P0_0_ k_ ∨ w.heap.size ≤ k_)) (.slice A0_0 l0_0.length c0_0) l0_0 from Kd.V_mono hs0_0 (fun k_ hk => .inl hk))
  have HB := Aside0.mk (Below.refl w.heap.size w)
  have H : ((net_Right.f k l0_0 a0_1).bind fun t118 => (if t118 = true then ((net_may.f a1_0 a1_1 a1_2 a1_3 a1_4 a1_5).bind fun t119 => (net_Post.j0 k (!t119) l0_0 a0_1 a1_0 a1_1 a1_2 a1_3 a1_4 a1_5)) else (net_Post.j0 k true l0_0 a0_1 a1_0 a1_1 a1_2 a1_3 a1_4 a1_5))) = some (r1, r2, r3, r4) := h
  clear h
  have HC3 := Aside0.mk H
  clear H
  go_enter Try.func7, Try.ntmps7
  go_upto_region 1 with (first | ((with_reducible refine gate_dst (N := 2) rfl ?_); refine box_event ?hg (N := 2) ?hd (cs := #[.slice A0_0 l0_0.length c0_0, .int .i64 a0_1]) (t := 24) ?hr ?_; (case hd => rfl); (case hg => rfl); (case hr => first | (go_simp; done) | (go_simp; rfl)); intro gb115 hg w4 hbox hb; have n0_ := Aside0.mk (Kd.V_below (Kd.V_elderB (by (with_reducible repeat (first | apply Kd.V_alloc | apply Kd.V_drewN | apply Kd.V_drew)); exact HO0_0.out) gb115 (Nat.le_of_eq hg.symm)) hb); have n1_ := hs_ HB hb; have n2_ := Aside0.mk (hbox); have n3_ := hz_ HB hg; have n4_ := hz_ HB hg; clear HO0_0; clear HB; have HO0_0 := n0_; have HB := n1_; have BK115 := n2_; have GW115 := n3_; have GE115 := n4_; clear n0_ n1_ n2_ n3_ n4_; clear hb hbox hg) | ((with_reducible refine gate_dst (N := 3) rfl ?_); refine box_event ?hg (N := 3) ?hd (cs := #[.int .i64 a1_0, .bool a1_1, .int .i64 a1_2, .int .i64 a1_3, .int .i64 a1_4, .bool a1_5]) (t := 26) ?hr ?_; (case hd => rfl); (case hg => rfl); (case hr => first | (go_simp; done) | (go_simp; rfl)); intro gb116 hg w5 hbox hb; have n0_ := Aside0.mk (Kd.V_below (Kd.V_elderB (by (with_reducible repeat (first | apply Kd.V_alloc | apply Kd.V_drewN | apply Kd.V_drew)); exact HO0_0.out) gb116 (Nat.le_of_eq hg.symm)) hb); have n1_ := kb_ BK115 hb; have n2_ := hs_ HB hb; have n3_ := Aside0.mk (hbox); have n4_ := hz_ HB hg; have n5_ := hz_ HB hg; have n6_ := kn_ BK115 hg; have n7_ := kr_ BK115 hg; clear HO0_0; clear BK115; clear HB; have HO0_0 := n0_; have BK115 := n1_; have HB := n2_; have BK116 := n3_; have GW116 := n4_; have GE116 := n5_; have NB115_116 := n6_; have NB116_115 := n7_; clear n0_ n1_ n2_ n3_ n4_ n5_ n6_ n7_; clear hb hbox hg) | ((with_reducible refine gate_dst (N := 4) rfl ?_); refine box_event ?hg (N := 4) ?hd (cs := #[.slice none 0 0, .int .i64 0]) (t := 24) ?hr ?_; (case hd => rfl); (case hg => rfl); (case hr => first | (go_simp; done) | (go_simp; rfl)); intro gb117 hg w6 hbox hb; have n0_ := Aside0.mk (Kd.V_below (Kd.V_elderB (by (with_reducible repeat (first | apply Kd.V_alloc | apply Kd.V_drewN | apply Kd.V_drew)); exact HO0_0.out) gb117 (Nat.le_of_eq hg.symm)) hb); have n1_ := kb_ BK115 hb; have n2_ := kb_ BK116 hb; have n3_ := hs_ HB hb; have n4_ := Aside0.mk (hbox); have n5_ := hz_ HB hg; have n6_ := hz_ HB hg; have n7_ := kn_ BK115 hg; have n8_ := kr_ BK115 hg; have n9_ := kn_ BK116 hg; have n10_ := kr_ BK116 hg; clear HO0_0; clear BK115; clear BK116; clear HB; have HO0_0 := n0_; have BK115 := n1_; have BK116 := n2_; have HB := n3_; have BK117 := n4_; have GW117 := n5_; have GE117 := n6_; have NB115_117 := n7_; have NB117_115 := n8_; have NB116_117 := n9_; have NB117_116 := n10_; clear n0_ n1_ n2_ n3_ n4_ n5_ n6_ n7_ n8_ n9_ n10_; clear hb hbox hg))
  (try simp only [Act.put, List.setIfInBounds_toArray, List.set_cons_zero, List.set_cons_succ])
  go_cut [7] (fun v7 wc => ∃ (kq : Nat) (x7_2 : Bool), v7 = .bool x7_2 ∧ Aside0 (net_Post.j0 kq x7_2 l0_0 a0_1 a1_0 a1_1 a1_2 a1_3 a1_4 a1_5 = some (r1, r2, r3, r4)) ∧ Aside0 (kq ≤ k) ∧ Aside0 (Kd.V k26 26 wc w.heap.size (fun k_ => (P0_0_ k_ ∨ w.heap.size ≤ k_) ∧ k_ ≠ gb115 ∧ k_ ≠ gb116 ∧ k_ ≠ gb117) (.slice A0_0 l0_0.length c0_0) l0_0) ∧ Aside0 (wc.heap[gb115]? = some (.cells #[(.slice A0_0 l0_0.length c0_0), .int .i64 a0_1] 24 (0, 0))) ∧ Aside0 (wc.heap[gb116]? = some (.cells #[.int .i64 a1_0, .bool a1_1, .int .i64 a1_2, .int .i64 a1_3, .int .i64 a1_4, .bool a1_5] 26 (0, 0))) ∧ Aside0 (wc.heap[gb117]? = some (.cells #[(.slice none 0 0), .int .i64 0] 24 (0, 0))) ∧ Aside0 (Below w.heap.size w wc))
  case first =>
    have H := HC3.out
    clear HC3
    replace H := Option.bind_eq_some_iff.mp H
    obtain ⟨t118, A70, H⟩ := H
    replace H : (if t118 = true then ((net_may.f a1_0 a1_1 a1_2 a1_3 a1_4 a1_5).bind fun t119 => (net_Post.j0 k (!t119) l0_0 a0_1 a1_0 a1_1 a1_2 a1_3 a1_4 a1_5)) else (net_Post.j0 k true l0_0 a0_1 a1_0 a1_1 a1_2 a1_3 a1_4 a1_5)) = some (r1, r2, r3, r4) := H
    have A7 := Aside0.mk A70
    clear A70
    by_cases c8 : t118 = true
    · subst c8
      have H1 : ((net_may.f a1_0 a1_1 a1_2 a1_3 a1_4 a1_5).bind fun t119 => (net_Post.j0 k (!t119) l0_0 a0_1 a1_0 a1_1 a1_2 a1_3 a1_4 a1_5)) = some (r1, r2, r3, r4) := by rw [if_pos rfl] at H; exact H
      clear H
      have H := H1
      clear H1
      replace H := Option.bind_eq_some_iff.mp H
      obtain ⟨t119, A90, H⟩ := H
      replace H : (net_Post.j0 k (!t119) l0_0 a0_1 a1_0 a1_1 a1_2 a1_3 a1_4 a1_5) = some (r1, r2, r3, r4) := H
      have A9 := Aside0.mk A90
      clear A90
      have H' := Aside0.mk H
      clear H
      have hnb10 := NB115_116.out
      have hnc10 := NB116_115.out
      have hnb11 := NB115_117.out
      have hnc11 := NB117_115.out
      have hcz12_0 : w6.cell? ⟨gb115, 0, none⟩ = some (.slice A0_0 l0_0.length c0_0) := (blk_cell BK115.out 0).trans rfl
      have hcz12_1 : w6.cell? ⟨gb115, 1, none⟩ = some (.int .i64 a0_1) := (blk_cell BK115.out 1).trans rfl
      have hfz12_0 := blk_frozen BK115.out 0
      have hfz12_1 := blk_frozen BK115.out 1
      go_wp2_with (first | ((with_reducible refine gate_callee (f := 11) rfl ?_); refine goesL_ (some 9) rfl rfl Try.func11 (by kernel_rfl) rfl #[.agg #[.slice A0_0 l0_0.length c0_0, .int .i64 a0_1]] rfl (by (try simp only [List.map_toArray, List.map_cons, List.map_nil]); first | done | rfl | (simp only [List.length_drop, List.length_take]; rfl)) ?_; (with_reducible refine (net_Right.calls k _ _ l0_0 a0_1 true _ ?side1 ?side2 A7.out).mono ?_); (case side1 => repeat (first | exact (Kd.V_reads' HO0_0.out).2.2 | (with_reducible refine Kd.C_alloc ?_ _) | (with_reducible refine Kd.C_drewN ?_ _) | (with_reducible refine Kd.C_drew ?_))); (case side2 => exact (Kd.V_reads' HO0_0.out).2.1); rintro e w13 ⟨rfl, hb⟩; refine ⟨_, rfl, ?_⟩; have n0_ := Aside0.mk (Kd.V_below (by (with_reducible repeat (first | apply Kd.V_alloc | apply Kd.V_drewN | apply Kd.V_drew)); exact HO0_0.out) hb); have n1_ := kb_ BK115 hb; have n2_ := kb_ BK116 hb; have n3_ := kb_ BK117 hb; have n4_ := hs_ HB hb; clear HO0_0; clear BK115; clear BK116; clear BK117; clear HB; have HO0_0 := n0_; have BK115 := n1_; have BK116 := n2_; have BK117 := n3_; have HB := n4_; clear n0_ n1_ n2_ n3_ n4_; (try clear hb); (try clear hb2); (try clear hk); (try clear hi); have hnb14 := NB116_117.out; have hnc14 := NB117_116.out; have hcz15_0 : w13.cell? ⟨gb116, 0, none⟩ = some (.int .i64 a1_0) := (blk_cell BK116.out 0).trans rfl; have hcz15_1 : w13.cell? ⟨gb116, 1, none⟩ = some (.bool a1_1) := (blk_cell BK116.out 1).trans rfl; have hcz15_2 : w13.cell? ⟨gb116, 2, none⟩ = some (.int .i64 a1_2) := (blk_cell BK116.out 2).trans rfl; have hcz15_3 : w13.cell? ⟨gb116, 3, none⟩ = some (.int .i64 a1_3) := (blk_cell BK116.out 3).trans rfl; have hcz15_4 : w13.cell? ⟨gb116, 4, none⟩ = some (.int .i64 a1_4) := (blk_cell BK116.out 4).trans rfl; have hcz15_5 : w13.cell? ⟨gb116, 5, none⟩ = some (.bool a1_5) := (blk_cell BK116.out 5).trans rfl; have hfz15_0 := blk_frozen BK116.out 0; have hfz15_1 := blk_frozen BK116.out 1; have hfz15_2 := blk_frozen BK116.out 2; have hfz15_3 := blk_frozen BK116.out 3; have hfz15_4 := blk_frozen BK116.out 4; have hfz15_5 := blk_frozen BK116.out 5) | (go_at_call 16; (with_reducible refine (net_may.calls a1_0 a1_1 a1_2 a1_3 a1_4 a1_5 t119 _ A9.out).mono ?_); rintro e w16 ⟨rfl, hb⟩; have n0_ := Aside0.mk (Kd.V_below (by (with_reducible repeat (first | apply Kd.V_alloc | apply Kd.V_drewN | apply Kd.V_drew)); exact HO0_0.out) hb); have n1_ := kb_ BK115 hb; have n2_ := kb_ BK116 hb; have n3_ := kb_ BK117 hb; have n4_ := hs_ HB hb; clear HO0_0; clear BK115; clear BK116; clear BK117; clear HB; have HO0_0 := n0_; have BK115 := n1_; have BK116 := n2_; have BK117 := n3_; have HB := n4_; clear n0_ n1_ n2_ n3_ n4_; (try clear hb); (try clear hb2); (try clear hk); (try clear hi)))
      go_meet
      case rel =>
        refine ⟨_, (!t119), (by first | rfl | (simp; done) | (simp [*]; done)), H', ⟨?_⟩, ⟨?_⟩, ⟨?_⟩, ⟨?_⟩, ⟨?_⟩, ⟨?_⟩⟩
        · first | omega | exact Nat.le_refl _
        · (with_reducible repeat (first | apply Kd.V_alloc | apply Kd.V_drewN | apply Kd.V_drew)); exact Kd.V_mono HO0_0.out (fun _ hk => ⟨hk.1.1.1, ⟨hk.1.1.2, ⟨hk.1.2, hk.2⟩⟩⟩)
        · exact kk_ BK115
        · exact kk_ BK116
        · exact kk_ BK117
        · exact hh_ HB
    · replace c8 := Bool.eq_false_iff.mpr c8
      subst c8
      have H1 : (net_Post.j0 k true l0_0 a0_1 a1_0 a1_1 a1_2 a1_3 a1_4 a1_5) = some (r1, r2, r3, r4) := by rw [if_neg (show ¬ (false = true) by decide)] at H; exact H
      clear H
      have H := H1
      clear H1
      have H' := Aside0.mk H
      clear H
      have hnb17 := NB115_116.out
      have hnc17 := NB116_115.out
      have hnb18 := NB115_117.out
      have hnc18 := NB117_115.out
      have hcz19_0 : w6.cell? ⟨gb115, 0, none⟩ = some (.slice A0_0 l0_0.length c0_0) := (blk_cell BK115.out 0).trans rfl
      have hcz19_1 : w6.cell? ⟨gb115, 1, none⟩ = some (.int .i64 a0_1) := (blk_cell BK115.out 1).trans rfl
      have hfz19_0 := blk_frozen BK115.out 0
      have hfz19_1 := blk_frozen BK115.out 1
      go_wp2_with (first | ((with_reducible refine gate_callee (f := 11) rfl ?_); refine goesL_ (some 9) rfl rfl Try.func11 (by kernel_rfl) rfl #[.agg #[.slice A0_0 l0_0.length c0_0, .int .i64 a0_1]] rfl (by (try simp only [List.map_toArray, List.map_cons, List.map_nil]); first | done | rfl | (simp only [List.length_drop, List.length_take]; rfl)) ?_; (with_reducible refine (net_Right.calls k _ _ l0_0 a0_1 false _ ?side1 ?side2 A7.out).mono ?_); (case side1 => repeat (first | exact (Kd.V_reads' HO0_0.out).2.2 | (with_reducible refine Kd.C_alloc ?_ _) | (with_reducible refine Kd.C_drewN ?_ _) | (with_reducible refine Kd.C_drew ?_))); (case side2 => exact (Kd.V_reads' HO0_0.out).2.1); rintro e w20 ⟨rfl, hb⟩; refine ⟨_, rfl, ?_⟩; have n0_ := Aside0.mk (Kd.V_below (by (with_reducible repeat (first | apply Kd.V_alloc | apply Kd.V_drewN | apply Kd.V_drew)); exact HO0_0.out) hb); have n1_ := kb_ BK115 hb; have n2_ := kb_ BK116 hb; have n3_ := kb_ BK117 hb; have n4_ := hs_ HB hb; clear HO0_0; clear BK115; clear BK116; clear BK117; clear HB; have HO0_0 := n0_; have BK115 := n1_; have BK116 := n2_; have BK117 := n3_; have HB := n4_; clear n0_ n1_ n2_ n3_ n4_; (try clear hb); (try clear hb2); (try clear hk); (try clear hi)))
      go_meet
      case rel =>
        refine ⟨_, (true), (by first | rfl | (simp; done) | (simp [*]; done)), H', ⟨?_⟩, ⟨?_⟩, ⟨?_⟩, ⟨?_⟩, ⟨?_⟩, ⟨?_⟩⟩
        · first | omega | exact Nat.le_refl _
        · (with_reducible repeat (first | apply Kd.V_alloc | apply Kd.V_drewN | apply Kd.V_drew)); exact Kd.V_mono HO0_0.out (fun _ hk => ⟨hk.1.1.1, ⟨hk.1.1.2, ⟨hk.1.2, hk.2⟩⟩⟩)
        · exact kk_ BK115
        · exact kk_ BK116
        · exact kk_ BK117
        · exact hh_ HB
  case rest =>
    clear HC3
    try clear c1
    try clear p2
    try clear c7
    try clear c8
    try clear c10
    try clear c11
    try clear c14
    try clear c17
    try clear c18
    try clear hcz12_0
    try clear hcz12_1
    try clear hcz15_0
    try clear hcz15_1
    try clear hcz15_2
    try clear hcz15_3
    try clear hcz15_4
    try clear hcz15_5
    try clear hcz19_0
    try clear hcz19_1
    try clear hfz12_0
    try clear hfz12_1
    try clear hfz15_0
    try clear hfz15_1
    try clear hfz15_2
    try clear hfz15_3
    try clear hfz15_4
    try clear hfz15_5
    try clear hfz19_0
    try clear hfz19_1
    obtain ⟨kq, x7_2, rfl, HA, HJ2, HO_116000, BK115, BK116, BK117, HB⟩ := hcut
    cases kq with
    | zero => exact absurd HA.out (by simp [net_Post.j0])
    | succ kj2 =>
      have H := HA.out
      clear HA
      simp only [net_Post.j0] at H
      by_cases c21 : x7_2 = true
      · subst c21
        have H1 : (some (([] : List (S26)), 0, 0, 1)) = some (r1, r2, r3, r4) := by rw [if_pos rfl] at H; exact H
        clear H
        have H := H1
        clear H1
        simp only [Option.some.injEq, Prod.mk.injEq] at H
        obtain ⟨rfl, rfl, rfl, rfl⟩ := H
        have hnb22 := NB117_115.out
        have hnc22 := NB115_117.out
        have hnb23 := NB117_116.out
        have hnc23 := NB116_117.out
        have hcz24_0 : wc.cell? ⟨gb117, 0, none⟩ = some (.slice none 0 0) := (blk_cell BK117.out 0).trans rfl
        have hcz24_1 : wc.cell? ⟨gb117, 1, none⟩ = some (.int .i64 0) := (blk_cell BK117.out 1).trans rfl
        have hfz24_0 := blk_frozen BK117.out 0
        have hfz24_1 := blk_frozen BK117.out 1
        go_wp2
        refine bodyPost_ret (results_ctt rfl _ _ gb117 24 #[.slice none 0 0, .int .i64 0] (0, 0) _ rfl (by (with_reducible repeat (first | refine blk_drewN ?_ _ | refine blk_drew ?_ | refine blk_alloc ?_ _)); refine blk_put (cs := #[.slice none 0 0, .int .i64 0]) ?_ 1 _ rfl; (with_reducible repeat (first | refine blk_drewN ?_ _ | refine blk_drew ?_ | refine blk_alloc ?_ _)); refine blk_put (cs := #[.slice none 0 0, .int .i64 0]) ?_ 0 _ rfl; (with_reducible repeat (first | refine blk_drewN ?_ _ | refine blk_drew ?_ | refine blk_alloc ?_ _)); exact BK117.out) Try.underlying24 rfl (by kernel_rfl)) rfl ?_
        exact ⟨_, by first | rfl | (simp [errW_none, errW_some] <;> rfl) | (simp [*, errW_none, errW_some] <;> rfl), Kd.V_nil _ _ _ _ _, by repeat (first | (with_reducible first | exact HB.out | apply below_alloc | apply pw_below_drewN | apply below_drew1 | refine below_set ?_ GE115.out | refine below_set ?_ GE116.out | refine below_set ?_ GE117.out) | exact HB.out)⟩
      · replace c21 := Bool.eq_false_iff.mpr c21
        subst c21
        have H1 : (if (l0_0.length : Int) = 64 then (net_Post.j1 kj2 true l0_0 a0_1 a1_0 a1_1 a1_2 a1_3 a1_4 a1_5) else (net_Post.j1 kj2 (a0_1 == 1099511627776) l0_0 a0_1 a1_0 a1_1 a1_2 a1_3 a1_4 a1_5)) = some (r1, r2, r3, r4) := by rw [if_neg (show ¬ (false = true) by decide)] at H; exact H
        clear H
        have H := H1
        clear H1
        have HC25 := Aside0.mk H
        clear H
        go_upto_region 3 with (fail)
        go_cut [17] (fun v17 wc => ∃ (kq : Nat) (x17_24 : Bool), v17 = .bool x17_24 ∧ Aside0 (net_Post.j1 kq x17_24 l0_0 a0_1 a1_0 a1_1 a1_2 a1_3 a1_4 a1_5 = some (r1, r2, r3, r4)) ∧ Aside0 (kq ≤ kj2) ∧ Aside0 (Kd.V k26 26 wc w.heap.size (fun k_ => (P0_0_ k_ ∨ w.heap.size ≤ k_) ∧ k_ ≠ gb115 ∧ k_ ≠ gb116 ∧ k_ ≠ gb117) (.slice A0_0 l0_0.length c0_0) l0_0) ∧ Aside0 (wc.heap[gb115]? = some (.cells #[(.slice A0_0 l0_0.length c0_0), .int .i64 a0_1] 24 (0, 0))) ∧ Aside0 (wc.heap[gb116]? = some (.cells #[.int .i64 a1_0, .bool a1_1, .int .i64 a1_2, .int .i64 a1_3, .int .i64 a1_4, .bool a1_5] 26 (0, 0))) ∧ Aside0 (wc.heap[gb117]? = some (.cells #[(.slice none 0 0), .int .i64 0] 24 (0, 0))) ∧ Aside0 (Below w.heap.size w wc))
        case first =>
          have H := HC25.out
          clear HC25
          by_cases c26 : (l0_0.length : Int) = 64
          · rw [if_pos c26] at H
            have c26b0 : ((l0_0.length : Int) == 64) = true := beq_iff_eq.mpr c26
            have c26b1 : ((l0_0.length : Int) != 64) = false := bne_eq_false_iff_eq.mpr c26
            clear c26
            (first | rw [c26b0] | (simp only [i64_w, i32_w]; rw [c26b0]) | skip)
            have H' := Aside0.mk H
            clear H
            have hnb27 := NB115_116.out
            have hnc27 := NB116_115.out
            have hnb28 := NB115_117.out
            have hnc28 := NB117_115.out
            have hcz29_0 : wc.cell? ⟨gb115, 0, none⟩ = some (.slice A0_0 l0_0.length c0_0) := (blk_cell BK115.out 0).trans rfl
            have hcz29_1 : wc.cell? ⟨gb115, 1, none⟩ = some (.int .i64 a0_1) := (blk_cell BK115.out 1).trans rfl
            have hfz29_0 := blk_frozen BK115.out 0
            have hfz29_1 := blk_frozen BK115.out 1
            go_wp2
            go_meet
            case rel =>
              refine ⟨_, (true), (by first | rfl | (simp; done) | (simp [*]; done)), H', ⟨?_⟩, ⟨?_⟩, ⟨?_⟩, ⟨?_⟩, ⟨?_⟩, ⟨?_⟩⟩
              · have := HJ2.out; first | omega | exact Nat.le_refl _
              · (with_reducible repeat (first | apply Kd.V_alloc | apply Kd.V_drewN | apply Kd.V_drew)); exact HO_116000.out
              · exact kk_ BK115
              · exact kk_ BK116
              · exact kk_ BK117
              · exact hh_ HB
          · rw [if_neg c26] at H
            have c26b0 : ((l0_0.length : Int) == 64) = false := beq_eq_false_iff_ne.mpr c26
            have c26b1 : ((l0_0.length : Int) != 64) = true := bne_iff_ne.mpr c26
            (first | rw [c26b0] | (simp only [i64_w, i32_w]; rw [c26b0]) | skip)
            have H' := Aside0.mk H
            clear H
            have hnb30 := NB115_116.out
            have hnc30 := NB116_115.out
            have hnb31 := NB115_117.out
            have hnc31 := NB117_115.out
            have hcz32_0 : wc.cell? ⟨gb115, 0, none⟩ = some (.slice A0_0 l0_0.length c0_0) := (blk_cell BK115.out 0).trans rfl
            have hcz32_1 : wc.cell? ⟨gb115, 1, none⟩ = some (.int .i64 a0_1) := (blk_cell BK115.out 1).trans rfl
            have hfz32_0 := blk_frozen BK115.out 0
            have hfz32_1 := blk_frozen BK115.out 1
            go_wp2
            go_meet
            case rel =>
              refine ⟨_, ((a0_1 == 1099511627776)), (by first | rfl | (simp; done) | (simp [*]; done)), H', ⟨?_⟩, ⟨?_⟩, ⟨?_⟩, ⟨?_⟩, ⟨?_⟩, ⟨?_⟩⟩
              · have := HJ2.out; first | omega | exact Nat.le_refl _
              · (with_reducible repeat (first | apply Kd.V_alloc | apply Kd.V_drewN | apply Kd.V_drew)); exact HO_116000.out
              · exact kk_ BK115
              · exact kk_ BK116
              · exact kk_ BK117
              · exact hh_ HB
        case rest =>
          clear HC25
          try clear c1
          try clear c2
          try clear p2
          try clear c3
          try clear c7
          try clear c8
          try clear c10
          try clear c11
          try clear c14
          try clear c17
          try clear c18
          try clear c21
          try clear c22
          try clear c23
          try clear c26
          try clear c26b0
          try clear c26b1
          try clear c27
          try clear c28
          try clear c30
          try clear c31
          try clear hcz12_0
          try clear hcz12_1
          try clear hcz15_0
          try clear hcz15_1
          try clear hcz15_2
          try clear hcz15_3
          try clear hcz15_4
          try clear hcz15_5
          try clear hcz19_0
          try clear hcz19_1
          try clear hcz24_0
          try clear hcz24_1
          try clear hcz29_0
          try clear hcz29_1
          try clear hcz32_0
          try clear hcz32_1
          try clear hfz12_0
          try clear hfz12_1
          try clear hfz15_0
          try clear hfz15_1
          try clear hfz15_2
          try clear hfz15_3
          try clear hfz15_4
          try clear hfz15_5
          try clear hfz19_0
          try clear hfz19_1
          try clear hfz24_0
          try clear hfz24_1
          try clear hfz29_0
          try clear hfz29_1
          try clear hfz32_0
          try clear hfz32_1
          try clear p2
          obtain ⟨kq, x17_24, rfl, HA, HJ24, HO_116000, BK115, BK116, BK117, HB⟩ := hcut
          cases kq with
          | zero => exact absurd HA.out (by simp [net_Post.j1])
          | succ kj24 =>
            have H := HA.out
            clear HA
            simp only [net_Post.j1] at H
            by_cases c33 : x17_24 = true
            · subst c33
              have H1 : (some (([] : List (S26)), 0, 0, 7)) = some (r1, r2, r3, r4) := by rw [if_pos rfl] at H; exact H
              clear H
              have H := H1
              clear H1
              simp only [Option.some.injEq, Prod.mk.injEq] at H
              obtain ⟨rfl, rfl, rfl, rfl⟩ := H
              have hnb34 := NB117_115.out
              have hnc34 := NB115_117.out
              have hnb35 := NB117_116.out
              have hnc35 := NB116_117.out
              have hcz36_0 : wc.cell? ⟨gb117, 0, none⟩ = some (.slice none 0 0) := (blk_cell BK117.out 0).trans rfl
              have hcz36_1 : wc.cell? ⟨gb117, 1, none⟩ = some (.int .i64 0) := (blk_cell BK117.out 1).trans rfl
              have hfz36_0 := blk_frozen BK117.out 0
              have hfz36_1 := blk_frozen BK117.out 1
              go_wp2
              refine bodyPost_ret (results_ctt rfl _ _ gb117 24 #[.slice none 0 0, .int .i64 0] (0, 0) _ rfl (by (with_reducible repeat (first | refine blk_drewN ?_ _ | refine blk_drew ?_ | refine blk_alloc ?_ _)); refine blk_put (cs := #[.slice none 0 0, .int .i64 0]) ?_ 1 _ rfl; (with_reducible repeat (first | refine blk_drewN ?_ _ | refine blk_drew ?_ | refine blk_alloc ?_ _)); refine blk_put (cs := #[.slice none 0 0, .int .i64 0]) ?_ 0 _ rfl; (with_reducible repeat (first | refine blk_drewN ?_ _ | refine blk_drew ?_ | refine blk_alloc ?_ _)); exact BK117.out) Try.underlying24 rfl (by kernel_rfl)) rfl ?_
              exact ⟨_, by first | rfl | (simp [errW_none, errW_some] <;> rfl) | (simp [*, errW_none, errW_some] <;> rfl), Kd.V_nil _ _ _ _ _, by repeat (first | (with_reducible first | exact HB.out | apply below_alloc | apply pw_below_drewN | apply below_drew1 | refine below_set ?_ GE115.out | refine below_set ?_ GE116.out | refine below_set ?_ GE117.out) | exact HB.out)⟩
            · replace c33 := Bool.eq_false_iff.mpr c33
              subst c33
              have H1 : ((net_behind.f l0_0 (([(⟨wrap64 (a0_1 + 1), a1_1, a1_2, a1_3, a1_4, a1_5⟩ : S26)] : List (S26)))).bind fun t123 => (some (t123, wrap64 (a0_1 + 1), wrap64 (a0_1 + 1), 0))) = some (r1, r2, r3, r4) := by rw [if_neg (show ¬ (false = true) by decide)] at H; exact H
              clear H
              have H := H1
              clear H1
              obtain ⟨y120, hy120⟩ : ∃ y_ : List (S26), y_ = (([(⟨wrap64 (a0_1 + 1), a1_1, a1_2, a1_3, a1_4, a1_5⟩ : S26)] : List (S26))) := ⟨_, rfl⟩
              replace H : ((net_behind.f l0_0 y120).bind fun t123 => (some (t123, wrap64 (a0_1 + 1), wrap64 (a0_1 + 1), 0))) = some (r1, r2, r3, r4) := by first | (rw [hy120]; with_reducible exact H) | (have H2_ := (Option.bind_some _ _).symm.trans H; rw [hy120]; with_reducible exact H2_) | (have H2_ := (Option.bind_some _ _).symm.trans H; with_reducible exact H2_) | with_reducible exact H | (rw [hy120]; exact H) | exact H
              have Ny120 := Aside0.mk hy120
              clear hy120
              replace H := Option.bind_eq_some_iff.mp H
              obtain ⟨t123, A370, H⟩ := H
              replace H : (some (t123, wrap64 (a0_1 + 1), wrap64 (a0_1 + 1), 0)) = some (r1, r2, r3, r4) := H
              have A37 := Aside0.mk A370
              clear A370
              simp only [Option.some.injEq, Prod.mk.injEq] at H
              obtain ⟨rfl, rfl, rfl, rfl⟩ := H
              have hnb38 := NB115_116.out
              have hnc38 := NB116_115.out
              have hnb39 := NB115_117.out
              have hnc39 := NB117_115.out
              have hcz40_0 : wc.cell? ⟨gb115, 0, none⟩ = some (.slice A0_0 l0_0.length c0_0) := (blk_cell BK115.out 0).trans rfl
              have hcz40_1 : wc.cell? ⟨gb115, 1, none⟩ = some (.int .i64 a0_1) := (blk_cell BK115.out 1).trans rfl
              have hfz40_0 := blk_frozen BK115.out 0
              have hfz40_1 := blk_frozen BK115.out 1
              have hnb41 := NB116_117.out
              have hnc41 := NB117_116.out
              have hcz42_0 : wc.cell? ⟨gb116, 0, none⟩ = some (.int .i64 a1_0) := (blk_cell BK116.out 0).trans rfl
              have hcz42_1 : wc.cell? ⟨gb116, 1, none⟩ = some (.bool a1_1) := (blk_cell BK116.out 1).trans rfl
              have hcz42_2 : wc.cell? ⟨gb116, 2, none⟩ = some (.int .i64 a1_2) := (blk_cell BK116.out 2).trans rfl
              have hcz42_3 : wc.cell? ⟨gb116, 3, none⟩ = some (.int .i64 a1_3) := (blk_cell BK116.out 3).trans rfl
              have hcz42_4 : wc.cell? ⟨gb116, 4, none⟩ = some (.int .i64 a1_4) := (blk_cell BK116.out 4).trans rfl
              have hcz42_5 : wc.cell? ⟨gb116, 5, none⟩ = some (.bool a1_5) := (blk_cell BK116.out 5).trans rfl
              have hfz42_0 := blk_frozen BK116.out 0
              have hfz42_1 := blk_frozen BK116.out 1
              have hfz42_2 := blk_frozen BK116.out 2
              have hfz42_3 := blk_frozen BK116.out 3
              have hfz42_4 := blk_frozen BK116.out 4
              have hfz42_5 := blk_frozen BK116.out 5
              try go_wp2_with (first | ((with_reducible refine gate_dst (N := 38) rfl ?_); refine Kd.R_lit k26 _ 26 ?hg (N := 38) ?hd (xs := ([(⟨wrap64 (a0_1 + 1), a1_1, a1_2, a1_3, a1_4, a1_5⟩ : S26)] : List (S26))) (inner := [.int .i64 (wrap64 (a0_1 + 1)), .bool a1_1, .int .i64 a1_2, .int .i64 a1_3, .int .i64 a1_4, .bool a1_5]) (ok := fun _ => True) (okp := fun _ => True) ?hr ?hp (fun _ hk => hk) trivial (Below.refl _ _) (Nat.le_refl _) (by simp) ?_; (case hd => rfl); (case hg => rfl); (case hr => first | (go_simp; done) | (go_simp; rfl)); (case hp => exact (Reps.c6 (show Kd.M k26 _ _ _ (⟨wrap64 (a0_1 + 1), a1_1, a1_2, a1_3, a1_4, a1_5⟩ : S26) [.int .i64 (wrap64 (a0_1 + 1)), .bool a1_1, .int .i64 a1_2, .int .i64 a1_3, .int .i64 a1_4, .bool a1_5] from (k26_mkM _ _ _ (⟨wrap64 (a0_1 + 1), a1_1, a1_2, a1_3, a1_4, a1_5⟩ : S26) )) (Reps.none _ _))); intro v121 w43 ho44 hb hg_ hnew_; clear hg_ hnew_; (first | rw [← Ny120.out] at ho44 | (simp only [Int.reduceToNat] at ho44; rw [← Ny120.out] at ho44)); have n0_ := Aside0.mk (Kd.V_elder' (by (with_reducible repeat (first | apply Kd.V_alloc | apply Kd.V_drewN | apply Kd.V_drew)); exact (Kd.V_mono (Kd.V_mono (Kd.V_far (p := ⟨gb116, 0, none⟩) (Kd.V_far (p := ⟨gb115, 1, none⟩) (Kd.V_mono (Kd.V_mono HO_116000.out (fun k_ hk => (⟨hk, hk.2.1⟩ : _ ∧ k_ ≠ gb115))) (fun k_ hk => (⟨hk, hk.1.2.2.1⟩ : _ ∧ k_ ≠ gb116))) (fun _ hk => hk.1.2) (.int .i64 (wrap64 (a0_1 + 1)))) (fun _ hk => hk.2) (.int .i64 (wrap64 (a0_1 + 1)))) (fun _ h_ => h_.1)) (fun _ h_ => h_.1))) (Kd.R_base ho44) hb); have n1_ := Aside0.mk (Kd.R_lower (Kd.R_newB (Kd.R_newM (M := fun k_ => (w.heap.size ≤ k_)) ho44 (below_size (by repeat (first | (with_reducible first | exact HB.out | apply below_alloc | apply pw_below_drewN | apply below_drew1 | refine below_set ?_ GE115.out | refine below_set ?_ GE116.out | refine below_set ?_ GE117.out) | exact HB.out))) (fun k_ h_ => h_)) (g := gb116) (o := .cells #[.int .i64 (wrap64 (a0_1 + 1)), .bool a1_1, .int .i64 a1_2, .int .i64 a1_3, .int .i64 a1_4, .bool a1_5] 26 (0, 0)) (by (with_reducible repeat (first | refine blk_drewN ?_ _ | refine blk_drew ?_ | refine blk_alloc ?_ _)); refine blk_put (cs := #[.int .i64 a1_0, .bool a1_1, .int .i64 a1_2, .int .i64 a1_3, .int .i64 a1_4, .bool a1_5]) ?_ 0 _ rfl; (with_reducible repeat (first | refine blk_drewN ?_ _ | refine blk_drew ?_ | refine blk_alloc ?_ _)); refine blk_far ?_ NB116_115.out _; (with_reducible repeat (first | refine blk_drewN ?_ _ | refine blk_drew ?_ | refine blk_alloc ?_ _)); exact BK116.out)) (below_size (by repeat (first | (with_reducible first | exact HB.out | apply below_alloc | apply pw_below_drewN | apply below_drew1 | refine below_set ?_ GE115.out | refine below_set ?_ GE116.out | refine below_set ?_ GE117.out) | exact HB.out)))); have n2_ := Aside0.mk (blk_below (g := gb115) (o := .cells #[.slice A0_0 l0_0.length c0_0, .int .i64 (wrap64 (a0_1 + 1))] 24 (0, 0)) (by (with_reducible repeat (first | refine blk_drewN ?_ _ | refine blk_drew ?_ | refine blk_alloc ?_ _)); refine blk_far ?_ NB115_116.out _; (with_reducible repeat (first | refine blk_drewN ?_ _ | refine blk_drew ?_ | refine blk_alloc ?_ _)); refine blk_put (cs := #[.slice A0_0 l0_0.length c0_0, .int .i64 a0_1]) ?_ 1 _ rfl; (with_reducible repeat (first | refine blk_drewN ?_ _ | refine blk_drew ?_ | refine blk_alloc ?_ _)); exact BK115.out) hb); have n3_ := Aside0.mk (blk_below (g := gb116) (o := .cells #[.int .i64 (wrap64 (a0_1 + 1)), .bool a1_1, .int .i64 a1_2, .int .i64 a1_3, .int .i64 a1_4, .bool a1_5] 26 (0, 0)) (by (with_reducible repeat (first | refine blk_drewN ?_ _ | refine blk_drew ?_ | refine blk_alloc ?_ _)); refine blk_put (cs := #[.int .i64 a1_0, .bool a1_1, .int .i64 a1_2, .int .i64 a1_3, .int .i64 a1_4, .bool a1_5]) ?_ 0 _ rfl; (with_reducible repeat (first | refine blk_drewN ?_ _ | refine blk_drew ?_ | refine blk_alloc ?_ _)); refine blk_far ?_ NB116_115.out _; (with_reducible repeat (first | refine blk_drewN ?_ _ | refine blk_drew ?_ | refine blk_alloc ?_ _)); exact BK116.out) hb); have n4_ := kb_ BK117 hb; have n5_ := hs_ HB hb; clear HO_116000; clear BK115; clear BK116; clear BK117; clear HB; have HO_116000 := n0_; have HO122 := n1_; have BK115 := n2_; have BK116 := n3_; have BK117 := n4_; have HB := n5_; clear n0_ n1_ n2_ n3_ n4_ n5_; clear hb ho44; obtain ⟨Ao45, co45, eo45⟩ := Kd.R_slice HO122.out; subst eo45) | ((with_reducible refine gate_callee (f := 17) rfl ?_); refine goesL_ (some 39) rfl rfl Try.func17 (by kernel_rfl) rfl #[.slice A0_0 l0_0.length c0_0, .slice Ao45 y120.length co45] rfl (by (try simp only [List.map_toArray, List.map_cons, List.map_nil]); first | done | rfl | (simp only [List.length_drop, List.length_take]; rfl)) ?_; (with_reducible refine (net_behind.calls (fun k_ => (((P0_0_ k_ ∨ w.heap.size ≤ k_) ∧ (k_ ≠ gb115 ∧ (k_ ≠ gb116 ∧ k_ ≠ gb117))) ∧ some k_ ≠ (.slice Ao45 y120.length co45 : Value).ownBlock)) _ _ l0_0 _ _ y120 t123 _ ?side1 ?side2 ?side3 A37.out).mono ?_); (case side1 => exact HO_116000.out); (case side2 => repeat (first | exact (Kd.R_reads' HO122.out).2.2 | (with_reducible refine Kd.C_alloc ?_ _) | (with_reducible refine Kd.C_drewN ?_ _) | (with_reducible refine Kd.C_drew ?_))); (case side3 => exact (Kd.R_reads' HO122.out).2.1); rintro e w46 ⟨v124, rfl, ho0, hb⟩; refine ⟨_, rfl, ?_⟩; have n0_ := Aside0.mk (Kd.V_below (by (with_reducible repeat (first | apply Kd.V_alloc | apply Kd.V_drewN | apply Kd.V_drew)); exact HO_116000.out) hb); have n1_ := Aside0.mk (Kd.R_below (by (with_reducible repeat (first | apply Kd.R_alloc | apply Kd.R_drewN | apply Kd.R_drew)); exact HO122.out) hb); have n2_ := Aside0.mk (Kd.V_lower (Kd.V_mono (ok' := fun k_ => (P0_0_ k_ ∨ w.heap.size ≤ k_) ∧ some k_ ≠ (.slice Ao45 y120.length co45 : Value).ownBlock ∧ k_ ≠ gb115 ∧ k_ ≠ gb116 ∧ k_ ≠ gb117) ho0 (fun k_ hk_ => ⟨Or.elim hk_ (fun hs_ => hs_.1.1) (fun hn_ => (.inr (Nat.le_trans (below_size (by repeat (first | (with_reducible first | exact HB.out | apply below_alloc | apply pw_below_drewN | apply below_drew1 | refine below_set ?_ GE115.out | refine below_set ?_ GE116.out | refine below_set ?_ GE117.out) | exact HB.out))) hn_))), Or.elim hk_ (fun hs_ => hs_.2) (fun hn_ => (Kd.fresh' (Kd.R_lt (by (with_reducible repeat (first | apply Kd.R_alloc | apply Kd.R_drewN | apply Kd.R_drew)); exact HO122.out)) k_ hn_)), Or.elim hk_ (fun hs_ => hs_.1.2.1) (fun hn_ => (Kd.freshB (g := gb115) (o := .cells #[.slice A0_0 l0_0.length c0_0, .int .i64 (wrap64 (a0_1 + 1))] 24 (0, 0)) (by exact kk_ BK115) k_ hn_)), Or.elim hk_ (fun hs_ => hs_.1.2.2.1) (fun hn_ => (Kd.freshB (g := gb116) (o := .cells #[.int .i64 (wrap64 (a0_1 + 1)), .bool a1_1, .int .i64 a1_2, .int .i64 a1_3, .int .i64 a1_4, .bool a1_5] 26 (0, 0)) (by exact kk_ BK116) k_ hn_)), Or.elim hk_ (fun hs_ => hs_.1.2.2.2) (fun hn_ => (Kd.freshB (g := gb117) (o := .cells #[.slice none 0 0, .int .i64 0] 24 (0, 0)) (by exact kk_ BK117) k_ hn_))⟩)) (below_size (by repeat (first | (with_reducible first | exact HB.out | apply below_alloc | apply pw_below_drewN | apply below_drew1 | refine below_set ?_ GE115.out | refine below_set ?_ GE116.out | refine below_set ?_ GE117.out) | exact HB.out)))); have n3_ := kb_ BK115 hb; have n4_ := kb_ BK116 hb; have n5_ := kb_ BK117 hb; have n6_ := hs_ HB hb; clear HO_116000; clear HO122; clear BK115; clear BK116; clear BK117; clear HB; have HO_116000 := n0_; have HO122 := n1_; have HO125 := n2_; have BK115 := n3_; have BK116 := n4_; have BK117 := n5_; have HB := n6_; clear n0_ n1_ n2_ n3_ n4_ n5_ n6_; (try clear hb); (try clear hb2); (try clear hk); (try clear hi); (try clear ho0); obtain ⟨Ao47, co47, eo47⟩ := Kd.V_slice HO125.out; subst eo47; have hcz48_0 : w46.cell? ⟨gb115, 0, none⟩ = some (.slice A0_0 l0_0.length c0_0) := (blk_cell BK115.out 0).trans rfl; have hcz48_1 : w46.cell? ⟨gb115, 1, none⟩ = some (.int .i64 (wrap64 (a0_1 + 1))) := (blk_cell BK115.out 1).trans rfl; have hfz48_0 := blk_frozen BK115.out 0; have hfz48_1 := blk_frozen BK115.out 1))
              have n0_ : Aside0 (Kd.V k26 26 (w46.setCell ⟨gb115, 0, none⟩ (.slice Ao47 t123.length co47)) w.heap.size (fun k_ => (P0_0_ k_ ∨ w.heap.size ≤ k_) ∧ some k_ ≠ (.slice Ao45 y120.length co45 : Value).ownBlock ∧ k_ ≠ gb115 ∧ k_ ≠ gb116 ∧ k_ ≠ gb117) (.slice A0_0 l0_0.length c0_0) l0_0) := ⟨by (with_reducible repeat (first | apply Kd.V_alloc | apply Kd.V_drewN | apply Kd.V_drew)); exact Kd.V_mono (Kd.V_far (p := ⟨gb115, 0, none⟩) (Kd.V_mono HO_116000.out (fun k_ hk => (⟨hk, hk.1.2.1⟩ : _ ∧ k_ ≠ gb115))) (fun _ hk => hk.2) (.slice Ao47 t123.length co47)) (fun _ hk => ⟨hk.1.1.1, ⟨hk.1.2, ⟨hk.1.1.2.1, ⟨hk.1.1.2.2.1, hk.1.1.2.2.2⟩⟩⟩⟩)⟩
              have n1_ : Aside0 (Kd.R k26 26 (w46.setCell ⟨gb115, 0, none⟩ (.slice Ao47 t123.length co47)) w.heap.size (fun k_ => (w.heap.size ≤ k_) ∧ k_ ≠ gb116) (.slice Ao45 y120.length co45) y120) := ⟨by (with_reducible repeat (first | apply Kd.R_alloc | apply Kd.R_drewN | apply Kd.R_drew)); exact Kd.R_mono (Kd.R_far (p := ⟨gb115, 0, none⟩) (Kd.R_types HO122.out BK115.out (by decide)) (fun _ hk => hk.2) (.slice Ao47 t123.length co47)) (fun _ hk => ⟨hk.1.1.1, hk.1.2⟩)⟩
              have n2_ : Aside0 (Kd.V k26 26 (w46.setCell ⟨gb115, 0, none⟩ (.slice Ao47 t123.length co47)) w.heap.size (fun k_ => (P0_0_ k_ ∨ w.heap.size ≤ k_) ∧ some k_ ≠ (.slice Ao45 y120.length co45 : Value).ownBlock ∧ k_ ≠ gb115 ∧ k_ ≠ gb116 ∧ k_ ≠ gb117) (.slice Ao47 t123.length co47) t123) := ⟨by (with_reducible repeat (first | apply Kd.V_alloc | apply Kd.V_drewN | apply Kd.V_drew)); exact Kd.V_mono (Kd.V_far (p := ⟨gb115, 0, none⟩) (Kd.V_mono HO125.out (fun k_ hk => (⟨hk, hk.2.2.1⟩ : _ ∧ k_ ≠ gb115))) (fun _ hk => hk.2) (.slice Ao47 t123.length co47)) (fun _ hk => ⟨hk.1.1, ⟨hk.1.2.1, ⟨hk.1.2.2.1, ⟨hk.1.2.2.2.1, hk.1.2.2.2.2⟩⟩⟩⟩)⟩
              have n3_ : Aside0 ((w46.setCell ⟨gb115, 0, none⟩ (.slice Ao47 t123.length co47)).heap[gb115]? = some (.cells #[.slice Ao47 t123.length co47, .int .i64 (wrap64 (a0_1 + 1))] 24 (0, 0))) := ⟨by (with_reducible repeat (first | refine blk_drewN ?_ _ | refine blk_drew ?_ | refine blk_alloc ?_ _)); refine blk_put (cs := #[.slice A0_0 l0_0.length c0_0, .int .i64 (wrap64 (a0_1 + 1))]) ?_ 0 _ rfl; (with_reducible repeat (first | refine blk_drewN ?_ _ | refine blk_drew ?_ | refine blk_alloc ?_ _)); exact BK115.out⟩
              have n4_ : Aside0 ((w46.setCell ⟨gb115, 0, none⟩ (.slice Ao47 t123.length co47)).heap[gb116]? = some (.cells #[.int .i64 (wrap64 (a0_1 + 1)), .bool a1_1, .int .i64 a1_2, .int .i64 a1_3, .int .i64 a1_4, .bool a1_5] 26 (0, 0))) := ⟨by exact kk_ BK116⟩
              have n5_ : Aside0 ((w46.setCell ⟨gb115, 0, none⟩ (.slice Ao47 t123.length co47)).heap[gb117]? = some (.cells #[.slice none 0 0, .int .i64 0] 24 (0, 0))) := ⟨by exact kk_ BK117⟩
              have n6_ : Aside0 (Below w.heap.size w (w46.setCell ⟨gb115, 0, none⟩ (.slice Ao47 t123.length co47))) := ⟨by exact hh_ HB⟩
              (try clear HO_116000)
              (try clear HO122)
              (try clear HO125)
              (try clear BK115)
              (try clear BK116)
              (try clear BK117)
              (try clear HB)
              generalize (w46.setCell ⟨gb115, 0, none⟩ (.slice Ao47 t123.length co47)) = w49 at n0_ n1_ n2_ n3_ n4_ n5_ n6_ ⊢
              have HO_116000 := n0_
              have HO122 := n1_
              have HO125 := n2_
              have BK115 := n3_
              have BK116 := n4_
              have BK117 := n5_
              have HB := n6_
              clear n0_ n1_ n2_ n3_ n4_ n5_ n6_
              have n0_ := Aside0.mk (Kd.V_drew HO_116000.out)
              have n1_ := Aside0.mk (Kd.R_drew HO122.out)
              have n2_ := Aside0.mk (Kd.V_drew HO125.out)
              have n3_ := Aside0.mk (blk_drew BK115.out)
              have n4_ := Aside0.mk (blk_drew BK116.out)
              have n5_ := Aside0.mk (blk_drew BK117.out)
              have n6_ := Aside0.mk (below_drew1 HB.out)
              clear HO_116000
              clear HO122
              clear HO125
              clear BK115
              clear BK116
              clear BK117
              clear HB
              have HO_116000 := n0_
              have HO122 := n1_
              have HO125 := n2_
              have BK115 := n3_
              have BK116 := n4_
              have BK117 := n5_
              have HB := n6_
              clear n0_ n1_ n2_ n3_ n4_ n5_ n6_
              refine start_ (n := 6) (S := fun w' => w'.cell? ⟨gb115, 0, none⟩ = some (.slice Ao47 t123.length co47) ∧ w'.cell? ⟨gb115, 1, none⟩ = some (.int .i64 (wrap64 (a0_1 + 1))) ∧ w'.cell? ⟨gb116, 0, none⟩ = some (.int .i64 (wrap64 (a0_1 + 1))) ∧ w'.cell? ⟨gb116, 1, none⟩ = some (.bool a1_1) ∧ w'.cell? ⟨gb116, 2, none⟩ = some (.int .i64 a1_2) ∧ w'.cell? ⟨gb116, 3, none⟩ = some (.int .i64 a1_3) ∧ w'.cell? ⟨gb116, 4, none⟩ = some (.int .i64 a1_4) ∧ w'.cell? ⟨gb116, 5, none⟩ = some (.bool a1_5)) (ds := []) #[false, false, false, false, false, false] (by kernel_rfl) rfl rfl ⟨(blk_cell BK115.out 0).trans rfl, (blk_cell BK115.out 1).trans rfl, (blk_cell BK116.out 0).trans rfl, (blk_cell BK116.out 1).trans rfl, (blk_cell BK116.out 2).trans rfl, (blk_cell BK116.out 3).trans rfl, (blk_cell BK116.out 4).trans rfl, (blk_cell BK116.out 5).trans rfl⟩ (fun hHeld => ?_)
              generalize w49.drew = w50 at HO_116000 HO122 HO125 BK115 BK116 BK117 HB hHeld ⊢
              refine pure_ (i := 1) (N := some 42) (v := ?_) (a' := ?_) #[false, true, false, false, false, false] rfl rfl (by kernel_rfl) (fun _ _ _ h => h) (Or.inl ⟨by rfl, ?_⟩) ?_ ?_
              rotate_left
              · intro w'
                go_simp
                with_reducible rfl
              rotate_left
              · simp only [Act.put, List.setIfInBounds_toArray, List.set_cons_zero, List.set_cons_succ, i64_w, i32_w]
                rfl
              refine take_ (i := 0) (N := some 41) (v := ?_) (a' := ?_) #[true, true, false, false, false, false] rfl rfl (by kernel_rfl) (fun _ _ _ h => h) (Or.inl ⟨by rfl, ?_⟩) hHeld ?_ ?_
              rotate_left
              · rintro w' ⟨s0, s1, s2, s3, s4, s5, s6, s7⟩
                go_simp
                with_reducible rfl
              rotate_left
              · simp only [Act.put, List.setIfInBounds_toArray, List.set_cons_zero, List.set_cons_succ, i64_w, i32_w]
                rfl
              refine take_ (i := 2) (N := some 43) (v := ?_) (a' := ?_) #[true, true, true, false, false, false] rfl rfl (by kernel_rfl) (fun _ _ _ h => h) (Or.inl ⟨by rfl, ?_⟩) hHeld ?_ ?_
              rotate_left
              · rintro w' ⟨s0, s1, s2, s3, s4, s5, s6, s7⟩
                go_simp
                with_reducible rfl
              rotate_left
              · simp only [Act.put, List.setIfInBounds_toArray, List.set_cons_zero, List.set_cons_succ, i64_w, i32_w]
                rfl
              refine one_ (i := 3) (N := none) #[true, true, true, true, false, false] rfl rfl (by kernel_rfl) (by decide) (fun K hK => ?_)
              have hs51 : w50.cell? ⟨gb117, 0, none⟩ = some (.slice none 0 0) := (blk_cell BK117.out 0).trans rfl
              have hfs51 := blk_frozen BK117.out 0
              have hns51_0 := NB115_117.out
              have hns51_1 := NB116_117.out
              have hms51_0 := NB117_115.out
              have hms51_1 := NB117_116.out
              have hs52 : w50.cell? ⟨gb117, 1, none⟩ = some (.int .i64 0) := (blk_cell BK117.out 1).trans rfl
              have hfs52 := blk_frozen BK117.out 1
              have hns52_0 := NB115_117.out
              have hns52_1 := NB116_117.out
              have hms52_0 := NB117_115.out
              have hms52_1 := NB117_116.out
              refine skip_ (w1 := ?_) (by rfl) rfl ?_ ?_
              rotate_left
              · go_simp
                rfl
              refine hK.out _ _ ⟨((cell_far (p := ⟨gb117, _, none⟩) NB115_117.out _).trans (((cell_far (p := ⟨gb117, _, none⟩) NB115_117.out _).trans (hHeld.1)))), ((cell_far (p := ⟨gb117, _, none⟩) NB115_117.out _).trans (((cell_far (p := ⟨gb117, _, none⟩) NB115_117.out _).trans (hHeld.2.1)))), ((cell_far (p := ⟨gb117, _, none⟩) NB116_117.out _).trans (((cell_far (p := ⟨gb117, _, none⟩) NB116_117.out _).trans (hHeld.2.2.1)))), ((cell_far (p := ⟨gb117, _, none⟩) NB116_117.out _).trans (((cell_far (p := ⟨gb117, _, none⟩) NB116_117.out _).trans (hHeld.2.2.2.1)))), ((cell_far (p := ⟨gb117, _, none⟩) NB116_117.out _).trans (((cell_far (p := ⟨gb117, _, none⟩) NB116_117.out _).trans (hHeld.2.2.2.2.1)))), ((cell_far (p := ⟨gb117, _, none⟩) NB116_117.out _).trans (((cell_far (p := ⟨gb117, _, none⟩) NB116_117.out _).trans (hHeld.2.2.2.2.2.1)))), ((cell_far (p := ⟨gb117, _, none⟩) NB116_117.out _).trans (((cell_far (p := ⟨gb117, _, none⟩) NB116_117.out _).trans (hHeld.2.2.2.2.2.2.1)))), ((cell_far (p := ⟨gb117, _, none⟩) NB116_117.out _).trans (((cell_far (p := ⟨gb117, _, none⟩) NB116_117.out _).trans (hHeld.2.2.2.2.2.2.2))))⟩ (fun hHeld => ?_)
              clear hK K
              refine pure_ (i := 4) (N := some 5) (v := ?_) (a' := ?_) #[true, true, true, true, true, false] rfl rfl (by kernel_rfl) (fun _ _ _ h => h) (Or.inl ⟨by rfl, ?_⟩) ?_ ?_
              rotate_left
              · intro w'
                go_simp
                with_reducible rfl
              rotate_left
              · simp only [Act.put, List.setIfInBounds_toArray, List.set_cons_zero, List.set_cons_succ, i64_w, i32_w]
                rfl
              refine pure_ (i := 5) (N := some 6) (v := ?_) (a' := ?_) #[true, true, true, true, true, true] rfl rfl (by kernel_rfl) (fun _ _ _ h => h) (Or.inl ⟨by rfl, ?_⟩) ?_ ?_
              rotate_left
              · intro w'
                go_simp
                with_reducible rfl
              rotate_left
              · simp only [Act.put, List.setIfInBounds_toArray, List.set_cons_zero, List.set_cons_succ, i64_w, i32_w]
                rfl
              refine done_ (by kernel_rfl) ?_
              try go_wp2
              refine bodyPost_ret (results_ctt rfl _ _ gb117 24 #[.slice Ao47 t123.length co47, .int .i64 (wrap64 (a0_1 + 1))] (0, 0) _ rfl (by (with_reducible repeat (first | refine blk_drewN ?_ _ | refine blk_drew ?_ | refine blk_alloc ?_ _)); refine blk_put (cs := #[.slice Ao47 t123.length co47, .int .i64 0]) ?_ 1 _ rfl; (with_reducible repeat (first | refine blk_drewN ?_ _ | refine blk_drew ?_ | refine blk_alloc ?_ _)); refine blk_put (cs := #[.slice none 0 0, .int .i64 0]) ?_ 0 _ rfl; (with_reducible repeat (first | refine blk_drewN ?_ _ | refine blk_drew ?_ | refine blk_alloc ?_ _)); exact BK117.out) Try.underlying24 rfl (by kernel_rfl)) rfl ?_
              exact ⟨_, by first | rfl | (simp [errW_none, errW_some] <;> rfl) | (simp [*, errW_none, errW_some] <;> rfl), by (with_reducible repeat (first | apply Kd.V_alloc | apply Kd.V_drewN | apply Kd.V_drew)); exact Kd.V_mono (Kd.V_far (p := ⟨gb117, 1, none⟩) (Kd.V_far (p := ⟨gb117, 0, none⟩) (Kd.V_mono HO125.out (fun k_ hk => (⟨hk, hk.2.2.2.2⟩ : _ ∧ k_ ≠ gb117))) (fun _ hk => hk.2) (.slice Ao47 t123.length co47)) (fun _ hk => hk.2) (.int .i64 (wrap64 (a0_1 + 1)))) (fun _ hk => hk.1.1), by repeat (first | (with_reducible first | exact HB.out | apply below_alloc | apply pw_below_drewN | apply below_drew1 | refine below_set ?_ GE115.out | refine below_set ?_ GE116.out | refine below_set ?_ GE117.out) | exact HB.out)⟩

end Go.Proofs.Ytjghhdnecilcfaa.PNetTurns
