/- Written by a program of this repo: what the program's functions do, each as a Lean function, shown of the loaded code; or a statement's row over that; no condition of its own. -/
import Derived.Test.YthgoagnennjagaaPQueueOrdersx6
namespace Go.Proofs.Ythgoagnennjagaa.PQueueOrders
open Go Go.RowKit Go.Proofs.YthgoagnennjagaaV
set_option linter.unusedVariables false
set_option linter.unusedSimpArgs false

set_option maxHeartbeats 4000000 in
set_option maxRecDepth 100000 in
theorem tarrylaw06_QueueOrders.ok (k : Nat) (l0 : List S23) (a1 : Int) (v0 : Value) (r1 : Bool) (h : tarrylaw06_QueueOrders.f k l0 a1 = some r1) :
    VCalls Try.prog 6 [v0, .int .i64 a1] [.row v0 3 (l0.map enc23)] (fun v G own => v = .bool r1 ∧ G = [] ∧ own = []) := by
  refine VCalls.intro Try.func6 rfl (len rfl) fun E hC => ?_
  unfold tarrylaw06_QueueOrders.f at h
  refine VC.seq ?_
  refine VC.region ?_
  refine VL.va (op_assign rfl (ltn rfl)) rfl ?_
  refine VL.done ?_
  refine VN.then ?_
  refine VC.seq ?_
  refine VC.region ?_
  refine VL.va (op_move rfl (ltn rfl)) rfl ?_
  refine VL.va (op_move rfl (ltn rfl)) rfl ?_
  refine VL.va (op_len (m := l0.length) 0 lenm Try.underlying22 rfl rfl (ltn rfl)) rfl ?_
  refine VL.va (op_min rfl rfl (ltn rfl)) rfl ?_
  by_cases c2 : 0 ≤ mn (l0.length : Int) 30
  · rw [if_pos c2] at h
    by_cases c3 : (mn (l0.length : Int) 30) ≤ (l0.length : Int)
    · rw [if_pos c3] at h
      refine VL.sG (o_slice (m := l0.length) 0 0 ((mn (l0.length : Int) 30).toNat) lenm cutm Try.underlying22 TI24 rfl rfl ⟨rfl, ⟨_, _, rfl, c2, rfl⟩, by omega, by omega⟩ (ltn rfl)) rfl ?_
      intro v5
      refine VL.va (op_assign rfl (ltn rfl)) rfl ?_
      refine VL.done ?_
      refine VN.then ?_
      refine VC.seq ?_
      refine VC.seq ?_
      refine VC.region ?_
      refine VL.va (op_move rfl (ltn rfl)) rfl ?_
      refine VL.va (op_len (m := ((l0.take ((mn (l0.length : Int) 30).toNat)).drop 0).length) 0 lenm Try.underlying22 rfl rfl (ltn rfl)) rfl ?_
      refine VL.letter (((((l0.take ((mn (l0.length : Int) 30).toNat)).drop 0).length : Int) == 0)) fun b111452 hb111452 => ?_
      refine VL.va (op_cmp rfl rfl (congrArg some hb111452) (ltn rfl)) rfl ?_
      refine VL.done ?_
      refine VN.then ?_
      by_cases c111453 : (((l0.take ((mn (l0.length : Int) 30).toNat)).drop 0).length : Int) = 0
      · rw [if_pos c111453] at h
        obtain rfl : b111452 = true := hb111452.symm.trans (beq_iff_eq.2 c111453)
        refine VC.cond_t rfl ?_
        refine VC.seq ?_
        refine VC.region ?_
        replace h := Option.bind_eq_some_iff.1 h
        obtain ⟨t111454, hA111455, h⟩ := h
        refine VL.sC (o_call0 FO14 (tarrylaw06_alive.ok k t111454 hA111455) rfl rfl (ltn rfl) (All_of .nil)) rfl ?_
        rintro _ _ _ ⟨rfl, rfl, rfl⟩
        refine VL.va (op_assign rfl (ltn rfl)) rfl ?_
        refine VL.done ?_
        refine VN.then ?_
        refine VC.ret ?_
        refine VR.then ?_
        obtain rfl := Option.some.inj h
        exact VR.fn (rs := [.tmp 4]) [] [] [] rfl (.tmp rfl .nil) ⟨rfl, rfl, rfl⟩ trivial rfl (by decide)
      · rw [if_neg c111453] at h
        obtain rfl : b111452 = false := hb111452.symm.trans (beq_eq_false_iff_ne.2 c111453)
        refine VC.cond_f rfl ?_
        refine VC.skip ?_
        refine VN.then ?_
        refine VC.seq ?_
        refine VC.region ?_
        refine VL.va (op_move rfl (ltn rfl)) rfl ?_
        replace h := Option.bind_eq_some_iff.1 h
        obtain ⟨⟨r201855, t201856⟩, hA201857, h⟩ := h
        dsimp only at h
        refine VL.sC (o_call0 FO9 (queue_Sorted.ok k ((l0.take ((mn (l0.length : Int) 30).toNat)).drop 0) v5 r201855 t201856 hA201857) rfl rfl (ltn rfl) (All_of (.cons (List.mem_of_getElem? (i := 0) rfl) .nil))) rfl ?_
        rintro _ _ _ ⟨v201859, rfl, rfl, rfl⟩
        refine VL.va (op_move rfl (ltn rfl)) rfl ?_
        refine VL.va (op_extract rfl rfl (ltn rfl)) rfl ?_
        refine VL.va (op_extract rfl rfl (ltn rfl)) rfl ?_
        refine VL.va (op_assign rfl (ltn rfl)) rfl ?_
        refine VL.va (op_assign rfl (ltn rfl)) rfl ?_
        refine VL.done ?_
        refine VN.then ?_
        refine VC.seq ?_
        refine VC.region ?_
        refine VL.va (op_move rfl (ltn rfl)) rfl ?_
        refine VL.va (op_move rfl (ltn rfl)) rfl ?_
        refine VL.va (op_len (m := ((l0.take ((mn (l0.length : Int) 30).toNat)).drop 0).length) 0 lenm Try.underlying22 rfl rfl (ltn rfl)) rfl ?_
        by_cases c201860 : (((l0.take ((mn (l0.length : Int) 30).toNat)).drop 0).length : Int) ≠ 0
        · rw [if_pos c201860] at h
          refine VL.va (op_rem rfl rfl c201860 rfl (ltn rfl)) rfl ?_
          refine VL.va (op_move rfl (ltn rfl)) rfl ?_
          refine VL.va (op_len (m := ((l0.take ((mn (l0.length : Int) 30).toNat)).drop 0).length) 0 lenm Try.underlying22 rfl rfl (ltn rfl)) rfl ?_
          refine VL.va (op_ari64 rfl rfl rfl (ltn rfl)) rfl ?_
          refine VL.va (op_move rfl (ltn rfl)) rfl ?_
          refine VL.va (op_len (m := ((l0.take ((mn (l0.length : Int) 30).toNat)).drop 0).length) 0 lenm Try.underlying22 rfl rfl (ltn rfl)) rfl ?_
          refine VL.va (op_rem rfl rfl c201860 rfl (ltn rfl)) rfl ?_
          refine VL.va (op_assign rfl (ltn rfl)) rfl ?_
          refine VL.done ?_
          refine VN.then ?_
          refine VC.seq ?_
          refine VC.region ?_
          refine VL.va (op_assign rfl (ltn rfl)) rfl ?_
          refine VL.done ?_
          refine VN.then ?_
          refine VC.join2 (fun (v204314 : Value) (l204315 : List S23) => ⟨111, [(0, v5), (4, .bool false), (5, v201859), (6, .int .i64 t201856), (7, v204314)], [.row v5 3 (((l0.take ((mn (l0.length : Int) 30).toNat)).drop 0).map enc23)], [], [(v204314, 24, 3, l204315.map enc23), (v201859, 24, 3, r201855.map enc23)]⟩) (fun (v204314 : Value) (l204315 : List S23) => tarrylaw06_QueueOrders.j6 k l0 r201855 t201856 l204315 = some r1) ?_ ?_
          · by_cases c204059 : 0 ≤ (wrap64 ((a1.tmod (((l0.take ((mn (l0.length : Int) 30).toNat)).drop 0).length : Int)) + (((l0.take ((mn (l0.length : Int) 30).toNat)).drop 0).length : Int))).tmod (((l0.take ((mn (l0.length : Int) 30).toNat)).drop 0).length : Int)
            · rw [if_pos c204059] at h
              by_cases c204060 : ((wrap64 ((a1.tmod (((l0.take ((mn (l0.length : Int) 30).toNat)).drop 0).length : Int)) + (((l0.take ((mn (l0.length : Int) 30).toNat)).drop 0).length : Int))).tmod (((l0.take ((mn (l0.length : Int) 30).toNat)).drop 0).length : Int)) ≤ (((l0.take ((mn (l0.length : Int) 30).toNat)).drop 0).length : Int)
              · rw [if_pos c204060] at h
                by_cases c204063 : (([] : List S23).length + ((((l0.take ((mn (l0.length : Int) 30).toNat)).drop 0).take (((l0.take ((mn (l0.length : Int) 30).toNat)).drop 0).length)).drop (((wrap64 ((a1.tmod (((l0.take ((mn (l0.length : Int) 30).toNat)).drop 0).length : Int)) + (((l0.take ((mn (l0.length : Int) 30).toNat)).drop 0).length : Int))).tmod (((l0.take ((mn (l0.length : Int) 30).toNat)).drop 0).length : Int)).toNat)).length) * 24 ≤ 140737488355328
                · rw [if_pos c204063] at h
                  by_cases c204068 : ((([] : List S23) ++ ((((l0.take ((mn (l0.length : Int) 30).toNat)).drop 0).take (((l0.take ((mn (l0.length : Int) 30).toNat)).drop 0).length)).drop (((wrap64 ((a1.tmod (((l0.take ((mn (l0.length : Int) 30).toNat)).drop 0).length : Int)) + (((l0.take ((mn (l0.length : Int) 30).toNat)).drop 0).length : Int))).tmod (((l0.take ((mn (l0.length : Int) 30).toNat)).drop 0).length : Int)).toNat))).length + ((((l0.take ((mn (l0.length : Int) 30).toNat)).drop 0).take (((wrap64 ((a1.tmod (((l0.take ((mn (l0.length : Int) 30).toNat)).drop 0).length : Int)) + (((l0.take ((mn (l0.length : Int) 30).toNat)).drop 0).length : Int))).tmod (((l0.take ((mn (l0.length : Int) 30).toNat)).drop 0).length : Int)).toNat)).drop 0).length) * 24 ≤ 140737488355328
                  · rw [if_pos c204068] at h
                    refine VC.join1 (fun (v204069 : Value) => ⟨111, [(0, v5), (4, .bool false), (5, v201859), (6, .int .i64 t201856), (7, .slice none 0 0), (48, v204069), (49, .int .i64 (((([] : List S23) ++ ((((l0.take ((mn (l0.length : Int) 30).toNat)).drop 0).take (((l0.take ((mn (l0.length : Int) 30).toNat)).drop 0).length)).drop (((wrap64 ((a1.tmod (((l0.take ((mn (l0.length : Int) 30).toNat)).drop 0).length : Int)) + (((l0.take ((mn (l0.length : Int) 30).toNat)).drop 0).length : Int))).tmod (((l0.take ((mn (l0.length : Int) 30).toNat)).drop 0).length : Int)).toNat))) ++ ((((l0.take ((mn (l0.length : Int) 30).toNat)).drop 0).take (((wrap64 ((a1.tmod (((l0.take ((mn (l0.length : Int) 30).toNat)).drop 0).length : Int)) + (((l0.take ((mn (l0.length : Int) 30).toNat)).drop 0).length : Int))).tmod (((l0.take ((mn (l0.length : Int) 30).toNat)).drop 0).length : Int)).toNat)).drop 0)).length : Int)), (50, .int .i64 0)], [.row v5 3 (((l0.take ((mn (l0.length : Int) 30).toNat)).drop 0).map enc23)], [], [(v204069, 24, 3, ((([] : List S23) ++ ((((l0.take ((mn (l0.length : Int) 30).toNat)).drop 0).take (((l0.take ((mn (l0.length : Int) 30).toNat)).drop 0).length)).drop (((wrap64 ((a1.tmod (((l0.take ((mn (l0.length : Int) 30).toNat)).drop 0).length : Int)) + (((l0.take ((mn (l0.length : Int) 30).toNat)).drop 0).length : Int))).tmod (((l0.take ((mn (l0.length : Int) 30).toNat)).drop 0).length : Int)).toNat))) ++ ((((l0.take ((mn (l0.length : Int) 30).toNat)).drop 0).take (((wrap64 ((a1.tmod (((l0.take ((mn (l0.length : Int) 30).toNat)).drop 0).length : Int)) + (((l0.take ((mn (l0.length : Int) 30).toNat)).drop 0).length : Int))).tmod (((l0.take ((mn (l0.length : Int) 30).toNat)).drop 0).length : Int)).toNat)).drop 0)).map enc23), (v201859, 24, 3, r201855.map enc23)]⟩) (fun (v204069 : Value) => True) ?_ ?_
                    · refine VC.draw ⟨0, [], [.row v5 3 (((l0.take ((mn (l0.length : Int) 30).toNat)).drop 0).map enc23)], [], []⟩ (by kernel_rfl) rfl (by kernel_rfl) (n := 11) (listed := LB 11 0) ?_
                      refine VA.va (i := 1) (listed' := LB 11 2) rfl (op_move rfl (ltn rfl)) rfl (by kernel_rfl) (by kernel_rfl) (by kernel_rfl) (by kernel_rfl) ⟨⟨⟨0, rfl⟩, trivial⟩, trivial, trivial⟩ (fun _ _ _ h => h) ?_
                      refine VA.va (i := 2) (listed' := LB 11 6) rfl (op_move rfl (ltn rfl)) rfl (by kernel_rfl) (by kernel_rfl) (by kernel_rfl) (by kernel_rfl) ⟨⟨⟨0, rfl⟩, trivial⟩, trivial, trivial⟩ (fun _ _ _ h => h) ?_
                      refine VA.cut (i := 3) (listed' := LB 11 14) rfl (m := ((l0.take ((mn (l0.length : Int) 30).toNat)).drop 0).length) 0 (((wrap64 ((a1.tmod (((l0.take ((mn (l0.length : Int) 30).toNat)).drop 0).length : Int)) + (((l0.take ((mn (l0.length : Int) 30).toNat)).drop 0).length : Int))).tmod (((l0.take ((mn (l0.length : Int) 30).toNat)).drop 0).length : Int)).toNat) (((l0.take ((mn (l0.length : Int) 30).toNat)).drop 0).length) lenm cutm Try.underlying22 TI24 rfl rfl ⟨⟨_, _, rfl, c204059, rfl⟩, rfl, by omega, by omega⟩ (ltn rfl) rfl (by kernel_rfl) (by kernel_rfl) (by kernel_rfl) (by kernel_rfl) ⟨⟨⟨0, rfl⟩, trivial⟩, trivial, trivial⟩ (fun _ _ _ _ h => h) ?_
                      intro v204062
                      refine VA.va (i := 5) (listed' := LB 11 46) rfl (op_move rfl (ltn rfl)) rfl (by kernel_rfl) (by kernel_rfl) (by kernel_rfl) (by kernel_rfl) ⟨⟨⟨1, rfl⟩, trivial⟩, trivial, trivial⟩ (fun _ _ _ h => h) ?_
                      refine VA.va (i := 6) (listed' := LB 11 110) rfl (op_move rfl (ltn rfl)) rfl (by kernel_rfl) (by kernel_rfl) (by kernel_rfl) (by kernel_rfl) ⟨⟨⟨1, rfl⟩, trivial⟩, trivial, trivial⟩ (fun _ _ _ h => h) ?_
                      refine VA.cut (i := 7) (listed' := LB 11 238) rfl (m := ((l0.take ((mn (l0.length : Int) 30).toNat)).drop 0).length) 0 0 (((wrap64 ((a1.tmod (((l0.take ((mn (l0.length : Int) 30).toNat)).drop 0).length : Int)) + (((l0.take ((mn (l0.length : Int) 30).toNat)).drop 0).length : Int))).tmod (((l0.take ((mn (l0.length : Int) 30).toNat)).drop 0).length : Int)).toNat) lenm cutm Try.underlying22 TI24 rfl rfl ⟨rfl, ⟨_, _, rfl, c204059, rfl⟩, by omega, by omega⟩ (ltn rfl) rfl (by kernel_rfl) (by kernel_rfl) (by kernel_rfl) (by kernel_rfl) ⟨⟨⟨1, rfl⟩, trivial⟩, trivial, trivial⟩ (fun _ _ _ _ h => h) ?_
                      intro v204067
                      refine VA.va (i := 10) (listed' := LB 11 1262) rfl (op_move rfl (ltn rfl)) rfl (by kernel_rfl) (by kernel_rfl) (by kernel_rfl) (by kernel_rfl) ⟨⟨⟨2, rfl⟩, trivial⟩, trivial, trivial⟩ (fun _ _ _ h => h) ?_
                      refine VA.oneG (i := 0) (listed' := LB 11 1263) (by kernel_rfl) rfl (o_buildSlice (vals := []) (cells := #[]) (es := List.map enc23 ([] : List S23)) Try.underlying22 TI24 Z24 rfl (by decide) (by decide) (by kernel_rfl) (by kernel_rfl) rfl (flat_map enc23_ok _) (ltn rfl)) rfl (by kernel_rfl) (fun _ => ⟨⟨⟨2, rfl⟩, trivial⟩, trivial, trivial⟩) ?_
                      intro v204058
                      refine VA.oneG (i := 4) (listed' := LB 11 1279) (by kernel_rfl) rfl (o_append 0 appm Try.underlying22 EI24 rfl rfl rfl (.inl ⟨1, rfl⟩) (bndm c204063) (ltn rfl)) rfl (by kernel_rfl) (fun _ => ⟨⟨⟨2, rfl⟩, trivial⟩, trivial, trivial⟩) ?_
                      intro v204064
                      refine VA.oneG (i := 8) (listed' := LB 11 1535) (by kernel_rfl) rfl (o_append 0 appm Try.underlying22 EI24 rfl rfl rfl (.inl ⟨0, rfl⟩) (bndm c204068) (ltn rfl)) rfl (by kernel_rfl) (fun _ => ⟨⟨⟨2, rfl⟩, trivial⟩, trivial, trivial⟩) ?_
                      intro v204069
                      refine VA.more ⟨0, [], [.row v5 3 (((l0.take ((mn (l0.length : Int) 30).toNat)).drop 0).map enc23)], [], [(v204069, 24, 3, ((([] : List S23) ++ ((((l0.take ((mn (l0.length : Int) 30).toNat)).drop 0).take (((l0.take ((mn (l0.length : Int) 30).toNat)).drop 0).length)).drop (((wrap64 ((a1.tmod (((l0.take ((mn (l0.length : Int) 30).toNat)).drop 0).length : Int)) + (((l0.take ((mn (l0.length : Int) 30).toNat)).drop 0).length : Int))).tmod (((l0.take ((mn (l0.length : Int) 30).toNat)).drop 0).length : Int)).toNat))) ++ ((((l0.take ((mn (l0.length : Int) 30).toNat)).drop 0).take (((wrap64 ((a1.tmod (((l0.take ((mn (l0.length : Int) 30).toNat)).drop 0).length : Int)) + (((l0.take ((mn (l0.length : Int) 30).toNat)).drop 0).length : Int))).tmod (((l0.take ((mn (l0.length : Int) 30).toNat)).drop 0).length : Int)).toNat)).drop 0)).map enc23)]⟩ ⟨⟨⟨0, rfl⟩, trivial⟩, trivial, trivial⟩ ?_
                      refine VA.va (i := 9) (listed' := LB 11 2047) rfl (op_len_own (m := ((([] : List S23) ++ ((((l0.take ((mn (l0.length : Int) 30).toNat)).drop 0).take (((l0.take ((mn (l0.length : Int) 30).toNat)).drop 0).length)).drop (((wrap64 ((a1.tmod (((l0.take ((mn (l0.length : Int) 30).toNat)).drop 0).length : Int)) + (((l0.take ((mn (l0.length : Int) 30).toNat)).drop 0).length : Int))).tmod (((l0.take ((mn (l0.length : Int) 30).toNat)).drop 0).length : Int)).toNat))) ++ ((((l0.take ((mn (l0.length : Int) 30).toNat)).drop 0).take (((wrap64 ((a1.tmod (((l0.take ((mn (l0.length : Int) 30).toNat)).drop 0).length : Int)) + (((l0.take ((mn (l0.length : Int) 30).toNat)).drop 0).length : Int))).tmod (((l0.take ((mn (l0.length : Int) 30).toNat)).drop 0).length : Int)).toNat)).drop 0)).length) 0 lenm Try.underlying22 rfl rfl (ltn rfl)) rfl (by kernel_rfl) (by kernel_rfl) (by kernel_rfl) (by kernel_rfl) ⟨⟨⟨2, rfl⟩, trivial⟩, trivial, ⟨⟨0, rfl⟩, trivial⟩⟩ (fun _ _ _ h => h) ?_
                      refine VA.done (by kernel_rfl) ?_
                      exact VN.meet1 v204069 [] [0, 1] trivial ⟨rfl, ⟨rfl, rfl, rfl, rfl, rfl, rfl, rfl, rfl, trivial⟩, ⟨⟨2, rfl⟩, trivial⟩, rfl, by decide, rfl, by decide⟩
                    intro v204069 _
                    refine VC.block ?_
                    refine VC.nilRow' 24 3 ?_
                    refine VC.loop3 (fun (v204151 : Value) (l204152 : List S23) (i204154 : Int) => ⟨111, [(0, v5), (4, .bool false), (5, v201859), (6, .int .i64 t201856), (7, v204151), (48, v204069), (49, .int .i64 (((([] : List S23) ++ ((((l0.take ((mn (l0.length : Int) 30).toNat)).drop 0).take (((l0.take ((mn (l0.length : Int) 30).toNat)).drop 0).length)).drop (((wrap64 ((a1.tmod (((l0.take ((mn (l0.length : Int) 30).toNat)).drop 0).length : Int)) + (((l0.take ((mn (l0.length : Int) 30).toNat)).drop 0).length : Int))).tmod (((l0.take ((mn (l0.length : Int) 30).toNat)).drop 0).length : Int)).toNat))) ++ ((((l0.take ((mn (l0.length : Int) 30).toNat)).drop 0).take (((wrap64 ((a1.tmod (((l0.take ((mn (l0.length : Int) 30).toNat)).drop 0).length : Int)) + (((l0.take ((mn (l0.length : Int) 30).toNat)).drop 0).length : Int))).tmod (((l0.take ((mn (l0.length : Int) 30).toNat)).drop 0).length : Int)).toNat)).drop 0)).length : Int)), (50, .int .i64 i204154)], [.row v5 3 (((l0.take ((mn (l0.length : Int) 30).toNat)).drop 0).map enc23)], [], [(v204151, 24, 3, l204152.map enc23), (v201859, 24, 3, r201855.map enc23), (v204069, 24, 3, ((([] : List S23) ++ ((((l0.take ((mn (l0.length : Int) 30).toNat)).drop 0).take (((l0.take ((mn (l0.length : Int) 30).toNat)).drop 0).length)).drop (((wrap64 ((a1.tmod (((l0.take ((mn (l0.length : Int) 30).toNat)).drop 0).length : Int)) + (((l0.take ((mn (l0.length : Int) 30).toNat)).drop 0).length : Int))).tmod (((l0.take ((mn (l0.length : Int) 30).toNat)).drop 0).length : Int)).toNat))) ++ ((((l0.take ((mn (l0.length : Int) 30).toNat)).drop 0).take (((wrap64 ((a1.tmod (((l0.take ((mn (l0.length : Int) 30).toNat)).drop 0).length : Int)) + (((l0.take ((mn (l0.length : Int) 30).toNat)).drop 0).length : Int))).tmod (((l0.take ((mn (l0.length : Int) 30).toNat)).drop 0).length : Int)).toNat)).drop 0)).map enc23)]⟩) (fun (ml7 : Nat) (v204151 : Value) (l204152 : List S23) (i204154 : Int) => tarrylaw06_QueueOrders.l7 k a1 l0 r201855 t201856 ml7 l204152 i204154 = some r1) k (.slice none 0 0) ([] : List S23) 0 [] [0, 2, 1] h ⟨rfl, ⟨rfl, rfl, rfl, rfl, rfl, rfl, rfl, rfl, trivial⟩, ⟨⟨0, rfl⟩, trivial⟩, rfl, by decide, rfl, by decide⟩ (by intros; simp [tarrylaw06_QueueOrders.l7]) ?_
                    clear h
                    intro ml7 ihl7 v204151 l204152 i204154 h
                    simp only [tarrylaw06_QueueOrders.l7] at h
                    refine VC.seq ?_
                    refine VC.region ?_
                    refine VL.letter (decide (i204154 < (((([] : List S23) ++ ((((l0.take ((mn (l0.length : Int) 30).toNat)).drop 0).take (((l0.take ((mn (l0.length : Int) 30).toNat)).drop 0).length)).drop (((wrap64 ((a1.tmod (((l0.take ((mn (l0.length : Int) 30).toNat)).drop 0).length : Int)) + (((l0.take ((mn (l0.length : Int) 30).toNat)).drop 0).length : Int))).tmod (((l0.take ((mn (l0.length : Int) 30).toNat)).drop 0).length : Int)).toNat))) ++ ((((l0.take ((mn (l0.length : Int) 30).toNat)).drop 0).take (((wrap64 ((a1.tmod (((l0.take ((mn (l0.length : Int) 30).toNat)).drop 0).length : Int)) + (((l0.take ((mn (l0.length : Int) 30).toNat)).drop 0).length : Int))).tmod (((l0.take ((mn (l0.length : Int) 30).toNat)).drop 0).length : Int)).toNat)).drop 0)).length : Int))) fun b204234 hb204234 => ?_
                    refine VL.va (op_cmp rfl rfl (congrArg some hb204234) (ltn rfl)) rfl ?_
                    refine VL.done ?_
                    refine VN.then ?_
                    refine VC.seq ?_
                    by_cases c204236 : i204154 < (((([] : List S23) ++ ((((l0.take ((mn (l0.length : Int) 30).toNat)).drop 0).take (((l0.take ((mn (l0.length : Int) 30).toNat)).drop 0).length)).drop (((wrap64 ((a1.tmod (((l0.take ((mn (l0.length : Int) 30).toNat)).drop 0).length : Int)) + (((l0.take ((mn (l0.length : Int) 30).toNat)).drop 0).length : Int))).tmod (((l0.take ((mn (l0.length : Int) 30).toNat)).drop 0).length : Int)).toNat))) ++ ((((l0.take ((mn (l0.length : Int) 30).toNat)).drop 0).take (((wrap64 ((a1.tmod (((l0.take ((mn (l0.length : Int) 30).toNat)).drop 0).length : Int)) + (((l0.take ((mn (l0.length : Int) 30).toNat)).drop 0).length : Int))).tmod (((l0.take ((mn (l0.length : Int) 30).toNat)).drop 0).length : Int)).toNat)).drop 0)).length : Int)
                    · rw [if_pos c204236] at h
                      obtain rfl : b204234 = true := hb204234.symm.trans (decide_eq_true c204236)
                      refine VC.cond_t rfl ?_
                      refine VC.skip ?_
                      refine VN.then ?_
                      refine VC.seq ?_
                      refine VC.block ?_
                      refine VC.seq ?_
                      refine VC.region ?_
                      by_cases c204275 : 0 ≤ i204154
                      · rw [if_pos c204275] at h
                        replace h := Option.bind_eq_some_iff.1 h
                        obtain ⟨x204276, hx204276, h⟩ := h
                        refine VL.openR (m := ((([] : List S23) ++ ((((l0.take ((mn (l0.length : Int) 30).toNat)).drop 0).take (((l0.take ((mn (l0.length : Int) 30).toNat)).drop 0).length)).drop (((wrap64 ((a1.tmod (((l0.take ((mn (l0.length : Int) 30).toNat)).drop 0).length : Int)) + (((l0.take ((mn (l0.length : Int) 30).toNat)).drop 0).length : Int))).tmod (((l0.take ((mn (l0.length : Int) 30).toNat)).drop 0).length : Int)).toNat))) ++ ((((l0.take ((mn (l0.length : Int) 30).toNat)).drop 0).take (((wrap64 ((a1.tmod (((l0.take ((mn (l0.length : Int) 30).toNat)).drop 0).length : Int)) + (((l0.take ((mn (l0.length : Int) 30).toNat)).drop 0).length : Int))).tmod (((l0.take ((mn (l0.length : Int) 30).toNat)).drop 0).length : Int)).toNat)).drop 0)).length) 2 lenm rfl (pos_get hx204276) ?_
                        rintro g204277 n204278 rfl
                        refine VL.va (op_indexAddr Try.underlying22 TI24 rfl rfl c204275 (lt_get c204275 hx204276) (add_zero_at _ _) (ltn rfl)) rfl ?_
                        refine VL.va (op_load_own (sz := 3) (o := 0) 2 i204154.toNat 3 rfl rfl (get_map hx204276) TI24 rfl (fun h => absurd h (by decide)) (ltn rfl)) rfl ?_
                        refine VL.sG (o_alloc Z24 ZL24 (ltn rfl)) rfl ?_
                        intro g204279
                        refine VL.step1 (o_store 0 3 rfl rfl rfl TI24 (.agg (.of rfl)) rfl (len rfl)) rfl ?_
                        refine VL.done ?_
                        refine VN.then ?_
                        refine VC.seq ?_
                        refine VC.region ?_
                        refine VL.va (op_move rfl (ltn rfl)) rfl ?_
                        refine VL.va (op_load 0 3 rfl rfl TI24 rfl (fun h => absurd h (by decide)) (ltn rfl)) rfl ?_
                        replace h := Option.bind_eq_some_iff.1 h
                        obtain ⟨⟨r204280, t204281⟩, hA204282, h⟩ := h
                        dsimp only at h
                        refine VL.sC (o_call_b0 FO18 (queue_Push.ok k l204152 x204276.f0 x204276.f1 x204276.f2 v204151 r204280 t204281 hA204282) rfl rfl (ltn rfl) (All_of (.cons (.inr (.inl ⟨_, List.mem_of_getElem? (i := 0) rfl, rfl⟩)) .nil)) (by rintro _ _ _ ⟨v204284, rfl, rfl, rfl⟩; rfl)) rfl ?_
                        rintro _ _ _ ⟨v204284, rfl, rfl, rfl⟩
                        refine VL.va (op_move rfl (ltn rfl)) rfl ?_
                        refine VL.va (op_extract rfl rfl (ltn rfl)) rfl ?_
                        refine VL.va (op_extract rfl rfl (ltn rfl)) rfl ?_
                        refine VL.va (op_assign rfl (ltn rfl)) rfl ?_
                        refine VL.va (op_assign rfl (ltn rfl)) rfl ?_
                        refine VL.done ?_
                        refine VN.then ?_
                        refine VC.seq ?_
                        refine VC.seq ?_
                        refine VC.region ?_
                        refine VL.va (op_move rfl (ltn rfl)) rfl ?_
                        refine VL.letter ((t204281 != 0)) fun b204299 hb204299 => ?_
                        refine VL.va (op_cmp rfl rfl (congrArg some hb204299) (ltn rfl)) rfl ?_
                        refine VL.done ?_
                        refine VN.then ?_
                        by_cases c204300 : t204281 = 0
                        · rw [if_pos c204300] at h
                          obtain rfl : b204299 = false := hb204299.symm.trans (bne_eq_false_iff_eq.2 c204300)
                          refine VC.cond_f rfl ?_
                          refine VC.skip ?_
                          refine VN.then ?_
                          refine VC.region ?_
                          refine VL.va (op_move rfl (ltn rfl)) rfl ?_
                          refine VL.va (op_assign rfl (ltn rfl)) rfl ?_
                          refine VL.done ?_
                          refine VN.block ?_
                          refine VN.then ?_
                          refine VC.region ?_
                          refine VL.va (op_ari64 rfl rfl rfl (ltn rfl)) rfl ?_
                          refine VL.va (op_move rfl (ltn rfl)) rfl ?_
                          refine VL.done ?_
                          refine VN.again [] [0, 2, 3] (ihl7 v204284 r204280 (wrap64 (i204154 + 1)) h) ⟨rfl, ⟨rfl, rfl, rfl, rfl, rfl, rfl, rfl, rfl, trivial⟩, ⟨⟨0, rfl⟩, trivial⟩, rfl, by decide, rfl, by decide⟩
                        · rw [if_neg c204300] at h
                          obtain rfl : b204299 = true := hb204299.symm.trans (bne_iff_ne.2 c204300)
                          refine VC.cond_t rfl ?_
                          refine VC.seq ?_
                          refine VC.region ?_
                          replace h := Option.bind_eq_some_iff.1 h
                          obtain ⟨t204307, hA204308, h⟩ := h
                          refine VL.sC (o_call0 FO14 (tarrylaw06_alive.ok k t204307 hA204308) rfl rfl (ltn rfl) (All_of .nil)) rfl ?_
                          rintro _ _ _ ⟨rfl, rfl, rfl⟩
                          refine VL.va (op_move rfl (ltn rfl)) rfl ?_
                          by_cases c204309 : t204307 = true
                          · rw [if_pos c204309] at h
                            obtain rfl := c204309
                            refine VL.va (op_move rfl (ltn rfl)) rfl ?_
                            refine VL.letter ((t201856 == 1)) fun b204310 hb204310 => ?_
                            refine VL.va (op_cmp rfl rfl (congrArg some hb204310) (ltn rfl)) rfl ?_
                            refine VL.va (op_pick rfl rfl (ltn rfl)) rfl ?_
                            refine VL.va (op_move rfl (ltn rfl)) rfl ?_
                            by_cases c204311 : t201856 = 1
                            · rw [if_pos c204311] at h
                              obtain rfl : b204310 = true := hb204310.symm.trans (beq_iff_eq.2 c204311)
                              refine VL.va (op_move rfl (ltn rfl)) rfl ?_
                              refine VL.letter ((t204281 == 1)) fun b204312 hb204312 => ?_
                              refine VL.va (op_cmp rfl rfl (congrArg some hb204312) (ltn rfl)) rfl ?_
                              refine VL.va (op_pick rfl rfl (ltn rfl)) rfl ?_
                              refine VL.va (op_assign rfl (ltn rfl)) rfl ?_
                              refine VL.done ?_
                              refine VN.then ?_
                              refine VC.ret ?_
                              refine VR.then ?_
                              refine VR.block ?_
                              refine VR.then ?_
                              refine VR.then ?_
                              refine VR.block ?_
                              refine VR.then ?_
                              obtain rfl := Option.some.inj h
                              subst hb204312
                              exact VR.fn (rs := [.tmp 4]) [] [] [] rfl (.tmp rfl .nil) ⟨rfl, rfl, rfl⟩ trivial rfl (by decide)
                            · rw [if_neg c204311] at h
                              obtain rfl : b204310 = false := hb204310.symm.trans (beq_eq_false_iff_ne.2 c204311)
                              refine VL.un rfl rfl (ltn rfl) ?_
                              refine VL.un rfl rfl (ltn rfl) ?_
                              refine VL.va (op_pick rfl rfl (ltn rfl)) rfl ?_
                              refine VL.va (op_assign rfl (ltn rfl)) rfl ?_
                              refine VL.done ?_
                              refine VN.then ?_
                              refine VC.ret ?_
                              refine VR.then ?_
                              refine VR.block ?_
                              refine VR.then ?_
                              refine VR.then ?_
                              refine VR.block ?_
                              refine VR.then ?_
                              cases h
                          · rw [if_neg c204309] at h
                            obtain rfl := Bool.eq_false_iff.2 c204309
                            refine VL.un rfl rfl (ltn rfl) ?_
                            refine VL.un rfl rfl (ltn rfl) ?_
                            refine VL.va (op_pick rfl rfl (ltn rfl)) rfl ?_
                            refine VL.va (op_move rfl (ltn rfl)) rfl ?_
                            refine VL.un rfl rfl (ltn rfl) ?_
                            refine VL.un rfl rfl (ltn rfl) ?_
                            refine VL.va (op_pick rfl rfl (ltn rfl)) rfl ?_
                            refine VL.va (op_assign rfl (ltn rfl)) rfl ?_
                            refine VL.done ?_
                            refine VN.then ?_
                            refine VC.ret ?_
                            refine VR.then ?_
                            refine VR.block ?_
                            refine VR.then ?_
                            refine VR.then ?_
                            refine VR.block ?_
                            refine VR.then ?_
                            cases h
                      · rw [if_neg c204275] at h; cases h
                    · rw [if_neg c204236] at h
                      obtain rfl : b204234 = false := hb204234.symm.trans (decide_eq_false c204236)
                      refine VC.cond_f rfl ?_
                      refine VC.exit ?_
                      refine VX.then ?_
                      refine VX.then ?_
                      refine VX.hit ?_
                      refine VN.meet2 v204151 l204152 [] [0, 1] h ⟨rfl, ⟨rfl, rfl, rfl, rfl, rfl, trivial⟩, ⟨⟨0, rfl⟩, trivial⟩, rfl, by decide, rfl, by decide⟩
                  · rw [if_neg c204068] at h; cases h
                · rw [if_neg c204063] at h; cases h
              · rw [if_neg c204060] at h; cases h
            · rw [if_neg c204059] at h; cases h
          clear h
          intro v204314 l204315 h
          unfold tarrylaw06_QueueOrders.j6 at h
          refine VC.seq ?_
          refine VC.region ?_
          refine VL.va (op_assign rfl (ltn rfl)) rfl ?_
          refine VL.done ?_
          refine VN.then ?_
          refine VC.seq ?_
          refine VC.seq ?_
          refine VC.region ?_
          refine VL.va (op_move rfl (ltn rfl)) rfl ?_
          refine VL.va (op_len (m := ((l0.take ((mn (l0.length : Int) 30).toNat)).drop 0).length) 0 lenm Try.underlying22 rfl rfl (ltn rfl)) rfl ?_
          refine VL.va (op_move rfl (ltn rfl)) rfl ?_
          refine VL.done ?_
          refine VN.then ?_
          refine VC.block ?_
          refine VC.nilRow' 24 3 ?_
          refine VC.loop5 (fun (v204613 : Value) (l204614 : List S23) (v204616 : Value) (l204617 : List S23) (i204619 : Int) => ⟨111, [(4, .bool false), (5, v201859), (6, .int .i64 t201856), (7, v204613), (12, v204616), (74, .int .i64 (((l0.take ((mn (l0.length : Int) 30).toNat)).drop 0).length : Int)), (75, .int .i64 i204619)], [], [], [(v204613, 24, 3, l204614.map enc23), (v204616, 24, 3, l204617.map enc23), (v201859, 24, 3, r201855.map enc23)]⟩) (fun (ml9 : Nat) (v204613 : Value) (l204614 : List S23) (v204616 : Value) (l204617 : List S23) (i204619 : Int) => tarrylaw06_QueueOrders.l9 k l0 r201855 t201856 ml9 l204614 l204617 i204619 = some r1) k v204314 l204315 (.slice none 0 0) ([] : List S23) 0 [] [1, 0, 2] h ⟨rfl, ⟨rfl, rfl, rfl, rfl, rfl, rfl, rfl, trivial⟩, trivial, rfl, by decide, rfl, by decide⟩ (by intros; simp [tarrylaw06_QueueOrders.l9]) ?_
          clear h
          intro ml9 ihl9 v204613 l204614 v204616 l204617 i204619 h
          simp only [tarrylaw06_QueueOrders.l9] at h
          refine VC.seq ?_
          refine VC.region ?_
          refine VL.letter (decide (i204619 < (((l0.take ((mn (l0.length : Int) 30).toNat)).drop 0).length : Int))) fun b204691 hb204691 => ?_
          refine VL.va (op_cmp rfl rfl (congrArg some hb204691) (ltn rfl)) rfl ?_
          refine VL.done ?_
          refine VN.then ?_
          refine VC.seq ?_
          by_cases c204711 : i204619 < (((l0.take ((mn (l0.length : Int) 30).toNat)).drop 0).length : Int)
          · rw [if_pos c204711] at h
            obtain rfl : b204691 = true := hb204691.symm.trans (decide_eq_true c204711)
            refine VC.cond_t rfl ?_
            refine VC.skip ?_
            refine VN.then ?_
            refine VC.seq ?_
            refine VC.block ?_
            refine VC.seq ?_
            refine VC.region ?_
            refine VL.va (op_move rfl (ltn rfl)) rfl ?_
            replace h := Option.bind_eq_some_iff.1 h
            obtain ⟨⟨r204746, t204747, t204748, t204749, t204750⟩, hA204751, h⟩ := h
            dsimp only at h
            refine VL.sC (o_call_b0 FO19 (queue_Pop.ok k l204614 v204613 r204746 t204747 t204748 t204749 t204750 hA204751) rfl rfl (ltn rfl) (All_of (.cons (.inr (.inl ⟨_, List.mem_of_getElem? (i := 0) rfl, rfl⟩)) .nil)) (by rintro _ _ _ ⟨v204753, rfl, rfl, rfl⟩; rfl)) rfl ?_
            rintro _ _ _ ⟨v204753, rfl, rfl, rfl⟩
            refine VL.va (op_move rfl (ltn rfl)) rfl ?_
            refine VL.va (op_extract rfl rfl (ltn rfl)) rfl ?_
            refine VL.va (op_extract rfl rfl (ltn rfl)) rfl ?_
            refine VL.va (op_extract rfl rfl (ltn rfl)) rfl ?_
            refine VL.sG (o_alloc Z24 ZL24 (ltn rfl)) rfl ?_
            intro g204754
            refine VL.va (op_assign rfl (ltn rfl)) rfl ?_
            refine VL.step1 (o_store 0 3 rfl rfl rfl TI24 (.agg (.of rfl)) rfl (len rfl)) rfl ?_
            refine VL.va (op_assign rfl (ltn rfl)) rfl ?_
            refine VL.done ?_
            refine VN.then ?_
            refine VC.seq ?_
            refine VC.seq ?_
            refine VC.region ?_
            refine VL.va (op_move rfl (ltn rfl)) rfl ?_
            refine VL.letter ((t204750 != 0)) fun b204770 hb204770 => ?_
            refine VL.va (op_cmp rfl rfl (congrArg some hb204770) (ltn rfl)) rfl ?_
            refine VL.va (op_move rfl (ltn rfl)) rfl ?_
            by_cases c204771 : t204750 = 0
            · rw [if_pos c204771] at h
              obtain rfl : b204770 = false := hb204770.symm.trans (bne_eq_false_iff_eq.2 c204771)
              refine VL.va (op_move rfl (ltn rfl)) rfl ?_
              replace h := Option.bind_eq_some_iff.1 h
              obtain ⟨t204772, hA204773, h⟩ := h
              refine VL.sC (o_call_b0 FO12 (queue_Right.ok k r204746 v204753 t204772 hA204773) rfl rfl (ltn rfl) (All_of (.cons (.inr (.inl ⟨_, List.mem_of_getElem? (i := 0) rfl, rfl⟩)) .nil)) (by rintro _ _ _ ⟨rfl, rfl, rfl⟩; rfl)) rfl ?_
              rintro _ _ _ ⟨rfl, rfl, rfl⟩
              by_cases c204774 : t204772 = true
              · rw [if_pos c204774] at h
                obtain rfl := c204774
                refine VL.va (op_not rfl rfl (ltn rfl)) rfl ?_
                refine VL.va (op_pick rfl rfl (ltn rfl)) rfl ?_
                refine VL.done ?_
                refine VN.then ?_
                refine VC.cond_f rfl ?_
                refine VC.skip ?_
                refine VN.then ?_
                refine VC.region ?_
                refine VL.va (op_move rfl (ltn rfl)) rfl ?_
                refine VL.va (op_move rfl (ltn rfl)) rfl ?_
                refine VL.va (op_load 0 3 rfl rfl TI24 rfl (fun h => absurd h (by decide)) (ltn rfl)) rfl ?_
                refine VL.sG (o_buildSlice (vals := [(0, .agg #[.int .i64 t204747, .int .i64 t204748, .int .i64 t204749])]) (cells := #[.int .i64 t204747, .int .i64 t204748, .int .i64 t204749]) (es := List.map enc23 ([(⟨t204747, t204748, t204749⟩ : S23)] : List S23)) Try.underlying22 TI24 Z24 rfl (by decide) (by decide) (by kernel_rfl) (by kernel_rfl) rfl (flat_map enc23_ok _) (ltn rfl)) rfl ?_
                intro v204776
                by_cases c204777 : (l204617.length + ([(⟨t204747, t204748, t204749⟩ : S23)] : List S23).length) * 24 ≤ 140737488355328
                · rw [if_pos c204777] at h
                  refine VL.sG (o_append 3 appm Try.underlying22 EI24 rfl rfl rfl (.inr ⟨0, _, rfl⟩) (bndm c204777) (ltn rfl)) rfl ?_
                  intro v204778
                  refine VL.va (op_assign rfl (ltn rfl)) rfl ?_
                  refine VL.va (op_assign rfl (ltn rfl)) rfl ?_
                  refine VL.done ?_
                  refine VN.block ?_
                  refine VN.then ?_
                  refine VC.region ?_
                  refine VL.va (op_ari64 rfl rfl rfl (ltn rfl)) rfl ?_
                  refine VL.va (op_move rfl (ltn rfl)) rfl ?_
                  refine VL.done ?_
                  refine VN.again [] [1, 3, 4] (ihl9 v204753 r204746 v204778 (l204617 ++ ([(⟨t204747, t204748, t204749⟩ : S23)] : List S23)) (wrap64 (i204619 + 1)) h) ⟨rfl, ⟨rfl, rfl, rfl, rfl, rfl, rfl, rfl, trivial⟩, trivial, rfl, by decide, rfl, by decide⟩
                · rw [if_neg c204777] at h; cases h
              · rw [if_neg c204774] at h
                obtain rfl := Bool.eq_false_iff.2 c204774
                refine VL.va (op_not rfl rfl (ltn rfl)) rfl ?_
                refine VL.va (op_pick rfl rfl (ltn rfl)) rfl ?_
                refine VL.done ?_
                refine VN.then ?_
                refine VC.cond_t rfl ?_
                refine VC.seq ?_
                refine VC.region ?_
                refine VL.va (op_assign rfl (ltn rfl)) rfl ?_
                refine VL.done ?_
                refine VN.then ?_
                refine VC.ret ?_
                refine VR.then ?_
                refine VR.block ?_
                refine VR.then ?_
                refine VR.then ?_
                refine VR.block ?_
                refine VR.then ?_
                cases h
            · rw [if_neg c204771] at h
              obtain rfl : b204770 = true := hb204770.symm.trans (bne_iff_ne.2 c204771)
              refine VL.un rfl rfl (ltn rfl) ?_
              refine VL.un rfl rfl (ltn rfl) ?_
              refine VL.un rfl rfl (ltn rfl) ?_
              refine VL.va (op_pick rfl rfl (ltn rfl)) rfl ?_
              refine VL.done ?_
              refine VN.then ?_
              refine VC.cond_t rfl ?_
              refine VC.seq ?_
              refine VC.region ?_
              refine VL.va (op_assign rfl (ltn rfl)) rfl ?_
              refine VL.done ?_
              refine VN.then ?_
              refine VC.ret ?_
              refine VR.then ?_
              refine VR.block ?_
              refine VR.then ?_
              refine VR.then ?_
              refine VR.block ?_
              refine VR.then ?_
              cases h
          · rw [if_neg c204711] at h
            obtain rfl : b204691 = false := hb204691.symm.trans (decide_eq_false c204711)
            refine VC.cond_f rfl ?_
            refine VC.exit ?_
            refine VX.then ?_
            refine VX.then ?_
            refine VX.hit ?_
            refine VN.then ?_
            refine VC.seq ?_
            refine VC.region ?_
            replace h := Option.bind_eq_some_iff.1 h
            obtain ⟨t204789, hA204790, h⟩ := h
            refine VL.sC (o_call0 FO14 (tarrylaw06_alive.ok k t204789 hA204790) rfl rfl (ltn rfl) (All_of .nil)) rfl ?_
            rintro _ _ _ ⟨rfl, rfl, rfl⟩
            refine VL.va (op_move rfl (ltn rfl)) rfl ?_
            by_cases c204791 : t204789 = true
            · rw [if_pos c204791] at h
              obtain rfl := c204791
              refine VL.va (op_move rfl (ltn rfl)) rfl ?_
              refine VL.letter ((t201856 == 0)) fun b204792 hb204792 => ?_
              refine VL.va (op_cmp rfl rfl (congrArg some hb204792) (ltn rfl)) rfl ?_
              refine VL.va (op_pick rfl rfl (ltn rfl)) rfl ?_
              refine VL.va (op_move rfl (ltn rfl)) rfl ?_
              by_cases c204793 : t201856 = 0
              · rw [if_pos c204793] at h
                obtain rfl : b204792 = true := hb204792.symm.trans (beq_iff_eq.2 c204793)
                refine VL.va (op_move rfl (ltn rfl)) rfl ?_
                refine VL.va (op_len_own (m := l204614.length) 0 lenm Try.underlying22 rfl rfl (ltn rfl)) rfl ?_
                refine VL.letter (((l204614.length : Int) == 0)) fun b204794 hb204794 => ?_
                refine VL.va (op_cmp rfl rfl (congrArg some hb204794) (ltn rfl)) rfl ?_
                refine VL.va (op_pick rfl rfl (ltn rfl)) rfl ?_
                refine VL.va (op_move rfl (ltn rfl)) rfl ?_
                by_cases c204795 : (l204614.length : Int) = 0
                · rw [if_pos c204795] at h
                  obtain rfl : b204794 = true := hb204794.symm.trans (beq_iff_eq.2 c204795)
                  refine VL.va (op_move rfl (ltn rfl)) rfl ?_
                  refine VL.va (op_move rfl (ltn rfl)) rfl ?_
                  replace h := Option.bind_eq_some_iff.1 h
                  obtain ⟨t204796, hA204797, h⟩ := h
                  refine VL.sC (o_call_b0 FO17 (tarryref06_Same.ok k l204617 r201855 v204616 v201859 t204796 hA204797) rfl rfl (ltn rfl) (All_of (.cons (.inr (.inl ⟨_, List.mem_of_getElem? (i := 1) rfl, rfl⟩)) (.cons (.inr (.inl ⟨_, List.mem_of_getElem? (i := 2) rfl, rfl⟩)) .nil))) (by rintro _ _ _ ⟨rfl, rfl, rfl⟩; rfl)) rfl ?_
                  rintro _ _ _ ⟨rfl, rfl, rfl⟩
                  refine VL.va (op_pick rfl rfl (ltn rfl)) rfl ?_
                  refine VL.va (op_assign rfl (ltn rfl)) rfl ?_
                  refine VL.done ?_
                  refine VN.then ?_
                  refine VC.ret ?_
                  obtain rfl := Option.some.inj h
                  exact VR.fn (rs := [.tmp 4]) [] [] [] rfl (.tmp rfl .nil) ⟨rfl, rfl, rfl⟩ trivial rfl (by decide)
                · rw [if_neg c204795] at h
                  obtain rfl : b204794 = false := hb204794.symm.trans (beq_eq_false_iff_ne.2 c204795)
                  refine VL.un rfl rfl (ltn rfl) ?_
                  refine VL.un rfl rfl (ltn rfl) ?_
                  refine VL.un rfl rfl (ltn rfl) ?_
                  refine VL.va (op_pick rfl rfl (ltn rfl)) rfl ?_
                  refine VL.va (op_assign rfl (ltn rfl)) rfl ?_
                  refine VL.done ?_
                  refine VN.then ?_
                  refine VC.ret ?_
                  cases h
              · rw [if_neg c204793] at h
                obtain rfl : b204792 = false := hb204792.symm.trans (beq_eq_false_iff_ne.2 c204793)
                refine VL.un rfl rfl (ltn rfl) ?_
                refine VL.un rfl rfl (ltn rfl) ?_
                refine VL.un rfl rfl (ltn rfl) ?_
                refine VL.va (op_pick rfl rfl (ltn rfl)) rfl ?_
                refine VL.va (op_move rfl (ltn rfl)) rfl ?_
                refine VL.un rfl rfl (ltn rfl) ?_
                refine VL.un rfl rfl (ltn rfl) ?_
                refine VL.un rfl rfl (ltn rfl) ?_
                refine VL.va (op_pick rfl rfl (ltn rfl)) rfl ?_
                refine VL.va (op_assign rfl (ltn rfl)) rfl ?_
                refine VL.done ?_
                refine VN.then ?_
                refine VC.ret ?_
                cases h
            · rw [if_neg c204791] at h
              obtain rfl := Bool.eq_false_iff.2 c204791
              refine VL.un rfl rfl (ltn rfl) ?_
              refine VL.un rfl rfl (ltn rfl) ?_
              refine VL.va (op_pick rfl rfl (ltn rfl)) rfl ?_
              refine VL.va (op_move rfl (ltn rfl)) rfl ?_
              refine VL.un rfl rfl (ltn rfl) ?_
              refine VL.un rfl rfl (ltn rfl) ?_
              refine VL.un rfl rfl (ltn rfl) ?_
              refine VL.va (op_pick rfl rfl (ltn rfl)) rfl ?_
              refine VL.va (op_move rfl (ltn rfl)) rfl ?_
              refine VL.un rfl rfl (ltn rfl) ?_
              refine VL.un rfl rfl (ltn rfl) ?_
              refine VL.un rfl rfl (ltn rfl) ?_
              refine VL.va (op_pick rfl rfl (ltn rfl)) rfl ?_
              refine VL.va (op_assign rfl (ltn rfl)) rfl ?_
              refine VL.done ?_
              refine VN.then ?_
              refine VC.ret ?_
              cases h
        · rw [if_neg c201860] at h; cases h
    · rw [if_neg c3] at h; cases h
  · rw [if_neg c2] at h; cases h

end Go.Proofs.Ythgoagnennjagaa.PQueueOrders
