/- Written by a program of this repo: what the program's functions do, each as a Lean function, shown of the loaded code; or a statement's row over that; no condition of its own. -/
import Derived.Test.YthgoagnennjagaaPQueueOrdersx3
namespace Go.Proofs.Ythgoagnennjagaa.PQueueOrders
open Go Go.RowKit Go.Proofs.YthgoagnennjagaaV
set_option linter.unusedVariables false
set_option linter.unusedSimpArgs false

set_option maxHeartbeats 4000000 in
set_option maxRecDepth 100000 in
theorem tarrylaw06_alive.ok (k : Nat)   (r1 : Bool) (h : tarrylaw06_alive.f k = some r1) :
    VCalls Try.prog 14 [] [] (fun v G own => v = .bool r1 ∧ G = [] ∧ own = []) := by
  refine VCalls.intro Try.func14 rfl (len rfl) fun E hC => ?_
  unfold tarrylaw06_alive.f at h
  refine VC.seq ?_
  refine VC.region ?_
  refine VL.va (op_assign rfl (ltn rfl)) rfl ?_
  refine VL.done ?_
  refine VN.then ?_
  refine VC.seq ?_
  refine VC.region ?_
  refine VL.va (op_build (vals := [(0, .int .i64 1), (1, .int .i64 1), (2, .int .i64 1)]) (vcs := [(0, [.int .i64 1]), (1, [.int .i64 1]), (2, [.int .i64 1])]) (cells := [.int .i64 1, .int .i64 1, .int .i64 1]) SI24 rfl (.cons ⟨rfl, (.c rfl)⟩ (.cons ⟨rfl, (.c rfl)⟩ (.cons ⟨rfl, (.c rfl)⟩ .nil))) (by kernel_rfl) (ltn rfl)) rfl ?_
  refine VL.va (op_build (vals := [(0, .int .i64 0), (1, .int .i64 9), (2, .int .i64 2)]) (vcs := [(0, [.int .i64 0]), (1, [.int .i64 9]), (2, [.int .i64 2])]) (cells := [.int .i64 0, .int .i64 9, .int .i64 2]) SI24 rfl (.cons ⟨rfl, (.c rfl)⟩ (.cons ⟨rfl, (.c rfl)⟩ (.cons ⟨rfl, (.c rfl)⟩ .nil))) (by kernel_rfl) (ltn rfl)) rfl ?_
  refine VL.sG (o_buildSlice (vals := [(0, .agg #[.int .i64 1, .int .i64 1, .int .i64 1]), (1, .agg #[.int .i64 0, .int .i64 9, .int .i64 2])]) (cells := #[.int .i64 1, .int .i64 1, .int .i64 1, .int .i64 0, .int .i64 9, .int .i64 2]) (es := List.map enc23 ([(⟨1, 1, 1⟩ : S23), (⟨0, 9, 2⟩ : S23)] : List S23)) Try.underlying22 TI24 Z24 rfl (by decide) (by decide) (by kernel_rfl) (by kernel_rfl) rfl (flat_map enc23_ok _) (ltn rfl)) rfl ?_
  intro v9
  replace h := Option.bind_eq_some_iff.1 h
  obtain ⟨⟨r66765, t66766⟩, hA66767, h⟩ := h
  dsimp only at h
  refine VL.sC (o_call_b0 FO8 (queue_Make.ok k ([(⟨1, 1, 1⟩ : S23), (⟨0, 9, 2⟩ : S23)] : List S23) v9 r66765 t66766 hA66767) rfl rfl (ltn rfl) (All_of (.cons (.inr (.inl ⟨_, List.mem_of_getElem? (i := 0) rfl, rfl⟩)) .nil)) (by rintro _ _ _ ⟨v66769, rfl, rfl, rfl⟩; rfl)) rfl ?_
  rintro _ _ _ ⟨v66769, rfl, rfl, rfl⟩
  refine VL.va (op_move rfl (ltn rfl)) rfl ?_
  refine VL.va (op_extract rfl rfl (ltn rfl)) rfl ?_
  refine VL.va (op_extract rfl rfl (ltn rfl)) rfl ?_
  refine VL.va (op_assign rfl (ltn rfl)) rfl ?_
  refine VL.va (op_assign rfl (ltn rfl)) rfl ?_
  refine VL.done ?_
  refine VN.then ?_
  refine VC.seq ?_
  refine VC.region ?_
  refine VL.va (op_move rfl (ltn rfl)) rfl ?_
  replace h := Option.bind_eq_some_iff.1 h
  obtain ⟨⟨r111427, t111428, t111429, t111430, t111431⟩, hA111432, h⟩ := h
  dsimp only at h
  refine VL.sC (o_call_b0 FO19 (queue_Pop.ok k r66765 v66769 r111427 t111428 t111429 t111430 t111431 hA111432) rfl rfl (ltn rfl) (All_of (.cons (.inr (.inl ⟨_, List.mem_of_getElem? (i := 0) rfl, rfl⟩)) .nil)) (by rintro _ _ _ ⟨v111434, rfl, rfl, rfl⟩; rfl)) rfl ?_
  rintro _ _ _ ⟨v111434, rfl, rfl, rfl⟩
  refine VL.va (op_move rfl (ltn rfl)) rfl ?_
  refine VL.va (op_extract rfl rfl (ltn rfl)) rfl ?_
  refine VL.va (op_extract rfl rfl (ltn rfl)) rfl ?_
  refine VL.va (op_extract rfl rfl (ltn rfl)) rfl ?_
  refine VL.sG (o_alloc Z24 ZL24 (ltn rfl)) rfl ?_
  intro g111435
  refine VL.va (op_assign rfl (ltn rfl)) rfl ?_
  refine VL.step1 (o_store 0 3 rfl rfl rfl TI24 (.agg (.of rfl)) rfl (len rfl)) rfl ?_
  refine VL.va (op_assign rfl (ltn rfl)) rfl ?_
  refine VL.done ?_
  refine VN.then ?_
  refine VC.seq ?_
  refine VC.region ?_
  refine VL.va (op_move rfl (ltn rfl)) rfl ?_
  refine VL.letter ((t66766 == 0)) fun b111443 hb111443 => ?_
  refine VL.va (op_cmp rfl rfl (congrArg some hb111443) (ltn rfl)) rfl ?_
  refine VL.va (op_move rfl (ltn rfl)) rfl ?_
  by_cases c111444 : t66766 = 0
  · rw [if_pos c111444] at h
    obtain rfl : b111443 = true := hb111443.symm.trans (beq_iff_eq.2 c111444)
    refine VL.va (op_move rfl (ltn rfl)) rfl ?_
    refine VL.letter ((t111431 == 0)) fun b111445 hb111445 => ?_
    refine VL.va (op_cmp rfl rfl (congrArg some hb111445) (ltn rfl)) rfl ?_
    refine VL.va (op_pick rfl rfl (ltn rfl)) rfl ?_
    refine VL.va (op_move rfl (ltn rfl)) rfl ?_
    by_cases c111446 : t111431 = 0
    · rw [if_pos c111446] at h
      obtain rfl : b111445 = true := hb111445.symm.trans (beq_iff_eq.2 c111446)
      refine VL.va (op_fieldAddr FI24_2 rfl (add_at _ _ _) (ltn rfl)) rfl ?_
      refine VL.va (op_load 0 1 rfl rfl TI3 rfl (by decide) (ltn rfl)) rfl ?_
      refine VL.letter ((t111430 == 2)) fun b111447 hb111447 => ?_
      refine VL.va (op_cmp rfl rfl (congrArg some hb111447) (ltn rfl)) rfl ?_
      refine VL.va (op_pick rfl rfl (ltn rfl)) rfl ?_
      refine VL.va (op_move rfl (ltn rfl)) rfl ?_
      by_cases c111448 : t111430 = 2
      · rw [if_pos c111448] at h
        obtain rfl : b111447 = true := hb111447.symm.trans (beq_iff_eq.2 c111448)
        refine VL.va (op_move rfl (ltn rfl)) rfl ?_
        refine VL.va (op_len_own (m := r111427.length) 0 lenm Try.underlying22 rfl rfl (ltn rfl)) rfl ?_
        refine VL.letter (((r111427.length : Int) == 1)) fun b111449 hb111449 => ?_
        refine VL.va (op_cmp rfl rfl (congrArg some hb111449) (ltn rfl)) rfl ?_
        refine VL.va (op_pick rfl rfl (ltn rfl)) rfl ?_
        refine VL.va (op_assign rfl (ltn rfl)) rfl ?_
        refine VL.done ?_
        refine VN.then ?_
        refine VC.ret ?_
        obtain rfl := Option.some.inj h
        subst hb111449
        exact VR.fn (rs := [.tmp 0]) [] [] [] rfl (.tmp rfl .nil) ⟨rfl, rfl, rfl⟩ trivial rfl (by decide)
      · rw [if_neg c111448] at h
        obtain rfl : b111447 = false := hb111447.symm.trans (beq_eq_false_iff_ne.2 c111448)
        refine VL.un rfl rfl (ltn rfl) ?_
        refine VL.un rfl rfl (ltn rfl) ?_
        refine VL.un rfl rfl (ltn rfl) ?_
        refine VL.va (op_pick rfl rfl (ltn rfl)) rfl ?_
        refine VL.va (op_assign rfl (ltn rfl)) rfl ?_
        refine VL.done ?_
        refine VN.then ?_
        refine VC.ret ?_
        obtain rfl := Option.some.inj h
        exact VR.fn (rs := [.tmp 0]) [] [] [] rfl (.tmp rfl .nil) ⟨rfl, rfl, rfl⟩ trivial rfl (by decide)
    · rw [if_neg c111446] at h
      obtain rfl : b111445 = false := hb111445.symm.trans (beq_eq_false_iff_ne.2 c111446)
      refine VL.un rfl rfl (ltn rfl) ?_
      refine VL.un rfl rfl (ltn rfl) ?_
      refine VL.un rfl rfl (ltn rfl) ?_
      refine VL.va (op_pick rfl rfl (ltn rfl)) rfl ?_
      refine VL.va (op_move rfl (ltn rfl)) rfl ?_
      refine VL.un rfl rfl (ltn rfl) ?_
      refine VL.un rfl rfl (ltn rfl) ?_
      refine VL.un rfl rfl (ltn rfl) ?_
      refine VL.va (op_pick rfl rfl (ltn rfl)) rfl ?_
      refine VL.va (op_assign rfl (ltn rfl)) rfl ?_
      refine VL.done ?_
      refine VN.then ?_
      refine VC.ret ?_
      obtain rfl := Option.some.inj h
      exact VR.fn (rs := [.tmp 0]) [] [] [] rfl (.tmp rfl .nil) ⟨rfl, rfl, rfl⟩ trivial rfl (by decide)
  · rw [if_neg c111444] at h
    obtain rfl : b111443 = false := hb111443.symm.trans (beq_eq_false_iff_ne.2 c111444)
    refine VL.un rfl rfl (ltn rfl) ?_
    refine VL.un rfl rfl (ltn rfl) ?_
    refine VL.va (op_pick rfl rfl (ltn rfl)) rfl ?_
    refine VL.va (op_move rfl (ltn rfl)) rfl ?_
    refine VL.un rfl rfl (ltn rfl) ?_
    refine VL.un rfl rfl (ltn rfl) ?_
    refine VL.un rfl rfl (ltn rfl) ?_
    refine VL.va (op_pick rfl rfl (ltn rfl)) rfl ?_
    refine VL.va (op_move rfl (ltn rfl)) rfl ?_
    refine VL.un rfl rfl (ltn rfl) ?_
    refine VL.un rfl rfl (ltn rfl) ?_
    refine VL.un rfl rfl (ltn rfl) ?_
    refine VL.va (op_pick rfl rfl (ltn rfl)) rfl ?_
    refine VL.va (op_assign rfl (ltn rfl)) rfl ?_
    refine VL.done ?_
    refine VN.then ?_
    refine VC.ret ?_
    obtain rfl := Option.some.inj h
    exact VR.fn (rs := [.tmp 0]) [] [] [] rfl (.tmp rfl .nil) ⟨rfl, rfl, rfl⟩ trivial rfl (by decide)

end Go.Proofs.Ythgoagnennjagaa.PQueueOrders
