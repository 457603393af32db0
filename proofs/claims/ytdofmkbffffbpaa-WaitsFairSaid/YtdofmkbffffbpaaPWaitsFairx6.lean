/- Written by a program of this repo: what the program's functions do, each as a Lean function, shown of the loaded code; or a statement's row over that; no condition of its own. -/
import Derived.Test.YtdofmkbffffbpaaPWaitsFairx5
namespace Go.Proofs.Ytdofmkbffffbpaa.PWaitsFair
open Go Go.RowKit Go.Proofs.YtdofmkbffffbpaaV
set_option linter.unusedVariables false
set_option linter.unusedSimpArgs false

set_option maxHeartbeats 4000000 in
set_option maxRecDepth 100000 in
theorem waits_Find.ok (k : Nat) (l0 : List S25) (a1 : Int) (v0 : Value) (r1 : ByteArray) (r2 : Int) (r3 : Int) (r4 : Int) (r5 : Int) (h : waits_Find.f k l0 a1 = some (r1, r2, r3, r4, r5)) :
    VCalls Try.prog 21 [v0, .int .i64 a1] [.row v0 4 (l0.map enc25)] (fun v G own => v = .tuple #[.agg #[.string r1, .int .i64 r2, .int .i64 r3, .int .i64 r4], .int .i64 r5] ∧ G = [] ∧ own = []) := by
  refine VCalls.intro Try.func21 rfl (len rfl) fun E hC hW hD hU => ?_
  unfold waits_Find.f at h
  refine VC.seq ?_
  refine VC.region ?_
  refine VL.sG (o_alloc Z26 ZL26 (ltn rfl)) rfl ?_
  intro g2620
  refine VL.va (op_assign rfl (ltn rfl)) rfl ?_
  refine VL.done ?_
  refine VN.then ?_
  refine VC.seq ?_
  refine VC.region ?_
  refine VL.va (op_move rfl (ltn rfl)) rfl ?_
  refine VL.va (op_move rfl (ltn rfl)) rfl ?_
  replace h := Option.bind_eq_some_iff.1 h
  obtain ⟨⟨t2621, t2622⟩, hA2623, h⟩ := h
  dsimp only at h
  refine VL.sC (o_call0 FO41 (waits_at.ok k l0 a1 v0 t2621 t2622 hA2623) rfl rfl (ltn rfl) (All_of (.cons (List.mem_of_getElem? (i := 0) rfl) .nil))) rfl ?_
  rintro _ _ _ ⟨rfl, rfl, rfl⟩
  refine VL.va (op_move rfl (ltn rfl)) rfl ?_
  refine VL.va (op_extract rfl rfl (ltn rfl)) rfl ?_
  refine VL.va (op_extract rfl rfl (ltn rfl)) rfl ?_
  refine VL.va (op_assign rfl (ltn rfl)) rfl ?_
  refine VL.va (op_assign rfl (ltn rfl)) rfl ?_
  refine VL.done ?_
  refine VN.then ?_
  refine VC.seq ?_
  refine VC.seq ?_
  refine VC.region ?_
  refine VL.va (op_move rfl (ltn rfl)) rfl ?_
  refine VL.letter ((t2622 != 0)) fun b2626 hb2626 => ?_
  refine VL.va (op_cmp rfl rfl (congrArg some hb2626) (ltn rfl)) rfl ?_
  refine VL.done ?_
  refine VN.then ?_
  by_cases c2627 : t2622 = 0
  · rw [if_pos c2627] at h
    obtain rfl : b2626 = false := hb2626.symm.trans (bne_eq_false_iff_eq.2 c2627)
    refine VC.cond_f rfl ?_
    refine VC.skip ?_
    refine VN.then ?_
    refine VC.seq ?_
    refine VC.region ?_
    refine VL.va (op_move rfl (ltn rfl)) rfl ?_
    refine VL.va (op_move rfl (ltn rfl)) rfl ?_
    by_cases c2628 : 0 ≤ t2621
    · rw [if_pos c2628] at h
      replace h := Option.bind_eq_some_iff.1 h
      obtain ⟨x2629, hx2629, h⟩ := h
      refine VL.open (m := l0.length) 0 lenm rfl (pos_get hx2629) ?_
      rintro ad2630 n2631 rfl
      refine VL.va (op_indexAddr Try.underlying22 TI26 rfl rfl c2628 (lt_get c2628 hx2629) rfl (ltn rfl)) rfl ?_
      refine VL.va (op_load_row (sz := 4) (o := 0) 0 t2621.toNat 4 rfl rfl (get_map hx2629) TI26 rfl (fun h => absurd h (by decide)) (ltn rfl)) rfl ?_
      refine VL.step1 (o_store 0 4 rfl rfl rfl TI26 (.agg (.of rfl)) rfl (len rfl)) rfl ?_
      refine VL.va (op_assign rfl (ltn rfl)) rfl ?_
      refine VL.done ?_
      refine VN.then ?_
      refine VC.ret ?_
      simp only [Option.some.injEq, Prod.mk.injEq] at h
      obtain ⟨rfl, rfl, rfl, rfl, rfl⟩ := h
      exact VR.fn (rs := [.cell 4 26, .tmp 5]) [] [] [] rfl (.cell 0 rfl rfl TI26 (fun h => absurd h (by decide)) (.tmp rfl .nil)) ⟨rfl, rfl, rfl⟩ trivial rfl (by decide)
    · rw [if_neg c2628] at h; cases h
  · rw [if_neg c2627] at h
    obtain rfl : b2626 = true := hb2626.symm.trans (bne_iff_ne.2 c2627)
    refine VC.cond_t rfl ?_
    refine VC.seq ?_
    refine VC.region ?_
    refine VL.va (op_build (vals := []) (vcs := []) (cells := [.string (⟨#[]⟩ : ByteArray), .int .i64 0, .int .i64 0, .int .i64 0]) SI26 rfl .nil (by kernel_rfl) (ltn rfl)) rfl ?_
    refine VL.va (op_move rfl (ltn rfl)) rfl ?_
    refine VL.step1 (o_store 0 4 rfl rfl rfl TI26 (.agg (.of rfl)) rfl (len rfl)) rfl ?_
    refine VL.va (op_assign rfl (ltn rfl)) rfl ?_
    refine VL.done ?_
    refine VN.then ?_
    refine VC.ret ?_
    refine VR.then ?_
    simp only [Option.some.injEq, Prod.mk.injEq] at h
    obtain ⟨rfl, rfl, rfl, rfl, rfl⟩ := h
    exact VR.fn (rs := [.cell 4 26, .tmp 5]) [] [] [] rfl (.cell 0 rfl rfl TI26 (fun h => absurd h (by decide)) (.tmp rfl .nil)) ⟨rfl, rfl, rfl⟩ trivial rfl (by decide)

end Go.Proofs.Ytdofmkbffffbpaa.PWaitsFair
