/- Written by a program of this repo: what the program's functions do, each as a Lean function, shown of the loaded code; or a statement's row over that; no condition of its own. -/
import Derived.Test.YtdofmkbffffbpaaPWaitsGox8
namespace Go.Proofs.Ytdofmkbffffbpaa.PWaitsGo
open Go Go.RowKit Go.Proofs.YtdofmkbffffbpaaV
set_option linter.unusedVariables false
set_option linter.unusedSimpArgs false

set_option maxHeartbeats 4000000 in
set_option maxRecDepth 100000 in
theorem tarryref09_Without.ok (k : Nat) (l0 : List S25) (a1 : Int) (v0 : Value) (r1 : List S25) (h : tarryref09_Without.f k l0 a1 = some r1) :
    VCalls Try.prog 28 [v0, .int .i64 a1] [.row v0 4 (l0.map enc25)] (fun v G own => ∃ w0 : Value, v = w0 ∧ G = [] ∧ own = [(w0, 26, 4, r1.map enc25)]) := by
  refine VCalls.intro Try.func28 rfl (len rfl) fun E hC hW hD hU => ?_
  unfold tarryref09_Without.f at h
  refine VC.seq ?_
  refine VC.region ?_
  refine VL.va (op_assign rfl (ltn rfl)) rfl ?_
  refine VL.done ?_
  refine VN.then ?_
  refine VC.seq ?_
  refine VC.region ?_
  refine VL.sG (o_buildSlice (vals := []) (cells := #[]) (es := List.map enc25 ([] : List S25)) Try.underlying22 TI26 Z26 rfl (by decide) (by decide) (by kernel_rfl) (by kernel_rfl) rfl (flat_map enc25_ok _) (ltn rfl)) rfl ?_
  intro v6118
  refine VL.va (op_assign rfl (ltn rfl)) rfl ?_
  refine VL.done ?_
  refine VN.then ?_
  refine VC.seq ?_
  refine VC.seq ?_
  refine VC.region ?_
  refine VL.va (op_move rfl (ltn rfl)) rfl ?_
  refine VL.va (op_len (m := l0.length) 0 lenm Try.underlying22 rfl rfl (ltn rfl)) rfl ?_
  refine VL.va (op_move rfl (ltn rfl)) rfl ?_
  refine VL.done ?_
  refine VN.then ?_
  refine VC.block ?_
  refine VC.loop3 (fun (v6228 : Value) (l6229 : List S25) (i6230 : Int) => ⟨26, [(1, .int .i64 a1), (4, .slice none 0 0), (5, v6228), (9, v0), (10, .int .i64 (l0.length : Int)), (11, .int .i64 i6230)], [.row v0 4 (l0.map enc25)], [], [(v6228, 26, 4, l6229.map enc25)]⟩) (fun (ml1 : Nat) (v6228 : Value) (l6229 : List S25) (i6230 : Int) => tarryref09_Without.l1 k a1 l0 ml1 l6229 i6230 = some r1) k v6118 ([] : List S25) 0 [] [0] h ⟨rfl, ⟨rfl, rfl, rfl, rfl, rfl, rfl, trivial⟩, ⟨⟨0, rfl⟩, trivial⟩, rfl, by decide, rfl, by decide⟩ (by intros; simp [tarryref09_Without.l1]) ?_
  clear h
  intro ml1 ihl1 v6228 l6229 i6230 h
  simp only [tarryref09_Without.l1] at h
  refine VC.seq ?_
  refine VC.region ?_
  refine VL.letter (decide (i6230 < (l0.length : Int))) fun b6258 hb6258 => ?_
  refine VL.va (op_cmp rfl rfl (congrArg some hb6258) (ltn rfl)) rfl ?_
  refine VL.done ?_
  refine VN.then ?_
  refine VC.seq ?_
  by_cases c6260 : i6230 < (l0.length : Int)
  · rw [if_pos c6260] at h
    obtain rfl : b6258 = true := hb6258.symm.trans (decide_eq_true c6260)
    refine VC.cond_t rfl ?_
    refine VC.skip ?_
    refine VN.then ?_
    refine VC.seq ?_
    refine VC.block ?_
    refine VC.seq ?_
    refine VC.region ?_
    by_cases c6273 : 0 ≤ i6230
    · rw [if_pos c6273] at h
      replace h := Option.bind_eq_some_iff.1 h
      obtain ⟨x6274, hx6274, h⟩ := h
      refine VL.open (m := l0.length) 0 lenm rfl (pos_get hx6274) ?_
      rintro ad6275 n6276 rfl
      refine VL.va (op_indexAddr Try.underlying22 TI26 rfl rfl c6273 (lt_get c6273 hx6274) rfl (ltn rfl)) rfl ?_
      refine VL.va (op_load_row (sz := 4) (o := 0) 0 i6230.toNat 4 rfl rfl (get_map hx6274) TI26 rfl (fun h => absurd h (by decide)) (ltn rfl)) rfl ?_
      refine VL.sG (o_alloc Z26 ZL26 (ltn rfl)) rfl ?_
      intro g6277
      refine VL.step1 (o_store 0 4 rfl rfl rfl TI26 (.agg (.of rfl)) rfl (len rfl)) rfl ?_
      refine VL.done ?_
      refine VN.then ?_
      refine VC.seq ?_
      refine VC.region ?_
      refine VL.va (op_fieldAddr FI26_1 rfl (add_at _ _ _) (ltn rfl)) rfl ?_
      refine VL.va (op_fieldAddr FI24_2 rfl (add_at _ _ _) (ltn rfl)) rfl ?_
      refine VL.va (op_load 0 1 rfl rfl TI3 rfl (by decide) (ltn rfl)) rfl ?_
      refine VL.va (op_move rfl (ltn rfl)) rfl ?_
      refine VL.letter ((x6274.f3 != a1)) fun b6278 hb6278 => ?_
      refine VL.va (op_cmp rfl rfl (congrArg some hb6278) (ltn rfl)) rfl ?_
      refine VL.done ?_
      refine VN.then ?_
      by_cases c6279 : x6274.f3 = a1
      · rw [if_pos c6279] at h
        obtain rfl : b6278 = false := hb6278.symm.trans (bne_eq_false_iff_eq.2 c6279)
        refine VC.cond_f rfl ?_
        refine VC.skip ?_
        refine VN.block ?_
        refine VN.then ?_
        refine VC.region ?_
        refine VL.va (op_ari64 rfl rfl rfl (ltn rfl)) rfl ?_
        refine VL.va (op_move rfl (ltn rfl)) rfl ?_
        refine VL.done ?_
        refine VN.again [] [0] (ihl1 v6228 l6229 (wrap64 (i6230 + 1)) h) ⟨rfl, ⟨rfl, rfl, rfl, rfl, rfl, rfl, trivial⟩, ⟨⟨0, rfl⟩, trivial⟩, rfl, by decide, rfl, by decide⟩
      · rw [if_neg c6279] at h
        obtain rfl : b6278 = true := hb6278.symm.trans (bne_iff_ne.2 c6279)
        refine VC.cond_t rfl ?_
        refine VC.region ?_
        refine VL.va (op_move rfl (ltn rfl)) rfl ?_
        refine VL.va (op_load 0 4 rfl rfl TI26 rfl (fun h => absurd h (by decide)) (ltn rfl)) rfl ?_
        refine VL.sG (o_buildSlice (vals := [(0, .agg #[.string x6274.f0, .int .i64 x6274.f1, .int .i64 x6274.f2, .int .i64 x6274.f3])]) (cells := #[.string x6274.f0, .int .i64 x6274.f1, .int .i64 x6274.f2, .int .i64 x6274.f3]) (es := List.map enc25 ([x6274] : List S25)) Try.underlying22 TI26 Z26 rfl (by decide) (by decide) (by kernel_rfl) (by kernel_rfl) rfl (flat_map enc25_ok _) (ltn rfl)) rfl ?_
        intro v6281
        by_cases c6282 : (l6229.length + ([x6274] : List S25).length) * 40 ≤ 140737488355328
        · rw [if_pos c6282] at h
          refine VL.sG (o_append 1 appm Try.underlying22 EI26 rfl rfl rfl (.inr ⟨0, _, rfl⟩) (bndm c6282) (ltn rfl)) rfl ?_
          intro v6283
          refine VL.va (op_assign rfl (ltn rfl)) rfl ?_
          refine VL.done ?_
          refine VN.block ?_
          refine VN.then ?_
          refine VC.region ?_
          refine VL.va (op_ari64 rfl rfl rfl (ltn rfl)) rfl ?_
          refine VL.va (op_move rfl (ltn rfl)) rfl ?_
          refine VL.done ?_
          refine VN.again [] [1] (ihl1 v6283 (l6229 ++ ([x6274] : List S25)) (wrap64 (i6230 + 1)) h) ⟨rfl, ⟨rfl, rfl, rfl, rfl, rfl, rfl, trivial⟩, ⟨⟨0, rfl⟩, trivial⟩, rfl, by decide, rfl, by decide⟩
        · rw [if_neg c6282] at h; cases h
    · rw [if_neg c6273] at h; cases h
  · rw [if_neg c6260] at h
    obtain rfl : b6258 = false := hb6258.symm.trans (decide_eq_false c6260)
    refine VC.cond_f rfl ?_
    refine VC.exit ?_
    refine VX.then ?_
    refine VX.then ?_
    refine VX.hit ?_
    refine VN.then ?_
    refine VC.seq ?_
    refine VC.region ?_
    refine VL.va (op_move rfl (ltn rfl)) rfl ?_
    refine VL.va (op_assign rfl (ltn rfl)) rfl ?_
    refine VL.done ?_
    refine VN.then ?_
    refine VC.ret ?_
    obtain rfl := Option.some.inj h
    exact VR.fn (rs := [.tmp 4]) [] [(v6228, 26, 4, l6229.map enc25)] [0] rfl (.tmp rfl .nil) ⟨v6228, rfl, rfl, rfl⟩ trivial rfl (by decide)
set_option maxHeartbeats 4000000 in
set_option maxRecDepth 100000 in
theorem tarryref09_With.ok (k : Nat) (l0 : List S25) (a1_0 : ByteArray) (a1_1 : Int) (a1_2 : Int) (a1_3 : Int) (v0 : Value) (r1 : List S25) (h : tarryref09_With.f k l0 a1_0 a1_1 a1_2 a1_3 = some r1) :
    VCalls Try.prog 19 [v0, .agg #[.string a1_0, .int .i64 a1_1, .int .i64 a1_2, .int .i64 a1_3]] [.row v0 4 (l0.map enc25)] (fun v G own => ∃ w0 : Value, v = w0 ∧ G = [] ∧ own = [(w0, 26, 4, r1.map enc25)]) := by
  refine VCalls.intro Try.func19 rfl (len rfl) fun E hC hW hD hU => ?_
  unfold tarryref09_With.f at h
  refine VC.seq ?_
  refine VC.region ?_
  refine VL.sG (o_box rfl (.agg (.of rfl)) (ltn rfl)) rfl ?_
  intro g6290
  refine VL.va (op_assign rfl (ltn rfl)) rfl ?_
  refine VL.done ?_
  refine VN.then ?_
  refine VC.seq ?_
  refine VC.region ?_
  refine VL.sG (o_buildSlice (vals := []) (cells := #[]) (es := List.map enc25 ([] : List S25)) Try.underlying22 TI26 Z26 rfl (by decide) (by decide) (by kernel_rfl) (by kernel_rfl) rfl (flat_map enc25_ok _) (ltn rfl)) rfl ?_
  intro v6292
  refine VL.va (op_assign rfl (ltn rfl)) rfl ?_
  refine VL.done ?_
  refine VN.then ?_
  refine VC.seq ?_
  refine VC.region ?_
  refine VL.va (op_move rfl (ltn rfl)) rfl ?_
  refine VL.va (op_move rfl (ltn rfl)) rfl ?_
  by_cases c6293 : (([] : List S25).length + l0.length) * 40 ≤ 140737488355328
  · rw [if_pos c6293] at h
    refine VL.sG (o_append 0 appm Try.underlying22 EI26 rfl rfl rfl (.inl ⟨0, rfl⟩) (bndm c6293) (ltn rfl)) rfl ?_
    intro v6294
    refine VL.va (op_assign rfl (ltn rfl)) rfl ?_
    refine VL.done ?_
    refine VN.then ?_
    refine VC.seq ?_
    refine VC.region ?_
    refine VL.va (op_move rfl (ltn rfl)) rfl ?_
    refine VL.va (op_load 0 4 rfl rfl TI26 rfl (fun h => absurd h (by decide)) (ltn rfl)) rfl ?_
    refine VL.sG (o_buildSlice (vals := [(0, .agg #[.string a1_0, .int .i64 a1_1, .int .i64 a1_2, .int .i64 a1_3])]) (cells := #[.string a1_0, .int .i64 a1_1, .int .i64 a1_2, .int .i64 a1_3]) (es := List.map enc25 ([(⟨a1_0, a1_1, a1_2, a1_3⟩ : S25)] : List S25)) Try.underlying22 TI26 Z26 rfl (by decide) (by decide) (by kernel_rfl) (by kernel_rfl) rfl (flat_map enc25_ok _) (ltn rfl)) rfl ?_
    intro v6297
    by_cases c6298 : ((([] : List S25) ++ l0).length + ([(⟨a1_0, a1_1, a1_2, a1_3⟩ : S25)] : List S25).length) * 40 ≤ 140737488355328
    · rw [if_pos c6298] at h
      refine VL.sG (o_append 1 appm Try.underlying22 EI26 rfl rfl rfl (.inr ⟨0, _, rfl⟩) (bndm c6298) (ltn rfl)) rfl ?_
      intro v6299
      refine VL.va (op_assign rfl (ltn rfl)) rfl ?_
      refine VL.done ?_
      refine VN.then ?_
      refine VC.seq ?_
      refine VC.region ?_
      refine VL.va (op_move rfl (ltn rfl)) rfl ?_
      replace h := Option.bind_eq_some_iff.1 h
      obtain ⟨r6301, hA6302, h⟩ := h
      refine VL.sC (o_call_b0 FO16 (tarryref09_Make.ok k ((([] : List S25) ++ l0) ++ ([(⟨a1_0, a1_1, a1_2, a1_3⟩ : S25)] : List S25)) v6299 r6301 hA6302) rfl rfl (ltn rfl) (All_of (.cons (.inr (.inl ⟨_, List.mem_of_getElem? (i := 1) rfl, rfl⟩)) .nil)) (by rintro _ _ _ ⟨v6304, rfl, rfl, rfl⟩; rfl)) rfl ?_
      rintro v6304 _ _ ⟨_, rfl, rfl, rfl⟩
      refine VL.va (op_assign rfl (ltn rfl)) rfl ?_
      refine VL.done ?_
      refine VN.then ?_
      refine VC.ret ?_
      obtain rfl := Option.some.inj h
      exact VR.fn (rs := [.tmp 4]) [] [(v6304, 26, 4, r6301.map enc25)] [0] rfl (.tmp rfl .nil) ⟨v6304, rfl, rfl, rfl⟩ trivial rfl (by decide)
    · rw [if_neg c6298] at h; cases h
  · rw [if_neg c6293] at h; cases h

end Go.Proofs.Ytdofmkbffffbpaa.PWaitsGo
