/- Written by a program of this repo: what the program's functions do, each as a Lean function, shown of the loaded code; or a statement's row over that; no condition of its own. -/
import Derived.Test.YtoiihpmncphplaaPGoodsStayx4
namespace Go.Proofs.Ytoiihpmncphplaa.PGoodsStay
open Go Go.RowKit Go.Proofs.YtoiihpmncphplaaV
set_option linter.unusedVariables false
set_option linter.unusedSimpArgs false

set_option maxHeartbeats 4000000 in
set_option maxRecDepth 100000 in
theorem slices_IndexFunc_api_Sub_api_Sub_s35.ok (k : Nat) (l0 : List S22) (a1_0_0 : ByteArray) (v0 : Value) (p1_0 : Nat) (r1 : Int) (h : slices_IndexFunc_api_Sub_api_Sub_s35.f k l0 a1_0_0 = some r1) :
    VCalls Try.prog 44 [v0, (.func (.func 32) #[] #[.pointer (some ⟨p1_0, 0, none⟩)])] [.row v0 5 (l0.map enc22), .at_ ⟨p1_0, 0, none⟩ [.string a1_0_0]] (fun v G own => v = .int .i64 r1 ∧ G = [] ∧ own = []) := by
  refine VCalls.intro Try.func44 rfl (len rfl) fun E hC => ?_
  unfold slices_IndexFunc_api_Sub_api_Sub_s35.f at h
  refine VC.seq ?_
  refine VC.region ?_
  refine VL.va (op_assign rfl (ltn rfl)) rfl ?_
  refine VL.done ?_
  refine VN.then ?_
  refine VC.seq ?_
  refine VC.seq ?_
  refine VC.region ?_
  refine VL.va (op_move rfl (ltn rfl)) rfl ?_
  refine VL.va (op_len (m := l0.length) 0 lenm Try.underlying33 rfl rfl (ltn rfl)) rfl ?_
  refine VL.va (op_move rfl (ltn rfl)) rfl ?_
  refine VL.done ?_
  refine VN.then ?_
  refine VC.block ?_
  refine VC.loop1 (fun (i2224 : Int) => ⟨19, [(0, v0), (1, (.func (.func 32) #[] #[.pointer (some ⟨p1_0, 0, none⟩)])), (4, .int .i64 0), (7, .int .i64 (l0.length : Int)), (8, .int .i64 i2224)], [.at_ ⟨p1_0, 0, none⟩ [.string a1_0_0], .row v0 5 (l0.map enc22)], [], []⟩) (fun (ml1 : Nat) (i2224 : Int) => slices_IndexFunc_api_Sub_api_Sub_s35.l1 k a1_0_0 l0 ml1 i2224 = some r1) k 0 [] [] h ⟨rfl, ⟨rfl, rfl, rfl, rfl, rfl, trivial⟩, ⟨⟨1, rfl⟩, ⟨0, rfl⟩, trivial⟩, rfl, by decide, rfl, by decide⟩ (by intros; simp [slices_IndexFunc_api_Sub_api_Sub_s35.l1]) ?_
  clear h
  intro ml1 ihl1 i2224 h
  simp only [slices_IndexFunc_api_Sub_api_Sub_s35.l1] at h
  refine VC.seq ?_
  refine VC.region ?_
  refine VL.letter (decide (i2224 < (l0.length : Int))) fun b2242 hb2242 => ?_
  refine VL.va (op_cmp rfl rfl (congrArg some hb2242) (ltn rfl)) rfl ?_
  refine VL.done ?_
  refine VN.then ?_
  refine VC.seq ?_
  by_cases c2244 : i2224 < (l0.length : Int)
  · rw [if_pos c2244] at h
    obtain rfl : b2242 = true := hb2242.symm.trans (decide_eq_true c2244)
    refine VC.cond_t rfl ?_
    refine VC.skip ?_
    refine VN.then ?_
    refine VC.seq ?_
    refine VC.block ?_
    refine VC.seq ?_
    refine VC.region ?_
    refine VL.va (op_move rfl (ltn rfl)) rfl ?_
    refine VL.va (op_assign rfl (ltn rfl)) rfl ?_
    refine VL.done ?_
    refine VN.then ?_
    refine VC.seq ?_
    refine VC.region ?_
    refine VL.va (op_move rfl (ltn rfl)) rfl ?_
    refine VL.va (op_move rfl (ltn rfl)) rfl ?_
    refine VL.va (op_move rfl (ltn rfl)) rfl ?_
    by_cases c2252 : 0 ≤ i2224
    · rw [if_pos c2252] at h
      replace h := Option.bind_eq_some_iff.1 h
      obtain ⟨x2253, hx2253, h⟩ := h
      refine VL.open (m := l0.length) 1 lenm rfl (pos_get hx2253) ?_
      rintro ad2254 n2255 rfl
      refine VL.va (op_indexAddr Try.underlying33 TI23 rfl rfl c2252 (lt_get c2252 hx2253) rfl (ltn rfl)) rfl ?_
      refine VL.va (op_load_row (sz := 5) (o := 0) 1 i2224.toNat 5 rfl rfl (get_map hx2253) TI23 rfl (fun h => absurd h (by decide)) (ltn rfl)) rfl ?_
      replace h := Option.bind_eq_some_iff.1 h
      obtain ⟨t2256, hA2257, h⟩ := h
      refine VL.sC (o_call (vals := [.agg #[.string x2253.f0, .string x2253.f1, .int .i64 x2253.f2, .int .i64 x2253.f3, .int .i64 x2253.f4]]) (caps := [.pointer (some ⟨p1_0, 0, none⟩)]) FO32 (goods_For_1.ok x2253.f0 x2253.f1 x2253.f2 x2253.f3 x2253.f4 a1_0_0 p1_0 t2256 hA2257) rfl rfl (ltn rfl) (All_of (.cons (List.mem_of_getElem? (i := 0) rfl) .nil))) rfl ?_
      rintro _ _ _ ⟨rfl, rfl, rfl⟩
      refine VL.done ?_
      refine VN.then ?_
      by_cases c2258 : t2256 = true
      · rw [if_pos c2258] at h
        obtain rfl := c2258
        refine VC.cond_t rfl ?_
        refine VC.seq ?_
        refine VC.region ?_
        refine VL.va (op_move rfl (ltn rfl)) rfl ?_
        refine VL.va (op_assign rfl (ltn rfl)) rfl ?_
        refine VL.done ?_
        refine VN.then ?_
        refine VC.ret ?_
        refine VR.block ?_
        refine VR.then ?_
        refine VR.then ?_
        refine VR.block ?_
        refine VR.then ?_
        obtain rfl := Option.some.inj h
        exact VR.fn (rs := [.tmp 4]) [] [] [] rfl (.tmp rfl .nil) ⟨rfl, rfl, rfl⟩ trivial rfl (by decide)
      · rw [if_neg c2258] at h
        obtain rfl := Bool.eq_false_iff.2 c2258
        refine VC.cond_f rfl ?_
        refine VC.skip ?_
        refine VN.block ?_
        refine VN.then ?_
        refine VC.region ?_
        refine VL.va (op_ari64 rfl rfl rfl (ltn rfl)) rfl ?_
        refine VL.va (op_move rfl (ltn rfl)) rfl ?_
        refine VL.done ?_
        refine VN.again [] [] (ihl1 (wrap64 (i2224 + 1)) h) ⟨rfl, ⟨rfl, rfl, rfl, rfl, rfl, trivial⟩, ⟨⟨0, rfl⟩, ⟨1, rfl⟩, trivial⟩, rfl, by decide, rfl, by decide⟩
    · rw [if_neg c2252] at h; cases h
  · rw [if_neg c2244] at h
    obtain rfl : b2242 = false := hb2242.symm.trans (decide_eq_false c2244)
    refine VC.cond_f rfl ?_
    refine VC.exit ?_
    refine VX.then ?_
    refine VX.then ?_
    refine VX.hit ?_
    refine VN.then ?_
    refine VC.seq ?_
    refine VC.region ?_
    refine VL.va (op_assign rfl (ltn rfl)) rfl ?_
    refine VL.done ?_
    refine VN.then ?_
    refine VC.ret ?_
    obtain rfl := Option.some.inj h
    exact VR.fn (rs := [.tmp 4]) [] [] [] rfl (.tmp rfl .nil) ⟨rfl, rfl, rfl⟩ trivial rfl (by decide)
set_option maxHeartbeats 4000000 in
set_option maxRecDepth 100000 in
theorem slices_DeleteFunc_api_Sub_api_Sub.ok (ix : Option Int) (p : S22 → Option Bool) (l0 : List S22) (v0 : Value) (clf : Nat) (cv : List Value) (FC : List Fact) (r1 : List S22) (h : slices_DeleteFunc_api_Sub_api_Sub.f ix p l0 = some r1) (hFO : FOk Try.prog clf)
    (hix : ∀ i, ix = some i → VCalls Try.prog 44 [v0, .func (.func clf) #[] cv.toArray] (.row v0 5 (l0.map enc22) :: FC) (fun v G own => v = .int .i64 i ∧ G = [] ∧ own = []))
    (hp : ∀ x b, p x = some b → VCalls Try.prog clf ([Go.Proofs.YtoiihpmncphplaaV.valOf true (enc22 x)] ++ cv) FC (fun v G own => v = .bool b ∧ G = [] ∧ own = [])) :
    VOwn Try.prog 30 [v0, .func (.func clf) #[] cv.toArray] (v0, 23, 5, l0.map enc22) FC (fun q x' => x' = (q, 23, 5, r1.map enc22)) := by
  unfold slices_DeleteFunc_api_Sub_api_Sub.f at h
  obtain ⟨i, hi, h⟩ := Option.bind_eq_some_iff.1 h
  refine VOwn.intro Try.func30 rfl (len rfl) fun E fr => ?_
  refine VC.seq (VC.region ?_)
  refine VL.va (op_assign rfl (ltn rfl)) rfl ?_
  refine VL.done (VN.then ?_)
  refine VC.seq (VC.region ?_)
  refine VL.va (op_move rfl (ltn rfl)) rfl ?_
  refine VL.va (op_move rfl (ltn rfl)) rfl ?_
  refine VL.sC (o_call_b0 FO44 (hix i hi) rfl rfl (ltn rfl) (by
    intro x hx
    rcases List.mem_cons.1 hx with rfl | hx
    · exact .inr (.inl ⟨_, List.mem_of_getElem? (i := 0) rfl, rfl⟩)
    · exact .inl (List.mem_append_left _ hx)) (by rintro _ _ _ ⟨rfl, rfl, rfl⟩; rfl)) rfl ?_
  rintro _ _ _ ⟨rfl, rfl, rfl⟩
  refine VL.va (op_assign rfl (ltn rfl)) rfl ?_
  refine VL.done (VN.then ?_)
  refine VC.seq ?_
  refine VC.seq (VC.region ?_)
  refine VL.va (op_move rfl (ltn rfl)) rfl ?_
  refine VL.letter (i == (-1)) fun b1 hb1 => ?_
  refine VL.va (op_cmp rfl rfl (congrArg some hb1) (ltn rfl)) rfl ?_
  refine VL.done (VN.then ?_)
  by_cases c1 : i = -1
  · rw [if_pos c1] at h
    obtain rfl := Option.some.inj h
    obtain rfl : b1 = true := hb1.symm.trans (beq_iff_eq.2 c1)
    refine VC.cond_t rfl ?_
    refine VC.seq (VC.region ?_)
    refine VL.va (op_move rfl (ltn rfl)) rfl ?_
    refine VL.va (op_assign rfl (ltn rfl)) rfl ?_
    refine VL.done (VN.then ?_)
    refine VC.ret (VR.then ?_)
    exact VR.own (rs := [.tmp 4]) 0 FC rfl (.tmp rfl .nil) rfl rfl rfl id
  rw [if_neg c1] at h
  obtain rfl : b1 = false := hb1.symm.trans (beq_eq_false_iff_ne.2 c1)
  clear hb1
  by_cases c2 : ¬ (0 ≤ i ∧ i < (l0.length : Int))
  · rw [if_neg c2] at h
    cases h
  replace c2 := Decidable.not_not.1 c2
  rw [if_pos c2] at h
  obtain ⟨rr, hrr, h⟩ := Option.bind_eq_some_iff.1 h
  obtain rfl := Option.some.inj h
  clear h
  obtain ⟨n, rfl⟩ : ∃ n : Nat, i = (n : Int) := ⟨i.toNat, by omega⟩
  obtain ⟨c3, c4⟩ := c2
  have hn : n < l0.length := by omega
  simp only [Int.toNat_natCast] at hrr ⊢
  refine VC.cond_f rfl (VC.skip (VN.then ?_))
  refine VC.lenR 0 rfl fun hlen => ?_
  rw [lenm] at hlen
  refine VC.openR (m := l0.length) 0 lenm rfl (by omega) ?_
  rintro g cap rfl
  refine VC.seq ?_
  refine VC.seq (VC.region ?_)
  refine VL.va (op_move rfl (ltn rfl)) rfl ?_
  refine VL.va (op_ari64 (q := ((n + 1 : Nat) : Int)) rfl rfl (congrArg some (by show wrap64 ((n : Int) + 1) = _; unfold wrap64; omega)) (ltn rfl)) rfl ?_
  refine VL.va (op_assign rfl (ltn rfl)) rfl ?_
  refine VL.done (VN.then ?_)
  refine VC.block ?_
  refine VC.loop3 (fun (a : Nat) (b : Nat) (xs : List S22) => ⟨42, [(0, .slice (some ⟨g, 0, none⟩) l0.length cap), (1, .func (.func clf) #[] cv.toArray), (5, .int .i64 a), (6, .int .i64 b)], FC ++ fr, [], [(.slice (some ⟨g, 0, none⟩) l0.length cap, 23, 5, xs.map enc22)]⟩)
    (fun k a b xs => ∃ r, b + k = l0.length + 1 ∧ a < b ∧ b ≤ l0.length ∧ xs.length = l0.length ∧ xs.drop b = l0.drop b ∧ keepM p (l0.drop b) = some r ∧ l0.take n ++ rr = xs.take a ++ r)
    (l0.length - n) n (n + 1) l0 [] [0] ⟨rr, by omega, by omega, by omega, rfl, rfl, hrr, rfl⟩ ⟨rfl, ⟨rfl, rfl, rfl, rfl, trivial⟩, SubF.of (fun _ h => h), rfl, by decide, rfl, by decide⟩ (by rintro a b xs ⟨r, h1, h2, h3, _⟩; omega) ?_
  rintro k ih a b xs ⟨r, hk, hab, hbl, hxl, hdr, hkeep, hres⟩
  have hxm : (xs.map enc22).length = l0.length := by rw [lenm, hxl]
  refine VC.seq ?_
  refine VC.seq (VC.region ?_)
  refine VL.va (op_move rfl (ltn rfl)) rfl ?_
  refine VL.va (op_move rfl (ltn rfl)) rfl ?_
  refine VL.va (op_len_own (m := l0.length) 0 hxm Try.underlying33 rfl rfl (ltn rfl)) rfl ?_
  refine VL.letter (decide ((b : Int) < (l0.length : Int))) fun b2 hb2 => ?_
  refine VL.va (op_cmp rfl rfl (congrArg some hb2) (ltn rfl)) rfl ?_
  refine VL.done (VN.then ?_)
  by_cases c5 : b < l0.length
  · obtain rfl : b2 = true := hb2.symm.trans (decide_eq_true (by omega))
    clear hb2
    refine VC.cond_t rfl (VC.skip (VN.then ?_))
    have hbx : b < xs.length := by omega
    have hx : xs[b]? = some xs[b] := List.getElem?_eq_getElem hbx
    have hd1 : l0.drop b = xs[b] :: l0.drop (b + 1) := by
      rw [← hdr, List.drop_eq_getElem_cons hbx]
      have := congrArg (List.drop 1) hdr
      rw [List.drop_drop, List.drop_drop] at this
      rw [this]
    rw [hd1, keepM] at hkeep
    generalize xs[b] = x at *
    obtain ⟨bb, hbb, hkeep⟩ := Option.bind_eq_some_iff.1 hkeep
    obtain ⟨r', hr', hkeep⟩ := Option.bind_eq_some_iff.1 hkeep
    obtain rfl := Option.some.inj hkeep
    clear hkeep
    have hdr2 : xs.drop (b + 1) = l0.drop (b + 1) := by
      have := congrArg (List.drop 1) hdr
      rw [List.drop_drop, List.drop_drop] at this
      exact this
    refine VC.seq (VC.block ?_)
    refine VC.seq (VC.region ?_)
    refine VL.va (op_move rfl (ltn rfl)) rfl ?_
    refine VL.va (op_move rfl (ltn rfl)) rfl ?_
    refine VL.va (op_indexAddr Try.underlying33 TI23 rfl rfl (Int.natCast_nonneg b) (by omega) (add_zero_at _ _) (ltn rfl)) rfl ?_
    refine VL.va (op_load_own (sz := 5) (o := 0) 0 b 5 rfl rfl (get_map hx) TI23 rfl (fun h => absurd h (by decide)) (ltn rfl)) rfl ?_
    refine VL.sG (o_alloc Z23 rfl (ltn rfl)) rfl ?_
    intro g1
    refine VL.step1 (o_store 0 5 rfl rfl rfl TI23 (.agg (.of rfl)) rfl (len rfl)) rfl ?_
    refine VL.done (VN.then ?_)
    refine VC.seq (VC.region ?_)
    refine VL.va (op_move rfl (ltn rfl)) rfl ?_
    refine VL.va (op_load 0 5 rfl rfl TI23 rfl (fun h => absurd h (by decide)) (ltn rfl)) rfl ?_
    refine VL.sC (o_call (vals := [Go.Proofs.YtoiihpmncphplaaV.valOf true (enc22 x)]) (caps := cv) hFO (hp x bb hbb) rfl rfl (ltn rfl) (fun _ h => List.mem_append_left _ h)) rfl ?_
    rintro _ _ _ ⟨rfl, rfl, rfl⟩
    refine VL.va (op_not rfl rfl (ltn rfl)) rfl ?_
    refine VL.done (VN.then ?_)
    have hw : wrap64 ((b : Int) + 1) = ((b + 1 : Nat) : Int) := by unfold wrap64; omega
    cases bb with
    | true =>
      refine VC.cond_f rfl (VC.skip (VN.block (VN.then ?_)))
      refine VC.region ?_
      refine VL.va (op_move rfl (ltn rfl)) rfl ?_
      refine VL.va (op_ari64 (q := ((b + 1 : Nat) : Int)) rfl rfl (congrArg some hw) (ltn rfl)) rfl ?_
      refine VL.va (op_assign rfl (ltn rfl)) rfl ?_
      refine VL.done ?_
      exact VN.again [] [0] (ih a (b + 1) xs ⟨r', by omega, by omega, by omega, hxl, hdr2, hr', hres⟩) ⟨rfl, ⟨rfl, rfl, rfl, rfl, trivial⟩, SubF.of (fun _ h => h), rfl, by decide, rfl, by decide⟩
    | false =>
      have hax : a < xs.length := by omega
      have hy : xs[a]? = some xs[a] := List.getElem?_eq_getElem hax
      have hwa : wrap64 ((a : Int) + 1) = ((a + 1 : Nat) : Int) := by unfold wrap64; omega
      refine VC.cond_t rfl ?_
      refine VC.seq (VC.region ?_)
      refine VL.va (op_move rfl (ltn rfl)) rfl ?_
      refine VL.va (op_move rfl (ltn rfl)) rfl ?_
      refine VL.va (op_load 0 5 rfl rfl TI23 rfl (fun h => absurd h (by decide)) (ltn rfl)) rfl ?_
      refine VL.va (op_indexAddr Try.underlying33 TI23 rfl rfl (Int.natCast_nonneg a) (by omega) (add_zero_at _ _) (ltn rfl)) rfl ?_
      refine VL.step1 (o_store_own (sz := 5) (o := 0) (es3 := List.map enc22 (xs.set a x)) 0 a 5 hxm (setm rfl) rfl rfl rfl (get_map hy) TI23 (.agg (.of rfl)) rfl (len rfl)) rfl ?_
      refine VL.done (VN.then ?_)
      refine VC.region ?_
      refine VL.va (op_move rfl (ltn rfl)) rfl ?_
      refine VL.va (op_ari64 (q := ((a + 1 : Nat) : Int)) rfl rfl (congrArg some hwa) (ltn rfl)) rfl ?_
      refine VL.va (op_assign rfl (ltn rfl)) rfl ?_
      refine VL.done (VN.block (VN.then ?_))
      refine VC.region ?_
      refine VL.va (op_move rfl (ltn rfl)) rfl ?_
      refine VL.va (op_ari64 (q := ((b + 1 : Nat) : Int)) rfl rfl (congrArg some hw) (ltn rfl)) rfl ?_
      refine VL.va (op_assign rfl (ltn rfl)) rfl ?_
      refine VL.done ?_
      refine VN.again [] [0] (ih (a + 1) (b + 1) (xs.set a x) ⟨r', by omega, by omega, by omega, by rw [List.length_set]; exact hxl, ?_, hr', ?_⟩) ⟨rfl, ⟨rfl, rfl, rfl, rfl, trivial⟩, SubF.of (fun _ h => h), rfl, by decide, rfl, by decide⟩
      · rw [List.drop_set_of_lt (by omega)]
        exact hdr2
      · rw [hres, List.take_succ_eq_append_getElem (by rw [List.length_set]; exact hax), List.getElem_set_self, List.take_set_of_le (Nat.le_refl a), List.append_assoc]
        rfl
  obtain rfl : b2 = false := hb2.symm.trans (decide_eq_false (by omega))
  clear hb2
  obtain rfl : b = l0.length := by omega
  rw [List.drop_length] at hkeep
  obtain rfl := Option.some.inj hkeep
  rw [List.append_nil] at hres
  have hax : a < xs.length := by omega
  refine VC.cond_f rfl ?_
  refine VC.exit (VX.then (VX.then (VX.hit (VN.then ?_))))
  refine VC.openBox 0 rfl (by rw [lenm]; omega) fun g' cap' cur hv hcap' hmx hcur htake hfl => ?_
  rw [lenm, hxl] at hv hcap' htake
  obtain ⟨hv1, -, rfl⟩ := Value.slice.inj hv
  obtain rfl : g = g' := by simpa using hv1
  clear hv hv1
  refine VC.seq (VC.region ?_)
  refine VL.va (op_move rfl (ltn rfl)) rfl ?_
  refine VL.va (op_move rfl (ltn rfl)) rfl ?_
  refine VL.va (op_cutV' a l0.length (cutV_at0 (.inl (by omega))) Try.underlying33 TI23 rfl ⟨⟨_, _, rfl, Int.natCast_nonneg a, Int.toNat_natCast _⟩, rfl, by omega, Nat.le_refl _⟩ hcap' (ltn rfl)) rfl ?_
  have hsz : a * 5 + (l0.length - a) * 5 ≤ cur.length := by
    rw [← Nat.add_mul, hcur]
    exact Nat.mul_le_mul_right _ (by omega)
  refine VL.clear (sz := 5) 0 Try.underlying33 Z23 rfl (by decide) rfl rfl rfl hsz rfl fun us hus => ?_
  refine VL.done (VN.then ?_)
  refine VC.seq (VC.region ?_)
  refine VL.va (op_move rfl (ltn rfl)) rfl ?_
  refine VL.va (op_move rfl (ltn rfl)) rfl ?_
  refine VL.va (op_cutH' 0 a (v := .slice (some ⟨g, 0, none⟩) a cap) (by rw [cutV_at0 (.inr rfl)]; simp) Try.underlying33 TI23 rfl ⟨rfl, ⟨_, _, rfl, Int.natCast_nonneg a, Int.toNat_natCast a⟩, Nat.zero_le _, by omega⟩ (ltn rfl)) rfl ?_
  refine VL.va (op_assign rfl (ltn rfl)) rfl ?_
  refine VL.done (VN.then ?_)
  refine VC.ret ?_
  have hta : (xs.take a).length = a := by rw [List.length_take]; omega
  refine VR.closeBox 0 cap 5 ((xs.take a).map enc22) rfl (by rw [lenm, hta]; omega) hmx (by rw [upd_len (by rw [hus]; exact hsz)]; exact hcur) ?_ (flat_map enc22_ok _) ?_
  · have h1 : (cur.take (a * 5)).length = a * 5 := by rw [List.length_take]; omega
    have h2 : a * 5 ≤ l0.length * 5 := Nat.mul_le_mul_right _ (by omega)
    rw [lenm, hta, List.map_take, flat_take a hfl, ← htake, List.take_take, Nat.min_eq_left h2]
    unfold upd
    rw [List.append_assoc, List.take_left' h1]
  rw [lenm, hta, hres]
  exact VR.own (rs := [.tmp 4]) 0 FC rfl (.tmp rfl .nil) rfl rfl rfl (fun _ => rfl)
set_option maxHeartbeats 4000000 in
set_option maxRecDepth 100000 in
theorem goods_For.ok (k : Nat) (l0_0 : List ByteArray) (l0_1 : List S22) (a1 : ByteArray) (v0_0 : Value) (v0_1 : Value) (r1 : List S22) (r2 : Int) (h : goods_For.f k l0_0 l0_1 a1 = some (r1, r2)) :
    VCalls Try.prog 13 [.agg #[v0_0, v0_1], .string a1] [.row v0_0 1 (l0_0.map enc_str), .row v0_1 5 (l0_1.map enc22)] (fun v G own => ∃ w0 : Value, v = .tuple #[w0, .int .i64 r2] ∧ G = [] ∧ own = [(w0, 23, 5, r1.map enc22)]) := by
  refine VCalls.intro Try.func13 rfl (len rfl) fun E hC => ?_
  unfold goods_For.f at h
  refine VC.seq ?_
  refine VC.region ?_
  refine VL.sG (o_box rfl (.agg (.f 0 rfl (.f 1 rfl .nil))) (ltn rfl)) rfl ?_
  intro g2124
  refine VL.sG (o_box rfl (.c rfl) (ltn rfl)) rfl ?_
  intro g2125
  refine VL.va (op_assign rfl (ltn rfl)) rfl ?_
  refine VL.va (op_assign rfl (ltn rfl)) rfl ?_
  refine VL.done ?_
  refine VN.then ?_
  refine VC.seq ?_
  refine VC.block ?_
  refine VC.seq ?_
  refine VC.region ?_
  refine VL.va (op_load 1 2 rfl rfl TI35 rfl (fun h => absurd h (by decide)) (ltn rfl)) rfl ?_
  replace h := Option.bind_eq_some_iff.1 h
  obtain ⟨t2143, hA2144, h⟩ := h
  refine VL.sC (o_call0 FO14 (goods_Right.ok k l0_0 l0_1 v0_0 v0_1 t2143 hA2144) rfl rfl (ltn rfl) (All_of (.cons (List.mem_of_getElem? (i := 0) rfl) (.cons (List.mem_of_getElem? (i := 1) rfl) .nil)))) rfl ?_
  rintro _ _ _ ⟨rfl, rfl, rfl⟩
  by_cases c2145 : t2143 = true
  · rw [if_pos c2145] at h
    obtain rfl := c2145
    refine VL.va (op_not rfl rfl (ltn rfl)) rfl ?_
    refine VL.va (op_assign rfl (ltn rfl)) rfl ?_
    refine VL.done ?_
    refine VN.then ?_
    refine VC.cond_f rfl ?_
    refine VC.seq ?_
    refine VC.region ?_
    refine VL.va (op_fieldAddr FI35_0 rfl (add_at _ _ _) (ltn rfl)) rfl ?_
    refine VL.va (op_load 1 1 rfl rfl TI32 rfl (by decide) (ltn rfl)) rfl ?_
    refine VL.va (op_load 0 1 rfl rfl TI9 rfl (by decide) (ltn rfl)) rfl ?_
    replace h := Option.bind_eq_some_iff.1 h
    obtain ⟨t2149, hA2150, h⟩ := h
    refine VL.sC (o_call0 FO26 (slices_Contains_string_string.ok k l0_0 a1 v0_0 t2149 hA2150) rfl rfl (ltn rfl) (All_of (.cons (List.mem_of_getElem? (i := 0) rfl) .nil))) rfl ?_
    rintro _ _ _ ⟨rfl, rfl, rfl⟩
    by_cases c2151 : t2149 = true
    · rw [if_pos c2151] at h
      obtain rfl := c2151
      refine VL.va (op_not rfl rfl (ltn rfl)) rfl ?_
      refine VL.va (op_assign rfl (ltn rfl)) rfl ?_
      refine VL.done ?_
      refine VN.then ?_
      refine VC.cond_f rfl ?_
      refine VC.skip ?_
      refine VN.block ?_
      refine VN.then ?_
      refine VC.seq ?_
      refine VC.region ?_
      refine VL.va (op_fieldAddr FI35_1 rfl (add_at _ _ _) (ltn rfl)) rfl ?_
      refine VL.va (op_load 1 1 rfl rfl TI33 rfl (by decide) (ltn rfl)) rfl ?_
      replace h := Option.bind_eq_some_iff.1 h
      obtain ⟨r2152, hA2153, h⟩ := h
      refine VL.sC (o_call_b0 FO31 (slices_Clone_api_Sub_api_Sub.ok l0_1 v0_1 r2152 hA2153) rfl rfl (ltn rfl) (All_of (.cons (.inl (List.mem_of_getElem? (i := 1) rfl)) .nil)) (by rintro _ _ _ ⟨_, rfl, rfl, rfl⟩; rfl)) rfl ?_
      rintro v2155 _ _ ⟨_, rfl, rfl, rfl⟩
      refine VL.va (op_makeFunc (vals := [.pointer (some ⟨g2125, 0, none⟩)]) rfl (ltn rfl)) rfl ?_
      refine VL.freeze' 0 rfl ?_
      replace h := Option.bind_eq_some_iff.1 h
      obtain ⟨r2259, hA2260, h⟩ := h
      refine VL.sG (o_call_own0 (vals := [v2155, .func (.func 32) #[] ([.pointer (some ⟨g2125, 0, none⟩)] : List Value).toArray]) 0 rfl FO30 (slices_DeleteFunc_api_Sub_api_Sub.ok _ _ r2152 v2155 32 [.pointer (some ⟨g2125, 0, none⟩)] [.at_ ⟨g2125, 0, none⟩ [.string a1]] r2259 hA2260 FO32 (fun i hi => slices_IndexFunc_api_Sub_api_Sub_s35.ok k r2152 a1 v2155 g2125 i hi) (fun x b hb => goods_For_1.ok x.f0 x.f1 x.f2 x.f3 x.f4 a1 g2125 b hb)) rfl rfl (ltn rfl) (All_of (.cons (.inl (List.mem_of_getElem? (i := 0) rfl)) .nil))) rfl ?_
      intro v2261
      refine VL.va (op_assign rfl (ltn rfl)) rfl ?_
      refine VL.va (op_assign rfl (ltn rfl)) rfl ?_
      refine VL.done ?_
      refine VN.then ?_
      refine VC.ret ?_
      simp only [Option.some.injEq, Prod.mk.injEq] at h
      obtain ⟨rfl, rfl⟩ := h
      exact VR.fn (rs := [.tmp 4, .tmp 5]) [] [(v2261, 23, 5, r2259.map enc22)] [0] rfl (.tmp rfl (.tmp rfl .nil)) ⟨v2261, rfl, rfl, rfl⟩ trivial rfl (by decide)
    · rw [if_neg c2151] at h
      obtain rfl := Bool.eq_false_iff.2 c2151
      refine VL.va (op_not rfl rfl (ltn rfl)) rfl ?_
      refine VL.va (op_assign rfl (ltn rfl)) rfl ?_
      refine VL.done ?_
      refine VN.then ?_
      refine VC.cond_t rfl ?_
      refine VC.seq ?_
      refine VC.region ?_
      refine VL.va (op_assign rfl (ltn rfl)) rfl ?_
      refine VL.va (op_assign rfl (ltn rfl)) rfl ?_
      refine VL.done ?_
      refine VN.then ?_
      refine VC.ret ?_
      refine VR.block ?_
      refine VR.then ?_
      simp only [Option.some.injEq, Prod.mk.injEq] at h
      obtain ⟨rfl, rfl⟩ := h
      refine VR.nilRow' 23 5 ?_
      exact VR.fn (rs := [.tmp 4, .tmp 5]) [] [((.slice none 0 0), 23, 5, ([] : List S22).map enc22)] [0] rfl (.tmp rfl (.tmp rfl .nil)) ⟨(.slice none 0 0), rfl, rfl, rfl⟩ trivial rfl (by decide)
  · rw [if_neg c2145] at h
    obtain rfl := Bool.eq_false_iff.2 c2145
    refine VL.va (op_not rfl rfl (ltn rfl)) rfl ?_
    refine VL.va (op_assign rfl (ltn rfl)) rfl ?_
    refine VL.done ?_
    refine VN.then ?_
    refine VC.cond_t rfl ?_
    refine VC.seq ?_
    refine VC.region ?_
    refine VL.va (op_assign rfl (ltn rfl)) rfl ?_
    refine VL.va (op_assign rfl (ltn rfl)) rfl ?_
    refine VL.done ?_
    refine VN.then ?_
    refine VC.ret ?_
    refine VR.block ?_
    refine VR.then ?_
    simp only [Option.some.injEq, Prod.mk.injEq] at h
    obtain ⟨rfl, rfl⟩ := h
    refine VR.nilRow' 23 5 ?_
    exact VR.fn (rs := [.tmp 4, .tmp 5]) [] [((.slice none 0 0), 23, 5, ([] : List S22).map enc22)] [0] rfl (.tmp rfl (.tmp rfl .nil)) ⟨(.slice none 0 0), rfl, rfl, rfl⟩ trivial rfl (by decide)
set_option maxHeartbeats 4000000 in
set_option maxRecDepth 100000 in
theorem tarryref07_Like.ok (k : Nat) (l0_0 : List ByteArray) (l0_1 : List S22) (l1_0 : List ByteArray) (l1_1 : List S22) (v0_0 : Value) (v0_1 : Value) (v1_0 : Value) (v1_1 : Value) (r1 : Bool) (h : tarryref07_Like.f k l0_0 l0_1 l1_0 l1_1 = some r1) :
    VCalls Try.prog 15 [.agg #[v0_0, v0_1], .agg #[v1_0, v1_1]] [.row v0_0 1 (l0_0.map enc_str), .row v0_1 5 (l0_1.map enc22), .row v1_0 1 (l1_0.map enc_str), .row v1_1 5 (l1_1.map enc22)] (fun v G own => v = .bool r1 ∧ G = [] ∧ own = []) := by
  refine VCalls.intro Try.func15 rfl (len rfl) fun E hC => ?_
  unfold tarryref07_Like.f at h
  refine VC.seq ?_
  refine VC.region ?_
  refine VL.sG (o_box rfl (.agg (.f 0 rfl (.f 1 rfl .nil))) (ltn rfl)) rfl ?_
  intro g2456
  refine VL.sG (o_box rfl (.agg (.f 2 rfl (.f 3 rfl .nil))) (ltn rfl)) rfl ?_
  intro g2457
  refine VL.va (op_assign rfl (ltn rfl)) rfl ?_
  refine VL.done ?_
  refine VN.then ?_
  refine VC.seq ?_
  refine VC.seq ?_
  refine VC.region ?_
  refine VL.va (op_fieldAddr FI35_0 rfl (add_at _ _ _) (ltn rfl)) rfl ?_
  refine VL.va (op_load 1 1 rfl rfl TI32 rfl (by decide) (ltn rfl)) rfl ?_
  refine VL.va (op_len (m := l0_0.length) 0 lenm Try.underlying32 rfl rfl (ltn rfl)) rfl ?_
  refine VL.va (op_fieldAddr FI35_0 rfl (add_at _ _ _) (ltn rfl)) rfl ?_
  refine VL.va (op_load 0 1 rfl rfl TI32 rfl (by decide) (ltn rfl)) rfl ?_
  refine VL.va (op_len (m := l1_0.length) 2 lenm Try.underlying32 rfl rfl (ltn rfl)) rfl ?_
  refine VL.letter (((l0_0.length : Int) != (l1_0.length : Int))) fun b2468 hb2468 => ?_
  refine VL.va (op_cmp rfl rfl (congrArg some hb2468) (ltn rfl)) rfl ?_
  refine VL.va (op_move rfl (ltn rfl)) rfl ?_
  by_cases c2469 : (l0_0.length : Int) = (l1_0.length : Int)
  · rw [if_pos c2469] at h
    obtain rfl : b2468 = false := hb2468.symm.trans (bne_eq_false_iff_eq.2 c2469)
    refine VL.va (op_fieldAddr FI35_1 rfl (add_at _ _ _) (ltn rfl)) rfl ?_
    refine VL.va (op_load 1 1 rfl rfl TI33 rfl (by decide) (ltn rfl)) rfl ?_
    refine VL.va (op_len (m := l0_1.length) 1 lenm Try.underlying33 rfl rfl (ltn rfl)) rfl ?_
    refine VL.va (op_fieldAddr FI35_1 rfl (add_at _ _ _) (ltn rfl)) rfl ?_
    refine VL.va (op_load 0 1 rfl rfl TI33 rfl (by decide) (ltn rfl)) rfl ?_
    refine VL.va (op_len (m := l1_1.length) 3 lenm Try.underlying33 rfl rfl (ltn rfl)) rfl ?_
    refine VL.letter (((l0_1.length : Int) != (l1_1.length : Int))) fun b2470 hb2470 => ?_
    refine VL.va (op_cmp rfl rfl (congrArg some hb2470) (ltn rfl)) rfl ?_
    refine VL.va (op_pick rfl rfl (ltn rfl)) rfl ?_
    refine VL.done ?_
    refine VN.then ?_
    by_cases c2471 : (l0_1.length : Int) = (l1_1.length : Int)
    · rw [if_pos c2471] at h
      obtain rfl : b2470 = false := hb2470.symm.trans (bne_eq_false_iff_eq.2 c2471)
      refine VC.cond_f rfl ?_
      refine VC.skip ?_
      refine VN.then ?_
      refine VC.seq ?_
      refine VC.seq ?_
      refine VC.region ?_
      refine VL.va (op_fieldAddr FI35_0 rfl (add_at _ _ _) (ltn rfl)) rfl ?_
      refine VL.va (op_load 1 1 rfl rfl TI32 rfl (by decide) (ltn rfl)) rfl ?_
      refine VL.va (op_len (m := l0_0.length) 0 lenm Try.underlying32 rfl rfl (ltn rfl)) rfl ?_
      refine VL.va (op_move rfl (ltn rfl)) rfl ?_
      refine VL.done ?_
      refine VN.then ?_
      refine VC.block ?_
      refine VC.loop1 (fun (i2525 : Int) => ⟨59, [(2, .pointer (some ⟨g2456, 0, none⟩)), (3, .pointer (some ⟨g2457, 0, none⟩)), (4, .bool false), (25, .int .i64 (l0_0.length : Int)), (26, .int .i64 i2525)], [.row v1_0 1 (l1_0.map enc_str), .row v1_1 5 (l1_1.map enc22), .row v0_0 1 (l0_0.map enc_str), .row v0_1 5 (l0_1.map enc22)], [(g2457, 35, [v1_0, v1_1]), (g2456, 35, [v0_0, v0_1])], []⟩) (fun (ml1 : Nat) (i2525 : Int) => tarryref07_Like.l1 k l0_0 l0_1 l1_0 l1_1 ml1 i2525 = some r1) k 0 [0, 1] [] h ⟨rfl, ⟨rfl, rfl, rfl, rfl, rfl, trivial⟩, ⟨⟨2, rfl⟩, ⟨3, rfl⟩, ⟨0, rfl⟩, ⟨1, rfl⟩, trivial⟩, rfl, by decide, rfl, by decide⟩ (by intros; simp [tarryref07_Like.l1]) ?_
      clear h
      intro ml1 ihl1 i2525 h
      simp only [tarryref07_Like.l1] at h
      refine VC.seq ?_
      refine VC.region ?_
      refine VL.letter (decide (i2525 < (l0_0.length : Int))) fun b2539 hb2539 => ?_
      refine VL.va (op_cmp rfl rfl (congrArg some hb2539) (ltn rfl)) rfl ?_
      refine VL.done ?_
      refine VN.then ?_
      refine VC.seq ?_
      by_cases c2621 : i2525 < (l0_0.length : Int)
      · rw [if_pos c2621] at h
        obtain rfl : b2539 = true := hb2539.symm.trans (decide_eq_true c2621)
        refine VC.cond_t rfl ?_
        refine VC.skip ?_
        refine VN.then ?_
        refine VC.seq ?_
        refine VC.block ?_
        refine VC.seq ?_
        refine VC.region ?_
        refine VL.va (op_move rfl (ltn rfl)) rfl ?_
        refine VL.va (op_assign rfl (ltn rfl)) rfl ?_
        refine VL.done ?_
        refine VN.then ?_
        by_cases c2627 : 0 ≤ i2525
        · rw [if_pos c2627] at h
          replace h := Option.bind_eq_some_iff.1 h
          obtain ⟨x2628, hx2628, h⟩ := h
          replace h := Option.bind_eq_some_iff.1 h
          obtain ⟨x2629, hx2629, h⟩ := h
          refine VC.letter ((x2628 != x2629)) fun b2630 hb2630 => ?_
          refine VC.open (m := l0_0.length) 2 lenm rfl (pos_get hx2628) ?_
          rintro ad2476 n2477 rfl
          refine VC.open (m := l1_0.length) 0 lenm rfl (pos_get hx2629) ?_
          rintro ad2479 n2480 rfl
          refine VC.join0 (⟨59, [(2, .pointer (some ⟨g2456, 0, none⟩)), (3, .pointer (some ⟨g2457, 0, none⟩)), (4, .bool false), (5, .int .i64 i2525), (25, .int .i64 (l0_0.length : Int)), (26, .int .i64 i2525), (27, .bool true), (28, .int .i64 i2525), (29, .pointer (some ⟨g2456, 0, none⟩)), (30, (.slice (some ad2476) l0_0.length n2477)), (31, .int .i64 i2525), (33, .string x2628), (34, .pointer (some ⟨g2457, 0, none⟩)), (35, (.slice (some ad2479) l1_0.length n2480)), (36, .int .i64 i2525), (38, .string x2629), (39, .bool b2630)], [.row (.slice (some ad2479) l1_0.length n2480) 1 (l1_0.map enc_str), .row v1_1 5 (l1_1.map enc22), .row (.slice (some ad2476) l0_0.length n2477) 1 (l0_0.map enc_str), .row v0_1 5 (l0_1.map enc22)], [(g2457, 35, [(.slice (some ad2479) l1_0.length n2480), v1_1]), (g2456, 35, [(.slice (some ad2476) l0_0.length n2477), v0_1])], []⟩) (True) ?_ ?_
          · refine VC.draw ⟨0, [], [.row (.slice (some ad2479) l1_0.length n2480) 1 (l1_0.map enc_str), .row (.slice (some ad2476) l0_0.length n2477) 1 (l0_0.map enc_str)], [(g2457, 35, [(.slice (some ad2479) l1_0.length n2480), v1_1]), (g2456, 35, [(.slice (some ad2476) l0_0.length n2477), v0_1])], []⟩ (by kernel_rfl) rfl (by kernel_rfl) (n := 11) (listed := LB 11 0) ?_
            refine VA.va (i := 0) (listed' := LB 11 1) rfl (op_fieldAddr FI35_0 rfl (add_at _ _ _) (ltn rfl)) rfl (by kernel_rfl) (by kernel_rfl) (by kernel_rfl) (by kernel_rfl) ⟨⟨⟨0, rfl⟩, ⟨2, rfl⟩, trivial⟩, ⟨⟨0, rfl⟩, ⟨1, rfl⟩, trivial⟩, trivial⟩ (fun _ _ _ h => h) ?_
            refine VA.va (i := 1) (listed' := LB 11 3) rfl (op_load 1 1 rfl rfl TI32 rfl (by decide) (ltn rfl)) rfl (by kernel_rfl) (by kernel_rfl) (by kernel_rfl) (by kernel_rfl) ⟨⟨⟨0, rfl⟩, ⟨2, rfl⟩, trivial⟩, ⟨⟨0, rfl⟩, ⟨1, rfl⟩, trivial⟩, trivial⟩ (fun _ _ _ h => h) ?_
            refine VA.va (i := 2) (listed' := LB 11 7) rfl (op_move rfl (ltn rfl)) rfl (by kernel_rfl) (by kernel_rfl) (by kernel_rfl) (by kernel_rfl) ⟨⟨⟨0, rfl⟩, ⟨2, rfl⟩, trivial⟩, ⟨⟨0, rfl⟩, ⟨1, rfl⟩, trivial⟩, trivial⟩ (fun _ _ _ h => h) ?_
            refine VA.va (i := 3) (listed' := LB 11 15) rfl (op_indexAddr Try.underlying32 TI9 rfl rfl c2627 (lt_get c2627 hx2628) rfl (ltn rfl)) rfl (by kernel_rfl) (by kernel_rfl) (by kernel_rfl) (by kernel_rfl) ⟨⟨⟨0, rfl⟩, ⟨2, rfl⟩, trivial⟩, ⟨⟨0, rfl⟩, ⟨1, rfl⟩, trivial⟩, trivial⟩ (fun _ _ _ h => h) ?_
            refine VA.va (i := 4) (listed' := LB 11 31) rfl (op_load_row (sz := 1) (o := 0) 1 i2525.toNat 1 rfl rfl (get_map hx2628) TI9 rfl (by decide) (ltn rfl)) rfl (by kernel_rfl) (by kernel_rfl) (by kernel_rfl) (by kernel_rfl) ⟨⟨⟨0, rfl⟩, ⟨2, rfl⟩, trivial⟩, ⟨⟨0, rfl⟩, ⟨1, rfl⟩, trivial⟩, trivial⟩ (fun _ _ _ h => h) ?_
            refine VA.va (i := 5) (listed' := LB 11 63) rfl (op_fieldAddr FI35_0 rfl (add_at _ _ _) (ltn rfl)) rfl (by kernel_rfl) (by kernel_rfl) (by kernel_rfl) (by kernel_rfl) ⟨⟨⟨0, rfl⟩, ⟨2, rfl⟩, trivial⟩, ⟨⟨0, rfl⟩, ⟨1, rfl⟩, trivial⟩, trivial⟩ (fun _ _ _ h => h) ?_
            refine VA.va (i := 6) (listed' := LB 11 127) rfl (op_load 0 1 rfl rfl TI32 rfl (by decide) (ltn rfl)) rfl (by kernel_rfl) (by kernel_rfl) (by kernel_rfl) (by kernel_rfl) ⟨⟨⟨0, rfl⟩, ⟨2, rfl⟩, trivial⟩, ⟨⟨0, rfl⟩, ⟨1, rfl⟩, trivial⟩, trivial⟩ (fun _ _ _ h => h) ?_
            refine VA.va (i := 7) (listed' := LB 11 255) rfl (op_move rfl (ltn rfl)) rfl (by kernel_rfl) (by kernel_rfl) (by kernel_rfl) (by kernel_rfl) ⟨⟨⟨0, rfl⟩, ⟨2, rfl⟩, trivial⟩, ⟨⟨0, rfl⟩, ⟨1, rfl⟩, trivial⟩, trivial⟩ (fun _ _ _ h => h) ?_
            refine VA.va (i := 8) (listed' := LB 11 511) rfl (op_indexAddr Try.underlying32 TI9 rfl rfl c2627 (lt_get c2627 hx2629) rfl (ltn rfl)) rfl (by kernel_rfl) (by kernel_rfl) (by kernel_rfl) (by kernel_rfl) ⟨⟨⟨0, rfl⟩, ⟨2, rfl⟩, trivial⟩, ⟨⟨0, rfl⟩, ⟨1, rfl⟩, trivial⟩, trivial⟩ (fun _ _ _ h => h) ?_
            refine VA.va (i := 9) (listed' := LB 11 1023) rfl (op_load_row (sz := 1) (o := 0) 0 i2525.toNat 1 rfl rfl (get_map hx2629) TI9 rfl (by decide) (ltn rfl)) rfl (by kernel_rfl) (by kernel_rfl) (by kernel_rfl) (by kernel_rfl) ⟨⟨⟨0, rfl⟩, ⟨2, rfl⟩, trivial⟩, ⟨⟨0, rfl⟩, ⟨1, rfl⟩, trivial⟩, trivial⟩ (fun _ _ _ h => h) ?_
            refine VA.va (i := 10) (listed' := LB 11 2047) rfl (op_cmps rfl rfl (congrArg some hb2630) (ltn rfl)) rfl (by kernel_rfl) (by kernel_rfl) (by kernel_rfl) (by kernel_rfl) ⟨⟨⟨0, rfl⟩, ⟨2, rfl⟩, trivial⟩, ⟨⟨0, rfl⟩, ⟨1, rfl⟩, trivial⟩, trivial⟩ (fun _ _ _ h => h) ?_
            refine VA.done (by kernel_rfl) ?_
            exact VN.meet0  [0, 1] [] trivial ⟨rfl, ⟨rfl, rfl, rfl, rfl, rfl, rfl, rfl, rfl, rfl, rfl, rfl, rfl, rfl, rfl, rfl, rfl, rfl, trivial⟩, ⟨⟨0, rfl⟩, ⟨1, rfl⟩, ⟨2, rfl⟩, ⟨3, rfl⟩, trivial⟩, rfl, by decide, rfl, by decide⟩
          intro _
          by_cases c2631 : (x2628 == x2629) = true
          · rw [if_pos c2631] at h
            obtain rfl : b2630 = false := hb2630.symm.trans (bne_of_t c2631)
            refine VC.cond_f rfl ?_
            refine VC.skip ?_
            refine VN.block ?_
            refine VN.then ?_
            refine VC.region ?_
            refine VL.va (op_ari64 rfl rfl rfl (ltn rfl)) rfl ?_
            refine VL.va (op_move rfl (ltn rfl)) rfl ?_
            refine VL.done ?_
            refine VN.again [0, 1] [] (ihl1 (wrap64 (i2525 + 1)) h) ⟨rfl, ⟨rfl, rfl, rfl, rfl, rfl, trivial⟩, ⟨⟨0, rfl⟩, ⟨1, rfl⟩, ⟨2, rfl⟩, ⟨3, rfl⟩, trivial⟩, rfl, by decide, rfl, by decide⟩
          · rw [if_neg c2631] at h
            obtain rfl : b2630 = true := hb2630.symm.trans (bne_of_f c2631)
            refine VC.cond_t rfl ?_
            refine VC.seq ?_
            refine VC.region ?_
            refine VL.va (op_assign rfl (ltn rfl)) rfl ?_
            refine VL.done ?_
            refine VN.then ?_
            refine VC.ret ?_
            refine VR.block ?_
            refine VR.then ?_
            refine VR.then ?_
            refine VR.block ?_
            refine VR.then ?_
            obtain rfl := Option.some.inj h
            exact VR.fn (rs := [.tmp 4]) [] [] [] rfl (.tmp rfl .nil) ⟨rfl, rfl, rfl⟩ trivial rfl (by decide)
        · rw [if_neg c2627] at h; cases h
      · rw [if_neg c2621] at h
        obtain rfl : b2539 = false := hb2539.symm.trans (decide_eq_false c2621)
        refine VC.cond_f rfl ?_
        refine VC.exit ?_
        refine VX.then ?_
        refine VX.then ?_
        refine VX.hit ?_
        refine VN.then ?_
        refine VC.seq ?_
        refine VC.seq ?_
        refine VC.region ?_
        refine VL.va (op_fieldAddr FI35_1 rfl (add_at _ _ _) (ltn rfl)) rfl ?_
        refine VL.va (op_load 1 1 rfl rfl TI33 rfl (by decide) (ltn rfl)) rfl ?_
        refine VL.va (op_len (m := l0_1.length) 3 lenm Try.underlying33 rfl rfl (ltn rfl)) rfl ?_
        refine VL.va (op_move rfl (ltn rfl)) rfl ?_
        refine VL.done ?_
        refine VN.then ?_
        refine VC.block ?_
        refine VC.loop1 (fun (i2681 : Int) => ⟨59, [(2, .pointer (some ⟨g2456, 0, none⟩)), (3, .pointer (some ⟨g2457, 0, none⟩)), (4, .bool false), (43, .int .i64 (l0_1.length : Int)), (44, .int .i64 i2681)], [.row v1_0 1 (l1_0.map enc_str), .row v1_1 5 (l1_1.map enc22), .row v0_0 1 (l0_0.map enc_str), .row v0_1 5 (l0_1.map enc22)], [(g2457, 35, [v1_0, v1_1]), (g2456, 35, [v0_0, v0_1])], []⟩) (fun (ml5 : Nat) (i2681 : Int) => tarryref07_Like.l5 k l0_1 l1_1 ml5 i2681 = some r1) k 0 [0, 1] [] h ⟨rfl, ⟨rfl, rfl, rfl, rfl, rfl, trivial⟩, ⟨⟨0, rfl⟩, ⟨1, rfl⟩, ⟨2, rfl⟩, ⟨3, rfl⟩, trivial⟩, rfl, by decide, rfl, by decide⟩ (by intros; simp [tarryref07_Like.l5]) ?_
        clear h
        intro ml5 ihl5 i2681 h
        simp only [tarryref07_Like.l5] at h
        refine VC.seq ?_
        refine VC.region ?_
        refine VL.letter (decide (i2681 < (l0_1.length : Int))) fun b2695 hb2695 => ?_
        refine VL.va (op_cmp rfl rfl (congrArg some hb2695) (ltn rfl)) rfl ?_
        refine VL.done ?_
        refine VN.then ?_
        refine VC.seq ?_
        by_cases c2697 : i2681 < (l0_1.length : Int)
        · rw [if_pos c2697] at h
          obtain rfl : b2695 = true := hb2695.symm.trans (decide_eq_true c2697)
          refine VC.cond_t rfl ?_
          refine VC.skip ?_
          refine VN.then ?_
          refine VC.seq ?_
          refine VC.block ?_
          refine VC.seq ?_
          refine VC.region ?_
          refine VL.va (op_move rfl (ltn rfl)) rfl ?_
          refine VL.va (op_assign rfl (ltn rfl)) rfl ?_
          refine VL.done ?_
          refine VN.then ?_
          by_cases c2703 : 0 ≤ i2681
          · rw [if_pos c2703] at h
            replace h := Option.bind_eq_some_iff.1 h
            obtain ⟨x2704, hx2704, h⟩ := h
            replace h := Option.bind_eq_some_iff.1 h
            obtain ⟨x2705, hx2705, h⟩ := h
            refine VC.letter ((!(((x2704.f0 == x2705.f0) && ((x2704.f1 == x2705.f1) && ((x2704.f2 == x2705.f2) && ((x2704.f3 == x2705.f3) && (x2704.f4 == x2705.f4)))))))) fun b2706 hb2706 => ?_
            refine VC.open (m := l0_1.length) 3 lenm rfl (pos_get hx2704) ?_
            rintro ad2545 n2546 rfl
            refine VC.open (m := l1_1.length) 1 lenm rfl (pos_get hx2705) ?_
            rintro ad2548 n2549 rfl
            refine VC.join0 (⟨59, [(2, .pointer (some ⟨g2456, 0, none⟩)), (3, .pointer (some ⟨g2457, 0, none⟩)), (4, .bool false), (6, .int .i64 i2681), (43, .int .i64 (l0_1.length : Int)), (44, .int .i64 i2681), (45, .bool true), (46, .int .i64 i2681), (47, .pointer (some ⟨g2456, 1, none⟩)), (48, (.slice (some ad2545) l0_1.length n2546)), (49, .int .i64 i2681), (51, .agg #[.string x2704.f0, .string x2704.f1, .int .i64 x2704.f2, .int .i64 x2704.f3, .int .i64 x2704.f4]), (52, .pointer (some ⟨g2457, 1, none⟩)), (53, (.slice (some ad2548) l1_1.length n2549)), (54, .int .i64 i2681), (56, .agg #[.string x2705.f0, .string x2705.f1, .int .i64 x2705.f2, .int .i64 x2705.f3, .int .i64 x2705.f4]), (57, .bool b2706)], [.row v1_0 1 (l1_0.map enc_str), .row (.slice (some ad2548) l1_1.length n2549) 5 (l1_1.map enc22), .row v0_0 1 (l0_0.map enc_str), .row (.slice (some ad2545) l0_1.length n2546) 5 (l0_1.map enc22)], [(g2457, 35, [v1_0, (.slice (some ad2548) l1_1.length n2549)]), (g2456, 35, [v0_0, (.slice (some ad2545) l0_1.length n2546)])], []⟩) (True) ?_ ?_
            · refine VC.draw ⟨0, [], [.row (.slice (some ad2548) l1_1.length n2549) 5 (l1_1.map enc22), .row (.slice (some ad2545) l0_1.length n2546) 5 (l0_1.map enc22)], [(g2457, 35, [v1_0, (.slice (some ad2548) l1_1.length n2549)]), (g2456, 35, [v0_0, (.slice (some ad2545) l0_1.length n2546)])], []⟩ (by kernel_rfl) rfl (by kernel_rfl) (n := 11) (listed := LB 11 0) ?_
              refine VA.va (i := 0) (listed' := LB 11 1) rfl (op_fieldAddr FI35_1 rfl (add_at _ _ _) (ltn rfl)) rfl (by kernel_rfl) (by kernel_rfl) (by kernel_rfl) (by kernel_rfl) ⟨⟨⟨1, rfl⟩, ⟨3, rfl⟩, trivial⟩, ⟨⟨0, rfl⟩, ⟨1, rfl⟩, trivial⟩, trivial⟩ (fun _ _ _ h => h) ?_
              refine VA.va (i := 1) (listed' := LB 11 3) rfl (op_load 1 1 rfl rfl TI33 rfl (by decide) (ltn rfl)) rfl (by kernel_rfl) (by kernel_rfl) (by kernel_rfl) (by kernel_rfl) ⟨⟨⟨1, rfl⟩, ⟨3, rfl⟩, trivial⟩, ⟨⟨0, rfl⟩, ⟨1, rfl⟩, trivial⟩, trivial⟩ (fun _ _ _ h => h) ?_
              refine VA.va (i := 2) (listed' := LB 11 7) rfl (op_move rfl (ltn rfl)) rfl (by kernel_rfl) (by kernel_rfl) (by kernel_rfl) (by kernel_rfl) ⟨⟨⟨1, rfl⟩, ⟨3, rfl⟩, trivial⟩, ⟨⟨0, rfl⟩, ⟨1, rfl⟩, trivial⟩, trivial⟩ (fun _ _ _ h => h) ?_
              refine VA.va (i := 3) (listed' := LB 11 15) rfl (op_indexAddr Try.underlying33 TI23 rfl rfl c2703 (lt_get c2703 hx2704) rfl (ltn rfl)) rfl (by kernel_rfl) (by kernel_rfl) (by kernel_rfl) (by kernel_rfl) ⟨⟨⟨1, rfl⟩, ⟨3, rfl⟩, trivial⟩, ⟨⟨0, rfl⟩, ⟨1, rfl⟩, trivial⟩, trivial⟩ (fun _ _ _ h => h) ?_
              refine VA.va (i := 4) (listed' := LB 11 31) rfl (op_load_row (sz := 5) (o := 0) 1 i2681.toNat 5 rfl rfl (get_map hx2704) TI23 rfl (fun h => absurd h (by decide)) (ltn rfl)) rfl (by kernel_rfl) (by kernel_rfl) (by kernel_rfl) (by kernel_rfl) ⟨⟨⟨1, rfl⟩, ⟨3, rfl⟩, trivial⟩, ⟨⟨0, rfl⟩, ⟨1, rfl⟩, trivial⟩, trivial⟩ (fun _ _ _ h => h) ?_
              refine VA.va (i := 5) (listed' := LB 11 63) rfl (op_fieldAddr FI35_1 rfl (add_at _ _ _) (ltn rfl)) rfl (by kernel_rfl) (by kernel_rfl) (by kernel_rfl) (by kernel_rfl) ⟨⟨⟨1, rfl⟩, ⟨3, rfl⟩, trivial⟩, ⟨⟨0, rfl⟩, ⟨1, rfl⟩, trivial⟩, trivial⟩ (fun _ _ _ h => h) ?_
              refine VA.va (i := 6) (listed' := LB 11 127) rfl (op_load 0 1 rfl rfl TI33 rfl (by decide) (ltn rfl)) rfl (by kernel_rfl) (by kernel_rfl) (by kernel_rfl) (by kernel_rfl) ⟨⟨⟨1, rfl⟩, ⟨3, rfl⟩, trivial⟩, ⟨⟨0, rfl⟩, ⟨1, rfl⟩, trivial⟩, trivial⟩ (fun _ _ _ h => h) ?_
              refine VA.va (i := 7) (listed' := LB 11 255) rfl (op_move rfl (ltn rfl)) rfl (by kernel_rfl) (by kernel_rfl) (by kernel_rfl) (by kernel_rfl) ⟨⟨⟨1, rfl⟩, ⟨3, rfl⟩, trivial⟩, ⟨⟨0, rfl⟩, ⟨1, rfl⟩, trivial⟩, trivial⟩ (fun _ _ _ h => h) ?_
              refine VA.va (i := 8) (listed' := LB 11 511) rfl (op_indexAddr Try.underlying33 TI23 rfl rfl c2703 (lt_get c2703 hx2705) rfl (ltn rfl)) rfl (by kernel_rfl) (by kernel_rfl) (by kernel_rfl) (by kernel_rfl) ⟨⟨⟨1, rfl⟩, ⟨3, rfl⟩, trivial⟩, ⟨⟨0, rfl⟩, ⟨1, rfl⟩, trivial⟩, trivial⟩ (fun _ _ _ h => h) ?_
              refine VA.va (i := 9) (listed' := LB 11 1023) rfl (op_load_row (sz := 5) (o := 0) 0 i2681.toNat 5 rfl rfl (get_map hx2705) TI23 rfl (fun h => absurd h (by decide)) (ltn rfl)) rfl (by kernel_rfl) (by kernel_rfl) (by kernel_rfl) (by kernel_rfl) ⟨⟨⟨1, rfl⟩, ⟨3, rfl⟩, trivial⟩, ⟨⟨0, rfl⟩, ⟨1, rfl⟩, trivial⟩, trivial⟩ (fun _ _ _ h => h) ?_
              refine VA.va (i := 10) (listed' := LB 11 2047) rfl (op_neS rfl rfl EG23 (EQ23 x2704.f0 x2704.f1 x2704.f2 x2704.f3 x2704.f4 x2705.f0 x2705.f1 x2705.f2 x2705.f3 x2705.f4) hb2706 (ltn rfl)) rfl (by kernel_rfl) (by kernel_rfl) (by kernel_rfl) (by kernel_rfl) ⟨⟨⟨1, rfl⟩, ⟨3, rfl⟩, trivial⟩, ⟨⟨0, rfl⟩, ⟨1, rfl⟩, trivial⟩, trivial⟩ (fun _ _ _ h => h) ?_
              refine VA.done (by kernel_rfl) ?_
              exact VN.meet0  [0, 1] [] trivial ⟨rfl, ⟨rfl, rfl, rfl, rfl, rfl, rfl, rfl, rfl, rfl, rfl, rfl, rfl, rfl, rfl, rfl, rfl, rfl, trivial⟩, ⟨⟨0, rfl⟩, ⟨1, rfl⟩, ⟨2, rfl⟩, ⟨3, rfl⟩, trivial⟩, rfl, by decide, rfl, by decide⟩
            intro _
            by_cases c2707 : (((x2704.f0 == x2705.f0) && ((x2704.f1 == x2705.f1) && ((x2704.f2 == x2705.f2) && ((x2704.f3 == x2705.f3) && (x2704.f4 == x2705.f4)))))) = true
            · rw [if_pos c2707] at h
              obtain rfl : b2706 = false := hb2706.symm.trans (not_t c2707)
              refine VC.cond_f rfl ?_
              refine VC.skip ?_
              refine VN.block ?_
              refine VN.then ?_
              refine VC.region ?_
              refine VL.va (op_ari64 rfl rfl rfl (ltn rfl)) rfl ?_
              refine VL.va (op_move rfl (ltn rfl)) rfl ?_
              refine VL.done ?_
              refine VN.again [0, 1] [] (ihl5 (wrap64 (i2681 + 1)) h) ⟨rfl, ⟨rfl, rfl, rfl, rfl, rfl, trivial⟩, ⟨⟨0, rfl⟩, ⟨1, rfl⟩, ⟨2, rfl⟩, ⟨3, rfl⟩, trivial⟩, rfl, by decide, rfl, by decide⟩
            · rw [if_neg c2707] at h
              obtain rfl : b2706 = true := hb2706.symm.trans (not_f c2707)
              refine VC.cond_t rfl ?_
              refine VC.seq ?_
              refine VC.region ?_
              refine VL.va (op_assign rfl (ltn rfl)) rfl ?_
              refine VL.done ?_
              refine VN.then ?_
              refine VC.ret ?_
              refine VR.block ?_
              refine VR.then ?_
              refine VR.then ?_
              refine VR.block ?_
              refine VR.then ?_
              obtain rfl := Option.some.inj h
              exact VR.fn (rs := [.tmp 4]) [] [] [] rfl (.tmp rfl .nil) ⟨rfl, rfl, rfl⟩ trivial rfl (by decide)
          · rw [if_neg c2703] at h; cases h
        · rw [if_neg c2697] at h
          obtain rfl : b2695 = false := hb2695.symm.trans (decide_eq_false c2697)
          refine VC.cond_f rfl ?_
          refine VC.exit ?_
          refine VX.then ?_
          refine VX.then ?_
          refine VX.hit ?_
          refine VN.then ?_
          refine VC.seq ?_
          refine VC.region ?_
          refine VL.va (op_assign rfl (ltn rfl)) rfl ?_
          refine VL.done ?_
          refine VN.then ?_
          refine VC.ret ?_
          obtain rfl := Option.some.inj h
          exact VR.fn (rs := [.tmp 4]) [] [] [] rfl (.tmp rfl .nil) ⟨rfl, rfl, rfl⟩ trivial rfl (by decide)
    · rw [if_neg c2471] at h
      obtain rfl : b2470 = true := hb2470.symm.trans (bne_iff_ne.2 c2471)
      refine VC.cond_t rfl ?_
      refine VC.seq ?_
      refine VC.region ?_
      refine VL.va (op_assign rfl (ltn rfl)) rfl ?_
      refine VL.done ?_
      refine VN.then ?_
      refine VC.ret ?_
      refine VR.then ?_
      obtain rfl := Option.some.inj h
      exact VR.fn (rs := [.tmp 4]) [] [] [] rfl (.tmp rfl .nil) ⟨rfl, rfl, rfl⟩ trivial rfl (by decide)
  · rw [if_neg c2469] at h
    obtain rfl : b2468 = true := hb2468.symm.trans (bne_iff_ne.2 c2469)
    refine VL.un rfl rfl (ltn rfl) ?_
    refine VL.un rfl rfl (ltn rfl) ?_
    refine VL.un rfl rfl (ltn rfl) ?_
    refine VL.un rfl rfl (ltn rfl) ?_
    refine VL.un rfl rfl (ltn rfl) ?_
    refine VL.un rfl rfl (ltn rfl) ?_
    refine VL.un rfl rfl (ltn rfl) ?_
    refine VL.va (op_pick rfl rfl (ltn rfl)) rfl ?_
    refine VL.done ?_
    refine VN.then ?_
    refine VC.cond_t rfl ?_
    refine VC.seq ?_
    refine VC.region ?_
    refine VL.va (op_assign rfl (ltn rfl)) rfl ?_
    refine VL.done ?_
    refine VN.then ?_
    refine VC.ret ?_
    refine VR.then ?_
    obtain rfl := Option.some.inj h
    exact VR.fn (rs := [.tmp 4]) [] [] [] rfl (.tmp rfl .nil) ⟨rfl, rfl, rfl⟩ trivial rfl (by decide)

end Go.Proofs.Ytoiihpmncphplaa.PGoodsStay
