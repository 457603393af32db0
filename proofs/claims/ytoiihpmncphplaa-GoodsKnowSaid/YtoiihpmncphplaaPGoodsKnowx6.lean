/- Written by a program of this repo: what the program's functions do, each as a Lean function, shown of the loaded code; or a statement's row over that; no condition of its own. -/
import Derived.Test.YtoiihpmncphplaaPGoodsKnowx5
namespace Go.Proofs.Ytoiihpmncphplaa.PGoodsKnow
open Go Go.RowKit Go.Proofs.YtoiihpmncphplaaV
set_option linter.unusedVariables false
set_option linter.unusedSimpArgs false

set_option maxHeartbeats 4000000 in
set_option maxRecDepth 100000 in
theorem slices_DeleteFunc_api_Sub_api_Sub.ok (ix : Option Int) (p : S22 → Option Bool) (l0 : List S22) (v0 : Value) (clf : Nat) (cv : List Value) (FC : List Fact) (r1 : List S22) (h : slices_DeleteFunc_api_Sub_api_Sub.f ix p l0 = some r1) (hFO : FOk Try.prog clf)
    (hix : ∀ i, ix = some i → VCalls Try.prog 44 [v0, .func (.func clf) #[] cv.toArray] (.row v0 5 (l0.map enc22) :: FC) (fun v G own => v = .int .i64 i ∧ G = [] ∧ own = []))
    (hp : ∀ x b, p x = some b → VCalls Try.prog clf ([Go.Proofs.YtoiihpmncphplaaV.valOf true (enc22 x)] ++ cv) FC (fun v G own => v = .bool b ∧ G = [] ∧ own = [])) :
    VOwn Try.prog 30 [v0, .func (.func clf) #[] cv.toArray] (v0, 23, 5, l0.map enc22) FC (fun q x' => x' = (q, 23, 5, r1.map enc22)) := by
  unfold slices_DeleteFunc_api_Sub_api_Sub.f at h
  obtain ⟨i, hi, h⟩ := Option.bind_eq_some_iff.1 h
  refine VOwn.intro Try.func30 rfl (len rfl) fun E fr => ?_
  refine VC.seq (VC.region ?_)
  refine VL.va (op_assign rfl (ltn rfl)) rfl ?_
  refine VL.done (VN.then ?_)
  refine VC.seq (VC.region ?_)
  refine VL.va (op_move rfl (ltn rfl)) rfl ?_
  refine VL.va (op_move rfl (ltn rfl)) rfl ?_
  refine VL.sC (o_call_b0 FO44 (hix i hi) rfl rfl (ltn rfl) (by
    intro x hx
    rcases List.mem_cons.1 hx with rfl | hx
    · exact .inr (.inl ⟨_, List.mem_of_getElem? (i := 0) rfl, rfl⟩)
    · exact .inl (List.mem_append_left _ hx)) (by rintro _ _ _ ⟨rfl, rfl, rfl⟩; rfl)) rfl ?_
  rintro _ _ _ ⟨rfl, rfl, rfl⟩
  refine VL.va (op_assign rfl (ltn rfl)) rfl ?_
  refine VL.done (VN.then ?_)
  refine VC.seq ?_
  refine VC.seq (VC.region ?_)
  refine VL.va (op_move rfl (ltn rfl)) rfl ?_
  refine VL.letter (i == (-1)) fun b1 hb1 => ?_
  refine VL.va (op_cmp rfl rfl (congrArg some hb1) (ltn rfl)) rfl ?_
  refine VL.done (VN.then ?_)
  by_cases c1 : i = -1
  · rw [if_pos c1] at h
    obtain rfl := Option.some.inj h
    obtain rfl : b1 = true := hb1.symm.trans (beq_iff_eq.2 c1)
    refine VC.cond_t rfl ?_
    refine VC.seq (VC.region ?_)
    refine VL.va (op_move rfl (ltn rfl)) rfl ?_
    refine VL.va (op_assign rfl (ltn rfl)) rfl ?_
    refine VL.done (VN.then ?_)
    refine VC.ret (VR.then ?_)
    exact VR.own (rs := [.tmp 4]) 0 FC rfl (.tmp rfl .nil) rfl rfl rfl id
  rw [if_neg c1] at h
  obtain rfl : b1 = false := hb1.symm.trans (beq_eq_false_iff_ne.2 c1)
  clear hb1
  by_cases c2 : ¬ (0 ≤ i ∧ i < (l0.length : Int))
  · rw [if_neg c2] at h
    cases h
  replace c2 := Decidable.not_not.1 c2
  rw [if_pos c2] at h
  obtain ⟨rr, hrr, h⟩ := Option.bind_eq_some_iff.1 h
  obtain rfl := Option.some.inj h
  clear h
  obtain ⟨n, rfl⟩ : ∃ n : Nat, i = (n : Int) := ⟨i.toNat, by omega⟩
  obtain ⟨c3, c4⟩ := c2
  have hn : n < l0.length := by omega
  simp only [Int.toNat_natCast] at hrr ⊢
  refine VC.cond_f rfl (VC.skip (VN.then ?_))
  refine VC.lenR 0 rfl fun hlen => ?_
  rw [lenm] at hlen
  refine VC.openR (m := l0.length) 0 lenm rfl (by omega) ?_
  rintro g cap rfl
  refine VC.seq ?_
  refine VC.seq (VC.region ?_)
  refine VL.va (op_move rfl (ltn rfl)) rfl ?_
  refine VL.va (op_ari64 (q := ((n + 1 : Nat) : Int)) rfl rfl (congrArg some (by show wrap64 ((n : Int) + 1) = _; unfold wrap64; omega)) (ltn rfl)) rfl ?_
  refine VL.va (op_assign rfl (ltn rfl)) rfl ?_
  refine VL.done (VN.then ?_)
  refine VC.block ?_
  refine VC.loop3 (fun (a : Nat) (b : Nat) (xs : List S22) => ⟨42, [(0, .slice (some ⟨g, 0, none⟩) l0.length cap), (1, .func (.func clf) #[] cv.toArray), (5, .int .i64 a), (6, .int .i64 b)], FC ++ fr, [], [(.slice (some ⟨g, 0, none⟩) l0.length cap, 23, 5, xs.map enc22)]⟩)
    (fun k a b xs => ∃ r, b + k = l0.length + 1 ∧ a < b ∧ b ≤ l0.length ∧ xs.length = l0.length ∧ xs.drop b = l0.drop b ∧ keepM p (l0.drop b) = some r ∧ l0.take n ++ rr = xs.take a ++ r)
    (l0.length - n) n (n + 1) l0 [] [0] ⟨rr, by omega, by omega, by omega, rfl, rfl, hrr, rfl⟩ ⟨rfl, ⟨rfl, rfl, rfl, rfl, trivial⟩, SubF.of (fun _ h => h), rfl, by decide, rfl, by decide⟩ (by rintro a b xs ⟨r, h1, h2, h3, _⟩; omega) ?_
  rintro k ih a b xs ⟨r, hk, hab, hbl, hxl, hdr, hkeep, hres⟩
  have hxm : (xs.map enc22).length = l0.length := by rw [lenm, hxl]
  refine VC.seq ?_
  refine VC.seq (VC.region ?_)
  refine VL.va (op_move rfl (ltn rfl)) rfl ?_
  refine VL.va (op_move rfl (ltn rfl)) rfl ?_
  refine VL.va (op_len_own (m := l0.length) 0 hxm Try.underlying33 rfl rfl (ltn rfl)) rfl ?_
  refine VL.letter (decide ((b : Int) < (l0.length : Int))) fun b2 hb2 => ?_
  refine VL.va (op_cmp rfl rfl (congrArg some hb2) (ltn rfl)) rfl ?_
  refine VL.done (VN.then ?_)
  by_cases c5 : b < l0.length
  · obtain rfl : b2 = true := hb2.symm.trans (decide_eq_true (by omega))
    clear hb2
    refine VC.cond_t rfl (VC.skip (VN.then ?_))
    have hbx : b < xs.length := by omega
    have hx : xs[b]? = some xs[b] := List.getElem?_eq_getElem hbx
    have hd1 : l0.drop b = xs[b] :: l0.drop (b + 1) := by
      rw [← hdr, List.drop_eq_getElem_cons hbx]
      have := congrArg (List.drop 1) hdr
      rw [List.drop_drop, List.drop_drop] at this
      rw [this]
    rw [hd1, keepM] at hkeep
    generalize xs[b] = x at *
    obtain ⟨bb, hbb, hkeep⟩ := Option.bind_eq_some_iff.1 hkeep
    obtain ⟨r', hr', hkeep⟩ := Option.bind_eq_some_iff.1 hkeep
    obtain rfl := Option.some.inj hkeep
    clear hkeep
    have hdr2 : xs.drop (b + 1) = l0.drop (b + 1) := by
      have := congrArg (List.drop 1) hdr
      rw [List.drop_drop, List.drop_drop] at this
      exact this
    refine VC.seq (VC.block ?_)
    refine VC.seq (VC.region ?_)
    refine VL.va (op_move rfl (ltn rfl)) rfl ?_
    refine VL.va (op_move rfl (ltn rfl)) rfl ?_
    refine VL.va (op_indexAddr Try.underlying33 TI23 rfl rfl (Int.natCast_nonneg b) (by omega) (add_zero_at _ _) (ltn rfl)) rfl ?_
    refine VL.va (op_load_own (sz := 5) (o := 0) 0 b 5 rfl rfl (get_map hx) TI23 rfl (fun h => absurd h (by decide)) (ltn rfl)) rfl ?_
    refine VL.sG (o_alloc Z23 rfl (ltn rfl)) rfl ?_
    intro g1
    refine VL.step1 (o_store 0 5 rfl rfl rfl TI23 (.agg (.of rfl)) rfl (len rfl)) rfl ?_
    refine VL.done (VN.then ?_)
    refine VC.seq (VC.region ?_)
    refine VL.va (op_move rfl (ltn rfl)) rfl ?_
    refine VL.va (op_load 0 5 rfl rfl TI23 rfl (fun h => absurd h (by decide)) (ltn rfl)) rfl ?_
    refine VL.sC (o_call (vals := [Go.Proofs.YtoiihpmncphplaaV.valOf true (enc22 x)]) (caps := cv) hFO (hp x bb hbb) rfl rfl (ltn rfl) (fun _ h => List.mem_append_left _ h)) rfl ?_
    rintro _ _ _ ⟨rfl, rfl, rfl⟩
    refine VL.va (op_not rfl rfl (ltn rfl)) rfl ?_
    refine VL.done (VN.then ?_)
    have hw : wrap64 ((b : Int) + 1) = ((b + 1 : Nat) : Int) := by unfold wrap64; omega
    cases bb with
    | true =>
      refine VC.cond_f rfl (VC.skip (VN.block (VN.then ?_)))
      refine VC.region ?_
      refine VL.va (op_move rfl (ltn rfl)) rfl ?_
      refine VL.va (op_ari64 (q := ((b + 1 : Nat) : Int)) rfl rfl (congrArg some hw) (ltn rfl)) rfl ?_
      refine VL.va (op_assign rfl (ltn rfl)) rfl ?_
      refine VL.done ?_
      exact VN.again [] [0] (ih a (b + 1) xs ⟨r', by omega, by omega, by omega, hxl, hdr2, hr', hres⟩) ⟨rfl, ⟨rfl, rfl, rfl, rfl, trivial⟩, SubF.of (fun _ h => h), rfl, by decide, rfl, by decide⟩
    | false =>
      have hax : a < xs.length := by omega
      have hy : xs[a]? = some xs[a] := List.getElem?_eq_getElem hax
      have hwa : wrap64 ((a : Int) + 1) = ((a + 1 : Nat) : Int) := by unfold wrap64; omega
      refine VC.cond_t rfl ?_
      refine VC.seq (VC.region ?_)
      refine VL.va (op_move rfl (ltn rfl)) rfl ?_
      refine VL.va (op_move rfl (ltn rfl)) rfl ?_
      refine VL.va (op_load 0 5 rfl rfl TI23 rfl (fun h => absurd h (by decide)) (ltn rfl)) rfl ?_
      refine VL.va (op_indexAddr Try.underlying33 TI23 rfl rfl (Int.natCast_nonneg a) (by omega) (add_zero_at _ _) (ltn rfl)) rfl ?_
      refine VL.step1 (o_store_own (sz := 5) (o := 0) (es3 := List.map enc22 (xs.set a x)) 0 a 5 hxm (setm rfl) rfl rfl rfl (get_map hy) TI23 (.agg (.of rfl)) rfl (len rfl)) rfl ?_
      refine VL.done (VN.then ?_)
      refine VC.region ?_
      refine VL.va (op_move rfl (ltn rfl)) rfl ?_
      refine VL.va (op_ari64 (q := ((a + 1 : Nat) : Int)) rfl rfl (congrArg some hwa) (ltn rfl)) rfl ?_
      refine VL.va (op_assign rfl (ltn rfl)) rfl ?_
      refine VL.done (VN.block (VN.then ?_))
      refine VC.region ?_
      refine VL.va (op_move rfl (ltn rfl)) rfl ?_
      refine VL.va (op_ari64 (q := ((b + 1 : Nat) : Int)) rfl rfl (congrArg some hw) (ltn rfl)) rfl ?_
      refine VL.va (op_assign rfl (ltn rfl)) rfl ?_
      refine VL.done ?_
      refine VN.again [] [0] (ih (a + 1) (b + 1) (xs.set a x) ⟨r', by omega, by omega, by omega, by rw [List.length_set]; exact hxl, ?_, hr', ?_⟩) ⟨rfl, ⟨rfl, rfl, rfl, rfl, trivial⟩, SubF.of (fun _ h => h), rfl, by decide, rfl, by decide⟩
      · rw [List.drop_set_of_lt (by omega)]
        exact hdr2
      · rw [hres, List.take_succ_eq_append_getElem (by rw [List.length_set]; exact hax), List.getElem_set_self, List.take_set_of_le (Nat.le_refl a), List.append_assoc]
        rfl
  obtain rfl : b2 = false := hb2.symm.trans (decide_eq_false (by omega))
  clear hb2
  obtain rfl : b = l0.length := by omega
  rw [List.drop_length] at hkeep
  obtain rfl := Option.some.inj hkeep
  rw [List.append_nil] at hres
  have hax : a < xs.length := by omega
  refine VC.cond_f rfl ?_
  refine VC.exit (VX.then (VX.then (VX.hit (VN.then ?_))))
  refine VC.openBox 0 rfl (by rw [lenm]; omega) fun g' cap' cur hv hcap' hmx hcur htake hfl => ?_
  rw [lenm, hxl] at hv hcap' htake
  obtain ⟨hv1, -, rfl⟩ := Value.slice.inj hv
  obtain rfl : g = g' := by simpa using hv1
  clear hv hv1
  refine VC.seq (VC.region ?_)
  refine VL.va (op_move rfl (ltn rfl)) rfl ?_
  refine VL.va (op_move rfl (ltn rfl)) rfl ?_
  refine VL.va (op_cutV' a l0.length (cutV_at0 (.inl (by omega))) Try.underlying33 TI23 rfl ⟨⟨_, _, rfl, Int.natCast_nonneg a, Int.toNat_natCast _⟩, rfl, by omega, Nat.le_refl _⟩ hcap' (ltn rfl)) rfl ?_
  have hsz : a * 5 + (l0.length - a) * 5 ≤ cur.length := by
    rw [← Nat.add_mul, hcur]
    exact Nat.mul_le_mul_right _ (by omega)
  refine VL.clear (sz := 5) 0 Try.underlying33 Z23 rfl (by decide) rfl rfl rfl hsz rfl fun us hus => ?_
  refine VL.done (VN.then ?_)
  refine VC.seq (VC.region ?_)
  refine VL.va (op_move rfl (ltn rfl)) rfl ?_
  refine VL.va (op_move rfl (ltn rfl)) rfl ?_
  refine VL.va (op_cutH' 0 a (v := .slice (some ⟨g, 0, none⟩) a cap) (by rw [cutV_at0 (.inr rfl)]; simp) Try.underlying33 TI23 rfl ⟨rfl, ⟨_, _, rfl, Int.natCast_nonneg a, Int.toNat_natCast a⟩, Nat.zero_le _, by omega⟩ (ltn rfl)) rfl ?_
  refine VL.va (op_assign rfl (ltn rfl)) rfl ?_
  refine VL.done (VN.then ?_)
  refine VC.ret ?_
  have hta : (xs.take a).length = a := by rw [List.length_take]; omega
  refine VR.closeBox 0 cap 5 ((xs.take a).map enc22) rfl (by rw [lenm, hta]; omega) hmx (by rw [upd_len (by rw [hus]; exact hsz)]; exact hcur) ?_ (flat_map enc22_ok _) ?_
  · have h1 : (cur.take (a * 5)).length = a * 5 := by rw [List.length_take]; omega
    have h2 : a * 5 ≤ l0.length * 5 := Nat.mul_le_mul_right _ (by omega)
    rw [lenm, hta, List.map_take, flat_take a hfl, ← htake, List.take_take, Nat.min_eq_left h2]
    unfold upd
    rw [List.append_assoc, List.take_left' h1]
  rw [lenm, hta, hres]
  exact VR.own (rs := [.tmp 4]) 0 FC rfl (.tmp rfl .nil) rfl rfl rfl (fun _ => rfl)
set_option maxHeartbeats 4000000 in
set_option maxRecDepth 100000 in
theorem goods_For.ok (k : Nat) (l0_0 : List ByteArray) (l0_1 : List S22) (a1 : ByteArray) (v0_0 : Value) (v0_1 : Value) (r1 : List S22) (r2 : Int) (h : goods_For.f k l0_0 l0_1 a1 = some (r1, r2)) :
    VCalls Try.prog 13 [.agg #[v0_0, v0_1], .string a1] [.row v0_0 1 (l0_0.map enc_str), .row v0_1 5 (l0_1.map enc22)] (fun v G own => ∃ w0 : Value, v = .tuple #[w0, .int .i64 r2] ∧ G = [] ∧ own = [(w0, 23, 5, r1.map enc22)]) := by
  refine VCalls.intro Try.func13 rfl (len rfl) fun E hC => ?_
  unfold goods_For.f at h
  refine VC.seq ?_
  refine VC.region ?_
  refine VL.sG (o_box rfl (.agg (.f 0 rfl (.f 1 rfl .nil))) (ltn rfl)) rfl ?_
  intro g2322
  refine VL.sG (o_box rfl (.c rfl) (ltn rfl)) rfl ?_
  intro g2323
  refine VL.va (op_assign rfl (ltn rfl)) rfl ?_
  refine VL.va (op_assign rfl (ltn rfl)) rfl ?_
  refine VL.done ?_
  refine VN.then ?_
  refine VC.seq ?_
  refine VC.block ?_
  refine VC.seq ?_
  refine VC.region ?_
  refine VL.va (op_load 1 2 rfl rfl TI35 rfl (fun h => absurd h (by decide)) (ltn rfl)) rfl ?_
  replace h := Option.bind_eq_some_iff.1 h
  obtain ⟨t2341, hA2342, h⟩ := h
  refine VL.sC (o_call0 FO14 (goods_Right.ok k l0_0 l0_1 v0_0 v0_1 t2341 hA2342) rfl rfl (ltn rfl) (All_of (.cons (List.mem_of_getElem? (i := 0) rfl) (.cons (List.mem_of_getElem? (i := 1) rfl) .nil)))) rfl ?_
  rintro _ _ _ ⟨rfl, rfl, rfl⟩
  by_cases c2343 : t2341 = true
  · rw [if_pos c2343] at h
    obtain rfl := c2343
    refine VL.va (op_not rfl rfl (ltn rfl)) rfl ?_
    refine VL.va (op_assign rfl (ltn rfl)) rfl ?_
    refine VL.done ?_
    refine VN.then ?_
    refine VC.cond_f rfl ?_
    refine VC.seq ?_
    refine VC.region ?_
    refine VL.va (op_fieldAddr FI35_0 rfl (add_at _ _ _) (ltn rfl)) rfl ?_
    refine VL.va (op_load 1 1 rfl rfl TI32 rfl (by decide) (ltn rfl)) rfl ?_
    refine VL.va (op_load 0 1 rfl rfl TI9 rfl (by decide) (ltn rfl)) rfl ?_
    replace h := Option.bind_eq_some_iff.1 h
    obtain ⟨t2347, hA2348, h⟩ := h
    refine VL.sC (o_call0 FO26 (slices_Contains_string_string.ok k l0_0 a1 v0_0 t2347 hA2348) rfl rfl (ltn rfl) (All_of (.cons (List.mem_of_getElem? (i := 0) rfl) .nil))) rfl ?_
    rintro _ _ _ ⟨rfl, rfl, rfl⟩
    by_cases c2349 : t2347 = true
    · rw [if_pos c2349] at h
      obtain rfl := c2349
      refine VL.va (op_not rfl rfl (ltn rfl)) rfl ?_
      refine VL.va (op_assign rfl (ltn rfl)) rfl ?_
      refine VL.done ?_
      refine VN.then ?_
      refine VC.cond_f rfl ?_
      refine VC.skip ?_
      refine VN.block ?_
      refine VN.then ?_
      refine VC.seq ?_
      refine VC.region ?_
      refine VL.va (op_fieldAddr FI35_1 rfl (add_at _ _ _) (ltn rfl)) rfl ?_
      refine VL.va (op_load 1 1 rfl rfl TI33 rfl (by decide) (ltn rfl)) rfl ?_
      replace h := Option.bind_eq_some_iff.1 h
      obtain ⟨r2350, hA2351, h⟩ := h
      refine VL.sC (o_call_b0 FO31 (slices_Clone_api_Sub_api_Sub.ok l0_1 v0_1 r2350 hA2351) rfl rfl (ltn rfl) (All_of (.cons (.inl (List.mem_of_getElem? (i := 1) rfl)) .nil)) (by rintro _ _ _ ⟨_, rfl, rfl, rfl⟩; rfl)) rfl ?_
      rintro v2353 _ _ ⟨_, rfl, rfl, rfl⟩
      refine VL.va (op_makeFunc (vals := [.pointer (some ⟨g2323, 0, none⟩)]) rfl (ltn rfl)) rfl ?_
      refine VL.freeze' 0 rfl ?_
      replace h := Option.bind_eq_some_iff.1 h
      obtain ⟨r2457, hA2458, h⟩ := h
      refine VL.sG (o_call_own0 (vals := [v2353, .func (.func 32) #[] ([.pointer (some ⟨g2323, 0, none⟩)] : List Value).toArray]) 0 rfl FO30 (slices_DeleteFunc_api_Sub_api_Sub.ok _ _ r2350 v2353 32 [.pointer (some ⟨g2323, 0, none⟩)] [.at_ ⟨g2323, 0, none⟩ [.string a1]] r2457 hA2458 FO32 (fun i hi => slices_IndexFunc_api_Sub_api_Sub_s38.ok k r2350 a1 v2353 g2323 i hi) (fun x b hb => goods_For_1.ok x.f0 x.f1 x.f2 x.f3 x.f4 a1 g2323 b hb)) rfl rfl (ltn rfl) (All_of (.cons (.inl (List.mem_of_getElem? (i := 0) rfl)) .nil))) rfl ?_
      intro v2459
      refine VL.va (op_assign rfl (ltn rfl)) rfl ?_
      refine VL.va (op_assign rfl (ltn rfl)) rfl ?_
      refine VL.done ?_
      refine VN.then ?_
      refine VC.ret ?_
      simp only [Option.some.injEq, Prod.mk.injEq] at h
      obtain ⟨rfl, rfl⟩ := h
      exact VR.fn (rs := [.tmp 4, .tmp 5]) [] [(v2459, 23, 5, r2457.map enc22)] [0] rfl (.tmp rfl (.tmp rfl .nil)) ⟨v2459, rfl, rfl, rfl⟩ trivial rfl (by decide)
    · rw [if_neg c2349] at h
      obtain rfl := Bool.eq_false_iff.2 c2349
      refine VL.va (op_not rfl rfl (ltn rfl)) rfl ?_
      refine VL.va (op_assign rfl (ltn rfl)) rfl ?_
      refine VL.done ?_
      refine VN.then ?_
      refine VC.cond_t rfl ?_
      refine VC.seq ?_
      refine VC.region ?_
      refine VL.va (op_assign rfl (ltn rfl)) rfl ?_
      refine VL.va (op_assign rfl (ltn rfl)) rfl ?_
      refine VL.done ?_
      refine VN.then ?_
      refine VC.ret ?_
      refine VR.block ?_
      refine VR.then ?_
      simp only [Option.some.injEq, Prod.mk.injEq] at h
      obtain ⟨rfl, rfl⟩ := h
      refine VR.nilRow' 23 5 ?_
      exact VR.fn (rs := [.tmp 4, .tmp 5]) [] [((.slice none 0 0), 23, 5, ([] : List S22).map enc22)] [0] rfl (.tmp rfl (.tmp rfl .nil)) ⟨(.slice none 0 0), rfl, rfl, rfl⟩ trivial rfl (by decide)
  · rw [if_neg c2343] at h
    obtain rfl := Bool.eq_false_iff.2 c2343
    refine VL.va (op_not rfl rfl (ltn rfl)) rfl ?_
    refine VL.va (op_assign rfl (ltn rfl)) rfl ?_
    refine VL.done ?_
    refine VN.then ?_
    refine VC.cond_t rfl ?_
    refine VC.seq ?_
    refine VC.region ?_
    refine VL.va (op_assign rfl (ltn rfl)) rfl ?_
    refine VL.va (op_assign rfl (ltn rfl)) rfl ?_
    refine VL.done ?_
    refine VN.then ?_
    refine VC.ret ?_
    refine VR.block ?_
    refine VR.then ?_
    simp only [Option.some.injEq, Prod.mk.injEq] at h
    obtain ⟨rfl, rfl⟩ := h
    refine VR.nilRow' 23 5 ?_
    exact VR.fn (rs := [.tmp 4, .tmp 5]) [] [((.slice none 0 0), 23, 5, ([] : List S22).map enc22)] [0] rfl (.tmp rfl (.tmp rfl .nil)) ⟨(.slice none 0 0), rfl, rfl, rfl⟩ trivial rfl (by decide)
set_option maxHeartbeats 4000000 in
set_option maxRecDepth 100000 in
theorem tarryref07_Name.ok (k : Nat) (a0 : ByteArray)  (r1 : Bool) (h : tarryref07_Name.f k a0 = some r1) :
    VCalls Try.prog 18 [.string a0] [] (fun v G own => v = .bool r1 ∧ G = [] ∧ own = []) := by
  refine VCalls.intro Try.func18 rfl (len rfl) fun E hC => ?_
  unfold tarryref07_Name.f at h
  refine VC.seq ?_
  refine VC.region ?_
  refine VL.va (op_assign rfl (ltn rfl)) rfl ?_
  refine VL.done ?_
  refine VN.then ?_
  refine VC.seq ?_
  refine VC.seq ?_
  refine VC.region ?_
  refine VL.va (op_assign rfl (ltn rfl)) rfl ?_
  refine VL.done ?_
  refine VN.then ?_
  refine VC.block ?_
  refine VC.loop1 (fun (i2697 : Int) => ⟨40, [(0, .string a0), (2, .bool false), (3, .int .i64 i2697)], [], [], []⟩) (fun (ml1 : Nat) (i2697 : Int) => tarryref07_Name.l1 k a0 ml1 i2697 = some r1) k 0 [] [] h ⟨rfl, ⟨rfl, rfl, rfl, trivial⟩, trivial, rfl, by decide, rfl, by decide⟩ (by intros; simp [tarryref07_Name.l1]) ?_
  clear h
  intro ml1 ihl1 i2697 h
  simp only [tarryref07_Name.l1] at h
  refine VC.seq ?_
  refine VC.seq ?_
  refine VC.region ?_
  refine VL.va (op_move rfl (ltn rfl)) rfl ?_
  refine VL.va (op_move rfl (ltn rfl)) rfl ?_
  refine VL.va (op_lens Try.underlying9 rfl (ltn rfl)) rfl ?_
  refine VL.letter (decide (i2697 < (a0.size : Int))) fun b2762 hb2762 => ?_
  refine VL.va (op_cmp rfl rfl (congrArg some hb2762) (ltn rfl)) rfl ?_
  refine VL.done ?_
  refine VN.then ?_
  by_cases c2763 : i2697 < (a0.size : Int)
  · rw [if_pos c2763] at h
    obtain rfl : b2762 = true := hb2762.symm.trans (decide_eq_true c2763)
    refine VC.cond_t rfl ?_
    refine VC.skip ?_
    refine VN.then ?_
    refine VC.seq ?_
    refine VC.block ?_
    refine VC.seq ?_
    refine VC.region ?_
    refine VL.va (op_move rfl (ltn rfl)) rfl ?_
    refine VL.va (op_move rfl (ltn rfl)) rfl ?_
    by_cases c2802 : 0 ≤ i2697
    · rw [if_pos c2802] at h
      by_cases c2803 : i2697 < (a0.size : Int)
      · rw [if_pos c2803] at h
        refine VL.va (op_indexS Try.underlying9 rfl rfl c2802 c2803 rfl (ltn rfl)) rfl ?_
        refine VL.letter (decide ((bt a0 i2697) < 97)) fun b2804 hb2804 => ?_
        refine VL.va (op_cmp rfl rfl (congrArg some hb2804) (ltn rfl)) rfl ?_
        refine VL.va (op_move rfl (ltn rfl)) rfl ?_
        by_cases c2805 : (bt a0 i2697) < 97
        · rw [if_pos c2805] at h
          obtain rfl : b2804 = true := hb2804.symm.trans (decide_eq_true c2805)
          refine VL.un rfl rfl (ltn rfl) ?_
          refine VL.un rfl rfl (ltn rfl) ?_
          refine VL.un rfl rfl (ltn rfl) ?_
          refine VL.un rfl rfl (ltn rfl) ?_
          refine VL.va (op_pick rfl rfl (ltn rfl)) rfl ?_
          refine VL.va (op_move rfl (ltn rfl)) rfl ?_
          refine VL.va (op_move rfl (ltn rfl)) rfl ?_
          refine VL.va (op_move rfl (ltn rfl)) rfl ?_
          refine VL.va (op_indexS Try.underlying9 rfl rfl c2802 c2803 rfl (ltn rfl)) rfl ?_
          refine VL.letter (decide ((bt a0 i2697) < 48)) fun b2806 hb2806 => ?_
          refine VL.va (op_cmp rfl rfl (congrArg some hb2806) (ltn rfl)) rfl ?_
          refine VL.va (op_move rfl (ltn rfl)) rfl ?_
          by_cases c2807 : (bt a0 i2697) < 48
          · rw [if_pos c2807] at h
            obtain rfl : b2806 = true := hb2806.symm.trans (decide_eq_true c2807)
            refine VL.un rfl rfl (ltn rfl) ?_
            refine VL.un rfl rfl (ltn rfl) ?_
            refine VL.un rfl rfl (ltn rfl) ?_
            refine VL.un rfl rfl (ltn rfl) ?_
            refine VL.va (op_pick rfl rfl (ltn rfl)) rfl ?_
            refine VL.va (op_pick rfl rfl (ltn rfl)) rfl ?_
            refine VL.done ?_
            refine VN.then ?_
            refine VC.cond_t rfl ?_
            refine VC.seq ?_
            refine VC.region ?_
            refine VL.va (op_assign rfl (ltn rfl)) rfl ?_
            refine VL.done ?_
            refine VN.then ?_
            refine VC.ret ?_
            refine VR.block ?_
            refine VR.then ?_
            refine VR.then ?_
            refine VR.block ?_
            refine VR.then ?_
            obtain rfl := Option.some.inj h
            exact VR.fn (rs := [.tmp 2]) [] [] [] rfl (.tmp rfl .nil) ⟨rfl, rfl, rfl⟩ trivial rfl (by decide)
          · rw [if_neg c2807] at h
            obtain rfl : b2806 = false := hb2806.symm.trans (decide_eq_false c2807)
            refine VL.va (op_move rfl (ltn rfl)) rfl ?_
            refine VL.va (op_move rfl (ltn rfl)) rfl ?_
            refine VL.va (op_indexS Try.underlying9 rfl rfl c2802 c2803 rfl (ltn rfl)) rfl ?_
            refine VL.letter (decide ((bt a0 i2697) > 57)) fun b2808 hb2808 => ?_
            refine VL.va (op_cmp rfl rfl (congrArg some hb2808) (ltn rfl)) rfl ?_
            refine VL.va (op_pick rfl rfl (ltn rfl)) rfl ?_
            refine VL.va (op_pick rfl rfl (ltn rfl)) rfl ?_
            refine VL.done ?_
            refine VN.then ?_
            by_cases c2809 : (bt a0 i2697) > 57
            · rw [if_pos c2809] at h
              obtain rfl : b2808 = true := hb2808.symm.trans (decide_eq_true c2809)
              refine VC.cond_t rfl ?_
              refine VC.seq ?_
              refine VC.region ?_
              refine VL.va (op_assign rfl (ltn rfl)) rfl ?_
              refine VL.done ?_
              refine VN.then ?_
              refine VC.ret ?_
              refine VR.block ?_
              refine VR.then ?_
              refine VR.then ?_
              refine VR.block ?_
              refine VR.then ?_
              obtain rfl := Option.some.inj h
              exact VR.fn (rs := [.tmp 2]) [] [] [] rfl (.tmp rfl .nil) ⟨rfl, rfl, rfl⟩ trivial rfl (by decide)
            · rw [if_neg c2809] at h
              obtain rfl : b2808 = false := hb2808.symm.trans (decide_eq_false c2809)
              refine VC.cond_f rfl ?_
              refine VC.skip ?_
              refine VN.block ?_
              refine VN.then ?_
              refine VC.region ?_
              refine VL.va (op_move rfl (ltn rfl)) rfl ?_
              refine VL.va (op_ari64 rfl rfl rfl (ltn rfl)) rfl ?_
              refine VL.va (op_assign rfl (ltn rfl)) rfl ?_
              refine VL.done ?_
              refine VN.again [] [] (ihl1 (wrap64 (i2697 + 1)) h) ⟨rfl, ⟨rfl, rfl, rfl, trivial⟩, trivial, rfl, by decide, rfl, by decide⟩
        · rw [if_neg c2805] at h
          obtain rfl : b2804 = false := hb2804.symm.trans (decide_eq_false c2805)
          refine VL.va (op_move rfl (ltn rfl)) rfl ?_
          refine VL.va (op_move rfl (ltn rfl)) rfl ?_
          refine VL.va (op_indexS Try.underlying9 rfl rfl c2802 c2803 rfl (ltn rfl)) rfl ?_
          refine VL.letter (decide ((bt a0 i2697) > 122)) fun b2810 hb2810 => ?_
          refine VL.va (op_cmp rfl rfl (congrArg some hb2810) (ltn rfl)) rfl ?_
          refine VL.va (op_pick rfl rfl (ltn rfl)) rfl ?_
          refine VL.va (op_move rfl (ltn rfl)) rfl ?_
          by_cases c2811 : (bt a0 i2697) > 122
          · rw [if_pos c2811] at h
            obtain rfl : b2810 = true := hb2810.symm.trans (decide_eq_true c2811)
            refine VL.va (op_move rfl (ltn rfl)) rfl ?_
            refine VL.va (op_move rfl (ltn rfl)) rfl ?_
            refine VL.va (op_indexS Try.underlying9 rfl rfl c2802 c2803 rfl (ltn rfl)) rfl ?_
            refine VL.letter (decide ((bt a0 i2697) < 48)) fun b2812 hb2812 => ?_
            refine VL.va (op_cmp rfl rfl (congrArg some hb2812) (ltn rfl)) rfl ?_
            refine VL.va (op_move rfl (ltn rfl)) rfl ?_
            by_cases c2813 : (bt a0 i2697) < 48
            · rw [if_pos c2813] at h
              obtain rfl : b2812 = true := hb2812.symm.trans (decide_eq_true c2813)
              refine VL.un rfl rfl (ltn rfl) ?_
              refine VL.un rfl rfl (ltn rfl) ?_
              refine VL.un rfl rfl (ltn rfl) ?_
              refine VL.un rfl rfl (ltn rfl) ?_
              refine VL.va (op_pick rfl rfl (ltn rfl)) rfl ?_
              refine VL.va (op_pick rfl rfl (ltn rfl)) rfl ?_
              refine VL.done ?_
              refine VN.then ?_
              refine VC.cond_t rfl ?_
              refine VC.seq ?_
              refine VC.region ?_
              refine VL.va (op_assign rfl (ltn rfl)) rfl ?_
              refine VL.done ?_
              refine VN.then ?_
              refine VC.ret ?_
              refine VR.block ?_
              refine VR.then ?_
              refine VR.then ?_
              refine VR.block ?_
              refine VR.then ?_
              obtain rfl := Option.some.inj h
              exact VR.fn (rs := [.tmp 2]) [] [] [] rfl (.tmp rfl .nil) ⟨rfl, rfl, rfl⟩ trivial rfl (by decide)
            · rw [if_neg c2813] at h
              obtain rfl : b2812 = false := hb2812.symm.trans (decide_eq_false c2813)
              refine VL.va (op_move rfl (ltn rfl)) rfl ?_
              refine VL.va (op_move rfl (ltn rfl)) rfl ?_
              refine VL.va (op_indexS Try.underlying9 rfl rfl c2802 c2803 rfl (ltn rfl)) rfl ?_
              refine VL.letter (decide ((bt a0 i2697) > 57)) fun b2814 hb2814 => ?_
              refine VL.va (op_cmp rfl rfl (congrArg some hb2814) (ltn rfl)) rfl ?_
              refine VL.va (op_pick rfl rfl (ltn rfl)) rfl ?_
              refine VL.va (op_pick rfl rfl (ltn rfl)) rfl ?_
              refine VL.done ?_
              refine VN.then ?_
              by_cases c2815 : (bt a0 i2697) > 57
              · rw [if_pos c2815] at h
                obtain rfl : b2814 = true := hb2814.symm.trans (decide_eq_true c2815)
                refine VC.cond_t rfl ?_
                refine VC.seq ?_
                refine VC.region ?_
                refine VL.va (op_assign rfl (ltn rfl)) rfl ?_
                refine VL.done ?_
                refine VN.then ?_
                refine VC.ret ?_
                refine VR.block ?_
                refine VR.then ?_
                refine VR.then ?_
                refine VR.block ?_
                refine VR.then ?_
                obtain rfl := Option.some.inj h
                exact VR.fn (rs := [.tmp 2]) [] [] [] rfl (.tmp rfl .nil) ⟨rfl, rfl, rfl⟩ trivial rfl (by decide)
              · rw [if_neg c2815] at h
                obtain rfl : b2814 = false := hb2814.symm.trans (decide_eq_false c2815)
                refine VC.cond_f rfl ?_
                refine VC.skip ?_
                refine VN.block ?_
                refine VN.then ?_
                refine VC.region ?_
                refine VL.va (op_move rfl (ltn rfl)) rfl ?_
                refine VL.va (op_ari64 rfl rfl rfl (ltn rfl)) rfl ?_
                refine VL.va (op_assign rfl (ltn rfl)) rfl ?_
                refine VL.done ?_
                refine VN.again [] [] (ihl1 (wrap64 (i2697 + 1)) h) ⟨rfl, ⟨rfl, rfl, rfl, trivial⟩, trivial, rfl, by decide, rfl, by decide⟩
          · rw [if_neg c2811] at h
            obtain rfl : b2810 = false := hb2810.symm.trans (decide_eq_false c2811)
            refine VL.un rfl rfl (ltn rfl) ?_
            refine VL.un rfl rfl (ltn rfl) ?_
            refine VL.un rfl rfl (ltn rfl) ?_
            refine VL.un rfl rfl (ltn rfl) ?_
            refine VL.un rfl rfl (ltn rfl) ?_
            refine VL.un rfl rfl (ltn rfl) ?_
            refine VL.un rfl rfl (ltn rfl) ?_
            refine VL.un rfl rfl (ltn rfl) ?_
            refine VL.un rfl rfl (ltn rfl) ?_
            refine VL.un rfl rfl (ltn rfl) ?_
            refine VL.va (op_pick rfl rfl (ltn rfl)) rfl ?_
            refine VL.done ?_
            refine VN.then ?_
            refine VC.cond_f rfl ?_
            refine VC.skip ?_
            refine VN.block ?_
            refine VN.then ?_
            refine VC.region ?_
            refine VL.va (op_move rfl (ltn rfl)) rfl ?_
            refine VL.va (op_ari64 rfl rfl rfl (ltn rfl)) rfl ?_
            refine VL.va (op_assign rfl (ltn rfl)) rfl ?_
            refine VL.done ?_
            refine VN.again [] [] (ihl1 (wrap64 (i2697 + 1)) h) ⟨rfl, ⟨rfl, rfl, rfl, trivial⟩, trivial, rfl, by decide, rfl, by decide⟩
      · rw [if_neg c2803] at h; cases h
    · rw [if_neg c2802] at h; cases h
  · rw [if_neg c2763] at h
    obtain rfl : b2762 = false := hb2762.symm.trans (decide_eq_false c2763)
    refine VC.cond_f rfl ?_
    refine VC.exit ?_
    refine VX.then ?_
    refine VX.then ?_
    refine VX.hit ?_
    refine VN.then ?_
    refine VC.seq ?_
    refine VC.region ?_
    refine VL.va (op_move rfl (ltn rfl)) rfl ?_
    refine VL.va (op_lens Try.underlying9 rfl (ltn rfl)) rfl ?_
    refine VL.letter (decide ((a0.size : Int) > 0)) fun b2819 hb2819 => ?_
    refine VL.va (op_cmp rfl rfl (congrArg some hb2819) (ltn rfl)) rfl ?_
    refine VL.va (op_move rfl (ltn rfl)) rfl ?_
    by_cases c2820 : (a0.size : Int) > 0
    · rw [if_pos c2820] at h
      obtain rfl : b2819 = true := hb2819.symm.trans (decide_eq_true c2820)
      refine VL.va (op_move rfl (ltn rfl)) rfl ?_
      refine VL.va (op_lens Try.underlying9 rfl (ltn rfl)) rfl ?_
      refine VL.letter (decide ((a0.size : Int) ≤ 16)) fun b2821 hb2821 => ?_
      refine VL.va (op_cmp rfl rfl (congrArg some hb2821) (ltn rfl)) rfl ?_
      refine VL.va (op_pick rfl rfl (ltn rfl)) rfl ?_
      refine VL.va (op_assign rfl (ltn rfl)) rfl ?_
      refine VL.done ?_
      refine VN.then ?_
      refine VC.ret ?_
      obtain rfl := Option.some.inj h
      subst hb2821
      exact VR.fn (rs := [.tmp 2]) [] [] [] rfl (.tmp rfl .nil) ⟨rfl, rfl, rfl⟩ trivial rfl (by decide)
    · rw [if_neg c2820] at h
      obtain rfl : b2819 = false := hb2819.symm.trans (decide_eq_false c2820)
      refine VL.un rfl rfl (ltn rfl) ?_
      refine VL.un rfl rfl (ltn rfl) ?_
      refine VL.un rfl rfl (ltn rfl) ?_
      refine VL.va (op_pick rfl rfl (ltn rfl)) rfl ?_
      refine VL.va (op_assign rfl (ltn rfl)) rfl ?_
      refine VL.done ?_
      refine VN.then ?_
      refine VC.ret ?_
      obtain rfl := Option.some.inj h
      exact VR.fn (rs := [.tmp 2]) [] [] [] rfl (.tmp rfl .nil) ⟨rfl, rfl, rfl⟩ trivial rfl (by decide)
set_option maxHeartbeats 4000000 in
set_option maxRecDepth 100000 in
theorem tarryref07_Less.ok (k : Nat) (a0 : ByteArray) (a1 : ByteArray)  (r1 : Bool) (h : tarryref07_Less.f k a0 a1 = some r1) :
    VCalls Try.prog 41 [.string a0, .string a1] [] (fun v G own => v = .bool r1 ∧ G = [] ∧ own = []) := by
  refine VCalls.intro Try.func41 rfl (len rfl) fun E hC => ?_
  unfold tarryref07_Less.f at h
  refine VC.seq ?_
  refine VC.region ?_
  refine VL.va (op_assign rfl (ltn rfl)) rfl ?_
  refine VL.done ?_
  refine VN.then ?_
  refine VC.seq ?_
  refine VC.seq ?_
  refine VC.region ?_
  refine VL.va (op_assign rfl (ltn rfl)) rfl ?_
  refine VL.done ?_
  refine VN.then ?_
  refine VC.block ?_
  refine VC.loop1 (fun (i2953 : Int) => ⟨37, [(0, .string a0), (1, .string a1), (4, .bool false), (5, .int .i64 i2953)], [], [], []⟩) (fun (ml1 : Nat) (i2953 : Int) => tarryref07_Less.l1 k a0 a1 ml1 i2953 = some r1) k 0 [] [] h ⟨rfl, ⟨rfl, rfl, rfl, rfl, trivial⟩, trivial, rfl, by decide, rfl, by decide⟩ (by intros; simp [tarryref07_Less.l1]) ?_
  clear h
  intro ml1 ihl1 i2953 h
  simp only [tarryref07_Less.l1] at h
  refine VC.seq ?_
  refine VC.seq ?_
  refine VC.region ?_
  refine VL.va (op_move rfl (ltn rfl)) rfl ?_
  refine VL.va (op_move rfl (ltn rfl)) rfl ?_
  refine VL.va (op_lens Try.underlying9 rfl (ltn rfl)) rfl ?_
  refine VL.letter (decide (i2953 < (a0.size : Int))) fun b2992 hb2992 => ?_
  refine VL.va (op_cmp rfl rfl (congrArg some hb2992) (ltn rfl)) rfl ?_
  refine VL.va (op_move rfl (ltn rfl)) rfl ?_
  by_cases c2993 : i2953 < (a0.size : Int)
  · rw [if_pos c2993] at h
    obtain rfl : b2992 = true := hb2992.symm.trans (decide_eq_true c2993)
    refine VL.va (op_move rfl (ltn rfl)) rfl ?_
    refine VL.va (op_move rfl (ltn rfl)) rfl ?_
    refine VL.va (op_lens Try.underlying9 rfl (ltn rfl)) rfl ?_
    refine VL.letter (decide (i2953 < (a1.size : Int))) fun b2994 hb2994 => ?_
    refine VL.va (op_cmp rfl rfl (congrArg some hb2994) (ltn rfl)) rfl ?_
    refine VL.va (op_pick rfl rfl (ltn rfl)) rfl ?_
    refine VL.done ?_
    refine VN.then ?_
    by_cases c2995 : i2953 < (a1.size : Int)
    · rw [if_pos c2995] at h
      obtain rfl : b2994 = true := hb2994.symm.trans (decide_eq_true c2995)
      refine VC.cond_t rfl ?_
      refine VC.skip ?_
      refine VN.then ?_
      refine VC.seq ?_
      refine VC.block ?_
      by_cases c3002 : 0 ≤ i2953
      · rw [if_pos c3002] at h
        by_cases c3003 : i2953 < (a0.size : Int)
        · rw [if_pos c3003] at h
          by_cases c3004 : i2953 < (a1.size : Int)
          · rw [if_pos c3004] at h
            refine VC.letter (((bt a0 i2953) != (bt a1 i2953))) fun b3005 hb3005 => ?_
            refine VC.join0 (⟨37, [(0, .string a0), (1, .string a1), (4, .bool false), (5, .int .i64 i2953), (6, .int .i64 i2953), (7, .string a0), (8, .int .i64 (a0.size : Int)), (9, .bool true), (10, .bool true), (11, .int .i64 i2953), (12, .string a1), (13, .int .i64 (a1.size : Int)), (14, .bool true), (15, .bool true), (18, .string a0), (19, .int .i64 i2953), (20, .int .u8 (bt a0 i2953)), (21, .string a1), (22, .int .i64 i2953), (23, .int .u8 (bt a1 i2953)), (24, .bool b3005)], [], [], []⟩) (True) ?_ ?_
            · refine VC.draw ⟨0, [], [], [], []⟩ (by kernel_rfl) rfl (by kernel_rfl) (n := 7) (listed := LB 7 0) ?_
              refine VA.va (i := 0) (listed' := LB 7 1) rfl (op_move rfl (ltn rfl)) rfl (by kernel_rfl) (by kernel_rfl) (by kernel_rfl) (by kernel_rfl) ⟨trivial, trivial, trivial⟩ (fun _ _ _ h => h) ?_
              refine VA.va (i := 1) (listed' := LB 7 3) rfl (op_move rfl (ltn rfl)) rfl (by kernel_rfl) (by kernel_rfl) (by kernel_rfl) (by kernel_rfl) ⟨trivial, trivial, trivial⟩ (fun _ _ _ h => h) ?_
              refine VA.va (i := 2) (listed' := LB 7 7) rfl (op_indexS Try.underlying9 rfl rfl c3002 c3003 rfl (ltn rfl)) rfl (by kernel_rfl) (by kernel_rfl) (by kernel_rfl) (by kernel_rfl) ⟨trivial, trivial, trivial⟩ (fun _ _ _ h => h) ?_
              refine VA.va (i := 3) (listed' := LB 7 15) rfl (op_move rfl (ltn rfl)) rfl (by kernel_rfl) (by kernel_rfl) (by kernel_rfl) (by kernel_rfl) ⟨trivial, trivial, trivial⟩ (fun _ _ _ h => h) ?_
              refine VA.va (i := 4) (listed' := LB 7 31) rfl (op_move rfl (ltn rfl)) rfl (by kernel_rfl) (by kernel_rfl) (by kernel_rfl) (by kernel_rfl) ⟨trivial, trivial, trivial⟩ (fun _ _ _ h => h) ?_
              refine VA.va (i := 5) (listed' := LB 7 63) rfl (op_indexS Try.underlying9 rfl rfl c3002 c3004 rfl (ltn rfl)) rfl (by kernel_rfl) (by kernel_rfl) (by kernel_rfl) (by kernel_rfl) ⟨trivial, trivial, trivial⟩ (fun _ _ _ h => h) ?_
              refine VA.va (i := 6) (listed' := LB 7 127) rfl (op_cmp rfl rfl (congrArg some hb3005) (ltn rfl)) rfl (by kernel_rfl) (by kernel_rfl) (by kernel_rfl) (by kernel_rfl) ⟨trivial, trivial, trivial⟩ (fun _ _ _ h => h) ?_
              refine VA.done (by kernel_rfl) ?_
              exact VN.meet0  [] [] trivial ⟨rfl, ⟨rfl, rfl, rfl, rfl, rfl, rfl, rfl, rfl, rfl, rfl, rfl, rfl, rfl, rfl, rfl, rfl, rfl, rfl, rfl, rfl, rfl, trivial⟩, trivial, rfl, by decide, rfl, by decide⟩
            intro _
            by_cases c3006 : (bt a0 i2953) = (bt a1 i2953)
            · rw [if_pos c3006] at h
              obtain rfl : b3005 = false := hb3005.symm.trans (bne_eq_false_iff_eq.2 c3006)
              refine VC.cond_f rfl ?_
              refine VC.skip ?_
              refine VN.block ?_
              refine VN.then ?_
              refine VC.region ?_
              refine VL.va (op_move rfl (ltn rfl)) rfl ?_
              refine VL.va (op_ari64 rfl rfl rfl (ltn rfl)) rfl ?_
              refine VL.va (op_assign rfl (ltn rfl)) rfl ?_
              refine VL.done ?_
              refine VN.again [] [] (ihl1 (wrap64 (i2953 + 1)) h) ⟨rfl, ⟨rfl, rfl, rfl, rfl, trivial⟩, trivial, rfl, by decide, rfl, by decide⟩
            · rw [if_neg c3006] at h
              obtain rfl : b3005 = true := hb3005.symm.trans (bne_iff_ne.2 c3006)
              refine VC.cond_t rfl ?_
              refine VC.letter (decide ((bt a0 i2953) < (bt a1 i2953))) fun b3007 hb3007 => ?_
              refine VC.join0 (⟨37, [(0, .string a0), (1, .string a1), (4, .bool b3007), (5, .int .i64 i2953), (6, .int .i64 i2953), (7, .string a0), (8, .int .i64 (a0.size : Int)), (9, .bool true), (10, .bool true), (11, .int .i64 i2953), (12, .string a1), (13, .int .i64 (a1.size : Int)), (14, .bool true), (15, .bool true), (18, .string a0), (19, .int .i64 i2953), (20, .int .u8 (bt a0 i2953)), (21, .string a1), (22, .int .i64 i2953), (23, .int .u8 (bt a1 i2953)), (24, .bool true), (25, .string a0), (26, .int .i64 i2953), (27, .int .u8 (bt a0 i2953)), (28, .string a1), (29, .int .i64 i2953), (30, .int .u8 (bt a1 i2953)), (31, .bool b3007)], [], [], []⟩) (True) ?_ ?_
              · refine VC.draw ⟨0, [], [], [], []⟩ (by kernel_rfl) rfl (by kernel_rfl) (n := 8) (listed := LB 8 0) ?_
                refine VA.va (i := 0) (listed' := LB 8 1) rfl (op_move rfl (ltn rfl)) rfl (by kernel_rfl) (by kernel_rfl) (by kernel_rfl) (by kernel_rfl) ⟨trivial, trivial, trivial⟩ (fun _ _ _ h => h) ?_
                refine VA.va (i := 1) (listed' := LB 8 3) rfl (op_move rfl (ltn rfl)) rfl (by kernel_rfl) (by kernel_rfl) (by kernel_rfl) (by kernel_rfl) ⟨trivial, trivial, trivial⟩ (fun _ _ _ h => h) ?_
                refine VA.va (i := 2) (listed' := LB 8 7) rfl (op_indexS Try.underlying9 rfl rfl c3002 c3003 rfl (ltn rfl)) rfl (by kernel_rfl) (by kernel_rfl) (by kernel_rfl) (by kernel_rfl) ⟨trivial, trivial, trivial⟩ (fun _ _ _ h => h) ?_
                refine VA.va (i := 3) (listed' := LB 8 15) rfl (op_move rfl (ltn rfl)) rfl (by kernel_rfl) (by kernel_rfl) (by kernel_rfl) (by kernel_rfl) ⟨trivial, trivial, trivial⟩ (fun _ _ _ h => h) ?_
                refine VA.va (i := 4) (listed' := LB 8 31) rfl (op_move rfl (ltn rfl)) rfl (by kernel_rfl) (by kernel_rfl) (by kernel_rfl) (by kernel_rfl) ⟨trivial, trivial, trivial⟩ (fun _ _ _ h => h) ?_
                refine VA.va (i := 5) (listed' := LB 8 63) rfl (op_indexS Try.underlying9 rfl rfl c3002 c3004 rfl (ltn rfl)) rfl (by kernel_rfl) (by kernel_rfl) (by kernel_rfl) (by kernel_rfl) ⟨trivial, trivial, trivial⟩ (fun _ _ _ h => h) ?_
                refine VA.va (i := 6) (listed' := LB 8 127) rfl (op_cmp rfl rfl (congrArg some hb3007) (ltn rfl)) rfl (by kernel_rfl) (by kernel_rfl) (by kernel_rfl) (by kernel_rfl) ⟨trivial, trivial, trivial⟩ (fun _ _ _ h => h) ?_
                refine VA.va (i := 7) (listed' := LB 8 255) rfl (op_assign rfl (ltn rfl)) rfl (by kernel_rfl) (by kernel_rfl) (by kernel_rfl) (by kernel_rfl) ⟨trivial, trivial, trivial⟩ (fun _ _ _ h => h) ?_
                refine VA.done (by kernel_rfl) ?_
                exact VN.meet0  [] [] trivial ⟨rfl, ⟨rfl, rfl, rfl, rfl, rfl, rfl, rfl, rfl, rfl, rfl, rfl, rfl, rfl, rfl, rfl, rfl, rfl, rfl, rfl, rfl, rfl, rfl, rfl, rfl, rfl, rfl, rfl, rfl, trivial⟩, trivial, rfl, by decide, rfl, by decide⟩
              intro _
              refine VC.ret ?_
              refine VR.block ?_
              refine VR.then ?_
              refine VR.then ?_
              refine VR.block ?_
              refine VR.then ?_
              obtain rfl := Option.some.inj h
              subst hb3007
              exact VR.fn (rs := [.tmp 4]) [] [] [] rfl (.tmp rfl .nil) ⟨rfl, rfl, rfl⟩ trivial rfl (by decide)
          · rw [if_neg c3004] at h; cases h
        · rw [if_neg c3003] at h; cases h
      · rw [if_neg c3002] at h; cases h
    · rw [if_neg c2995] at h
      obtain rfl : b2994 = false := hb2994.symm.trans (decide_eq_false c2995)
      refine VC.cond_f rfl ?_
      refine VC.exit ?_
      refine VX.then ?_
      refine VX.then ?_
      refine VX.hit ?_
      refine VN.then ?_
      refine VC.seq ?_
      refine VC.region ?_
      refine VL.va (op_move rfl (ltn rfl)) rfl ?_
      refine VL.va (op_lens Try.underlying9 rfl (ltn rfl)) rfl ?_
      refine VL.va (op_move rfl (ltn rfl)) rfl ?_
      refine VL.va (op_lens Try.underlying9 rfl (ltn rfl)) rfl ?_
      refine VL.letter (decide ((a0.size : Int) < (a1.size : Int))) fun b3008 hb3008 => ?_
      refine VL.va (op_cmp rfl rfl (congrArg some hb3008) (ltn rfl)) rfl ?_
      refine VL.va (op_assign rfl (ltn rfl)) rfl ?_
      refine VL.done ?_
      refine VN.then ?_
      refine VC.ret ?_
      obtain rfl := Option.some.inj h
      subst hb3008
      exact VR.fn (rs := [.tmp 4]) [] [] [] rfl (.tmp rfl .nil) ⟨rfl, rfl, rfl⟩ trivial rfl (by decide)
  · rw [if_neg c2993] at h
    obtain rfl : b2992 = false := hb2992.symm.trans (decide_eq_false c2993)
    refine VL.un rfl rfl (ltn rfl) ?_
    refine VL.un rfl rfl (ltn rfl) ?_
    refine VL.un rfl rfl (ltn rfl) ?_
    refine VL.un rfl rfl (ltn rfl) ?_
    refine VL.va (op_pick rfl rfl (ltn rfl)) rfl ?_
    refine VL.done ?_
    refine VN.then ?_
    refine VC.cond_f rfl ?_
    refine VC.exit ?_
    refine VX.then ?_
    refine VX.then ?_
    refine VX.hit ?_
    refine VN.then ?_
    refine VC.seq ?_
    refine VC.region ?_
    refine VL.va (op_move rfl (ltn rfl)) rfl ?_
    refine VL.va (op_lens Try.underlying9 rfl (ltn rfl)) rfl ?_
    refine VL.va (op_move rfl (ltn rfl)) rfl ?_
    refine VL.va (op_lens Try.underlying9 rfl (ltn rfl)) rfl ?_
    refine VL.letter (decide ((a0.size : Int) < (a1.size : Int))) fun b3009 hb3009 => ?_
    refine VL.va (op_cmp rfl rfl (congrArg some hb3009) (ltn rfl)) rfl ?_
    refine VL.va (op_assign rfl (ltn rfl)) rfl ?_
    refine VL.done ?_
    refine VN.then ?_
    refine VC.ret ?_
    obtain rfl := Option.some.inj h
    subst hb3009
    exact VR.fn (rs := [.tmp 4]) [] [] [] rfl (.tmp rfl .nil) ⟨rfl, rfl, rfl⟩ trivial rfl (by decide)

end Go.Proofs.Ytoiihpmncphplaa.PGoodsKnow
