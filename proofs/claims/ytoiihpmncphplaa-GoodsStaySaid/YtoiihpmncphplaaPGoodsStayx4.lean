/- Written by a program of this repo: what the program's functions do, each as a Lean function, shown of the loaded code; or a statement's row over that; no condition of its own. -/
import Derived.Test.YtoiihpmncphplaaPGoodsStayx3
namespace Go.Proofs.Ytoiihpmncphplaa.PGoodsStay
open Go Go.RowKit Go.Proofs.YtoiihpmncphplaaV
set_option linter.unusedVariables false
set_option linter.unusedSimpArgs false

set_option maxHeartbeats 4000000 in
set_option maxRecDepth 100000 in
theorem slices_Clone_api_Sub_api_Sub.ok (l0 : List S22) (v0 : Value) (r1 : List S22) (h : slices_Clone_api_Sub_api_Sub.f l0 = some r1) :
    VCalls Try.prog 31 [v0] [.row v0 5 (l0.map enc22)] (fun v G own => ∃ w0 : Value, v = w0 ∧ G = [] ∧ own = [(w0, 23, 5, r1.map enc22)]) := by
  unfold slices_Clone_api_Sub_api_Sub.f at h
  by_cases hc : ¬ (l0.length * 56 ≤ 140737488355328)
  · rw [if_neg hc] at h; cases h
  replace hc := Decidable.not_not.1 hc
  rw [if_pos hc] at h
  obtain rfl := Option.some.inj h
  clear h
  refine VCalls.intro Try.func31 rfl (len rfl) fun E hC => ?_
  refine VC.formF 0 rfl fun A cap hv h1 h2 h3 => ?_
  rw [lenm] at hv h1 h3
  subst hv
  refine VC.seq (VC.region ?_)
  refine VL.va (op_assign rfl (ltn rfl)) rfl ?_
  refine VL.done (VN.then ?_)
  refine VC.seq ?_
  refine VC.seq (VC.region ?_)
  refine VL.va (op_move rfl (ltn rfl)) rfl ?_
  refine VL.va (op_isnil Try.underlying33 rfl rfl (ltn rfl)) rfl ?_
  refine VL.done (VN.then ?_)
  cases A with
  | none =>
    have e : l0 = [] := List.eq_nil_of_length_eq_zero (h3 rfl)
    subst e
    refine VC.cond_t rfl ?_
    refine VC.seq (VC.region ?_)
    refine VL.va (op_assign rfl (ltn rfl)) rfl ?_
    refine VL.done (VN.then ?_)
    refine VC.ret (VR.then ?_)
    refine VR.nilRow' 23 5 ?_
    exact VR.fn (rs := [.tmp 2]) [] [(.slice none 0 0, 23, 5, [])] [0] rfl (.tmp rfl .nil) ⟨_, rfl, rfl, rfl⟩ trivial rfl (by decide)
  | some ad =>
    refine VC.cond_f rfl (VC.skip (VN.then ?_))
    refine VC.seq (VC.region ?_)
    refine VL.sG (o_buildSlice (vals := []) (cells := #[]) (es := List.map enc22 ([] : List S22)) Try.underlying33 TI23 Z23 rfl (by decide) (by decide) (by kernel_rfl) rfl rfl (flat_map enc22_ok _) (ltn rfl)) rfl ?_
    intro v1
    refine VL.va (op_move rfl (ltn rfl)) rfl ?_
    refine VL.sG (o_append (es3 := l0.map enc22) 0 rfl Try.underlying33 EI23 rfl rfl rfl (.inl ⟨0, rfl⟩) (by rw [lenm, lenm]; simpa using hc) (ltn rfl)) rfl ?_
    intro v2
    refine VL.va (op_assign rfl (ltn rfl)) rfl ?_
    refine VL.done (VN.then ?_)
    refine VC.ret ?_
    exact VR.fn (rs := [.tmp 2]) [] [(v2, 23, 5, l0.map enc22)] [0] rfl (.tmp rfl .nil) ⟨_, rfl, rfl, rfl⟩ trivial rfl (by decide)
set_option maxHeartbeats 4000000 in
set_option maxRecDepth 100000 in
theorem slices_Insert_api_Sub_api_Sub.ok (l0 : List S22) (a1 : Int) (l2 : List S22) (v0 v2 : Value) (r1 : List S22) (h : slices_Insert_api_Sub_api_Sub.f l0 a1 l2 = some r1) :
    VOwn Try.prog 46 [v0, .int .i64 a1, v2] (v0, 23, 5, l0.map enc22) [.row v2 5 (l2.map enc22), .lent v2 23 5 (l2.map enc22)] (fun q x' => x' = (q, 23, 5, r1.map enc22)) := by
  unfold slices_Insert_api_Sub_api_Sub.f at h
  by_cases hc : ¬ (0 ≤ a1 ∧ a1 ≤ (l0.length : Int) ∧ (l0.length + l2.length) * 56 ≤ 140737488355328)
  · rw [if_neg hc] at h; cases h
  replace hc := Decidable.not_not.1 hc
  rw [if_pos hc] at h
  obtain rfl := Option.some.inj h
  obtain ⟨h0, hle, hbig⟩ := hc
  clear h
  obtain ⟨i, rfl⟩ : ∃ i : Nat, a1 = (i : Int) := ⟨a1.toNat, by omega⟩
  have hi : i ≤ l0.length := by omega
  have hsm : l0.length + l2.length ≤ 140737488355328 := by omega
  simp only [Int.toNat_natCast]
  refine VOwn.intro Try.func46 rfl (len rfl) fun E fr => ?_
  refine VC.formR 0 rfl fun A cap hv hcap => ?_
  rw [lenm] at hv hcap
  subst hv
  refine VC.seq (VC.region ?_)
  refine VL.va (op_assign rfl (ltn rfl)) rfl ?_
  refine VL.done (VN.then ?_)
  refine VC.seq (VC.region ?_)
  refine VL.va (op_move rfl (ltn rfl)) rfl ?_
  refine VL.va (op_move rfl (ltn rfl)) rfl ?_
  refine VL.va (op_cutV (l := i) (h := l0.length) Try.underlying33 TI23 rfl ⟨⟨_, _, rfl, h0, Int.toNat_natCast i⟩, rfl, hi, Nat.le_refl _⟩ hcap (ltn rfl)) rfl ?_
  refine VL.done (VN.then ?_)
  refine VC.seq (VC.region ?_)
  refine VL.va (op_move rfl (ltn rfl)) rfl ?_
  refine VL.va (op_len (m := l2.length) 0 lenm Try.underlying33 rfl rfl (ltn rfl)) rfl ?_
  refine VL.va (op_assign rfl (ltn rfl)) rfl ?_
  refine VL.done (VN.then ?_)
  refine VC.seq ?_
  refine VC.seq (VC.region ?_)
  refine VL.va (op_move rfl (ltn rfl)) rfl ?_
  refine VL.letter ((l2.length : Int) == 0) fun b3 hb3 => ?_
  refine VL.va (op_cmp rfl rfl (congrArg some hb3) (ltn rfl)) rfl ?_
  refine VL.done (VN.then ?_)
  by_cases c3 : l2.length = 0
  · have : b3 = true := by rw [← hb3]; simpa using c3
    subst this
    clear hb3
    refine VC.cond_t rfl ?_
    refine VC.seq (VC.region ?_)
    refine VL.va (op_move rfl (ltn rfl)) rfl ?_
    refine VL.va (op_assign rfl (ltn rfl)) rfl ?_
    refine VL.done (VN.then ?_)
    refine VC.ret (VR.then ?_)
    have e2 : l2 = [] := List.eq_nil_of_length_eq_zero c3
    refine VR.own (rs := [.tmp 6]) 0 [.row v2 5 (l2.map enc22), .lent v2 23 5 (l2.map enc22)] rfl (.tmp rfl .nil) rfl ?_ rfl id
    rw [e2, List.append_nil, List.take_append_drop]
    rfl
  have : b3 = false := by rw [← hb3]; simpa using c3
  subst this
  clear hb3
  refine VC.cond_f rfl (VC.skip (VN.then ?_))
  refine VC.openLent 1 rfl (by rw [lenm]; omega) ?_
  rintro vb c2 rfl
  rw [lenm]
  refine VC.seq (VC.region ?_)
  refine VL.va (op_move rfl (ltn rfl)) rfl ?_
  refine VL.va (op_lenV Try.underlying33 rfl (ltn rfl)) rfl ?_
  refine VL.va (op_assign rfl (ltn rfl)) rfl ?_
  refine VL.done (VN.then ?_)
  refine VC.seq ?_
  refine VC.seq (VC.region ?_)
  refine VL.va (op_move rfl (ltn rfl)) rfl ?_
  refine VL.va (op_move rfl (ltn rfl)) rfl ?_
  refine VL.letter ((i : Int) == (l0.length : Int)) fun b6 hb6 => ?_
  refine VL.va (op_cmp rfl rfl (congrArg some hb6) (ltn rfl)) rfl ?_
  refine VL.done (VN.then ?_)
  by_cases c6 : i = l0.length
  · have : b6 = true := by rw [← hb6]; simp [c6]
    subst this
    clear hb6
    refine VC.cond_t rfl ?_
    refine VC.seq (VC.region ?_)
    refine VL.va (op_move rfl (ltn rfl)) rfl ?_
    refine VL.va (op_move rfl (ltn rfl)) rfl ?_
    refine VL.sG (o_append 0 appm Try.underlying33 EI23 rfl rfl rfl (.inl ⟨0, rfl⟩) (bndm hbig) (ltn rfl)) rfl ?_
    intro v7
    refine VL.va (op_assign rfl (ltn rfl)) rfl ?_
    refine VL.done (VN.then ?_)
    refine VC.ret (VR.then ?_)
    refine VR.someR 0 rfl (by rw [lenm, List.length_append]; omega) fun hs7 => ?_
    refine VR.own (rs := [.tmp 6]) 0 [.row (.slice (some ⟨vb, 0, none⟩) l2.length c2) 5 (l2.map enc22), .lent (.slice (some ⟨vb, 0, none⟩) l2.length c2) 23 5 (l2.map enc22)] rfl (.tmp rfl .nil) rfl ?_ rfl (fun _ => hs7)
    rw [c6, List.take_length, List.drop_length, List.append_nil]
    rfl
  have : b6 = false := by rw [← hb6]; simpa using fun e => c6 (by omega)
  subst this
  clear hb6
  have hin : i < l0.length := by omega
  refine VC.cond_f rfl (VC.skip (VN.then ?_))
  refine VC.openBox 0 rfl (by rw [lenm]; omega) fun g cap' cur hv hcap' hmx hlen htake hfl => ?_
  rw [lenm] at hv hcap' htake
  obtain ⟨rfl, -, rfl⟩ := Value.slice.inj hv
  clear hv hcap'
  refine VC.lentNe 0 1 rfl rfl fun hne => ?_
  have hflv : flatOk 5 (l2.map enc22) := flat_map enc22_ok l2
  have hvl : (l2.map enc22).flatten.length = l2.length * 5 := by rw [flat_len hflv, lenm]
  have hd : ((cur.drop (i * 5)).take ((l0.length - i) * 5)).length = (l0.length - i) * 5 := by rw [List.length_take, List.length_drop, hlen]; omega
  have h1c : ∀ u ∈ (cur.drop (i * 5)).take ((l0.length - i) * 5), u.oneCell' = true := by
    intro u hu
    have e : (cur.drop (i * 5)).take ((l0.length - i) * 5) = (cur.take (l0.length * 5)).drop (i * 5) := by
      rw [List.drop_take]
      congr 1
      omega
    rw [e, htake] at hu
    exact flat_one hfl u (List.mem_of_mem_drop hu)
  have hfin : ((l0.take i ++ l2 ++ l0.drop i).map enc22).flatten = (cur.take (l0.length * 5)).take (i * 5) ++ (l2.map enc22).flatten ++ (cur.take (l0.length * 5)).drop (i * 5) := by
    rw [htake, List.map_append, List.map_append, List.flatten_append, List.flatten_append, List.map_take, List.map_drop, flat_take i hfl, flat_drop i hfl]
  have hfll : (l0.take i ++ l2 ++ l0.drop i).length = l0.length + l2.length := by simp only [List.length_append, List.length_take, List.length_drop]; omega
  refine VC.seq ?_
  refine VC.seq (VC.region ?_)
  refine VL.va (op_move rfl (ltn rfl)) rfl ?_
  refine VL.va (op_move rfl (ltn rfl)) rfl ?_
  refine VL.va (op_ari64 (q := ((l0.length + l2.length : Nat) : Int)) rfl rfl (congrArg some (w64 (by omega) (by omega))) (ltn rfl)) rfl ?_
  refine VL.va (op_move rfl (ltn rfl)) rfl ?_
  refine VL.va (op_cap Try.underlying33 rfl (ltn rfl)) rfl ?_
  refine VL.letter (decide (((l0.length + l2.length : Nat) : Int) > (cap : Int))) fun b8 hb8 => ?_
  refine VL.va (op_cmp rfl rfl (congrArg some hb8) (ltn rfl)) rfl ?_
  refine VL.done (VN.then ?_)
  by_cases c8 : cap < l0.length + l2.length
  · have : b8 = true := by rw [← hb8]; simp; omega
    subst this
    clear hb8
    refine VC.cond_t rfl ?_
    refine VC.seq (VC.region ?_)
    refine VL.va (op_move rfl (ltn rfl)) rfl ?_
    refine VL.va (op_move rfl (ltn rfl)) rfl ?_
    refine VL.va (op_cutH' 0 i (v := .slice (some ⟨g, 0, none⟩) i cap) (by rw [cutV_at0 (.inr rfl)]; simp) Try.underlying33 TI23 rfl ⟨rfl, ⟨_, _, rfl, h0, Int.toNat_natCast i⟩, Nat.zero_le _, by omega⟩ (ltn rfl)) rfl ?_
    refine VL.va (op_move rfl (ltn rfl)) rfl ?_
    refine VL.va (op_move rfl (ltn rfl)) rfl ?_
    refine VL.va (op_ari64 (q := ((l0.length + l2.length : Nat) : Int)) rfl rfl (congrArg some (w64 (by omega) (by omega))) (ltn rfl)) rfl ?_
    refine VL.va (op_move rfl (ltn rfl)) rfl ?_
    refine VL.va (op_ari64 (q := ((l0.length + l2.length - i : Nat) : Int)) rfl rfl (congrArg some (w64 (by omega) (by omega))) (ltn rfl)) rfl ?_
    refine o_appendZ 0 Try.underlying33 Try.underlying3 EI23 rfl rfl rfl (olds := cur.take (i * 5)) (by rw [List.drop_zero]) (by rw [List.length_take, hlen]; omega) (by omega) (by omega) (by omega) (by rw [show i + (l0.length + l2.length - i) = l0.length + l2.length by omega]; exact hbig) (ltn rfl) rfl fun g2 cap2 tail hc2 hm2 ht2 => ?_
    rw [show i + (l0.length + l2.length - i) = l0.length + l2.length by omega] at hc2 ⊢
    refine VL.va (op_assign rfl (ltn rfl)) rfl ?_
    refine VL.done (VN.then ?_)
    refine VC.seq (VC.region ?_)
    refine VL.va (op_move rfl (ltn rfl)) rfl ?_
    refine VL.va (op_move rfl (ltn rfl)) rfl ?_
    refine VL.va (op_cutV' i (l0.length + l2.length) (cutV_at0 (by omega)) Try.underlying33 TI23 rfl ⟨⟨_, _, rfl, h0, Int.toNat_natCast i⟩, rfl, by omega, Nat.le_refl _⟩ hc2 (ltn rfl)) rfl ?_
    refine VL.va (op_move rfl (ltn rfl)) rfl ?_
    have hol : (cur.take (i * 5) ++ tail).length = cap2 * 5 := by rw [List.length_append, List.length_take, hlen, ht2]; omega
    have hol2 : (upd (cur.take (i * 5) ++ tail) (i * 5) (l2.map enc22).flatten).length = cap2 * 5 := by rw [upd_len, hol]; rw [hvl, hol]; omega
    refine VL.step1 (o_copy (m := l2.length) 0 Try.underlying33 TI23 rfl rfl rfl (by omega) hvl (by rw [hvl, hol]; omega) (src_row 0 rfl) (flat_one hflv) rfl (ltn rfl)) rfl ?_
    refine VL.done (VN.then ?_)
    refine VC.seq ?_
    refine VC.draw ⟨0, [], [], [], []⟩ (by kernel_rfl) rfl (by kernel_rfl) (n := 9) (listed := LB 9 0) ?_
    refine VA.va (i := 0) (listed' := LB 9 1) rfl (op_move rfl (ltn rfl)) rfl (by kernel_rfl) (by kernel_rfl) (by kernel_rfl) (by kernel_rfl) ⟨trivial, trivial, trivial⟩ (fun _ _ _ h => h) ?_
    refine VA.va (i := 1) (listed' := LB 9 3) rfl (op_move rfl (ltn rfl)) rfl (by kernel_rfl) (by kernel_rfl) (by kernel_rfl) (by kernel_rfl) ⟨trivial, trivial, trivial⟩ (fun _ _ _ h => h) ?_
    refine VA.va (i := 2) (listed' := LB 9 7) rfl (op_move rfl (ltn rfl)) rfl (by kernel_rfl) (by kernel_rfl) (by kernel_rfl) (by kernel_rfl) ⟨trivial, trivial, trivial⟩ (fun _ _ _ h => h) ?_
    refine VA.va (i := 3) (listed' := LB 9 15) rfl (op_ari64 (q := ((i + l2.length : Nat) : Int)) rfl rfl (congrArg some (w64 (by omega) (by omega))) (ltn rfl)) rfl (by kernel_rfl) (by kernel_rfl) (by kernel_rfl) (by kernel_rfl) ⟨trivial, trivial, trivial⟩ (fun _ _ _ h => h) ?_
    refine VA.va (i := 4) (listed' := LB 9 31) rfl (op_cutV' (i + l2.length) (l0.length + l2.length) (cutV_at0 (by omega)) Try.underlying33 TI23 rfl ⟨⟨_, _, rfl, by omega, Int.toNat_natCast _⟩, rfl, by omega, Nat.le_refl _⟩ hc2 (ltn rfl)) rfl (by kernel_rfl) (by kernel_rfl) (by kernel_rfl) (by kernel_rfl) ⟨trivial, trivial, trivial⟩ (fun _ _ _ h => h) ?_
    refine VA.va (i := 5) (listed' := LB 9 63) rfl (op_move rfl (ltn rfl)) rfl (by kernel_rfl) (by kernel_rfl) (by kernel_rfl) (by kernel_rfl) ⟨trivial, trivial, trivial⟩ (fun _ _ _ h => h) ?_
    refine VA.va (i := 6) (listed' := LB 9 127) rfl (op_move rfl (ltn rfl)) rfl (by kernel_rfl) (by kernel_rfl) (by kernel_rfl) (by kernel_rfl) ⟨trivial, trivial, trivial⟩ (fun _ _ _ h => h) ?_
    refine VA.va (i := 7) (listed' := LB 9 255) rfl (op_cutV' i l0.length (cutV_at0 (by omega)) Try.underlying33 TI23 rfl ⟨⟨_, _, rfl, by omega, Int.toNat_natCast _⟩, rfl, by omega, Nat.le_refl _⟩ hcap (ltn rfl)) rfl (by kernel_rfl) (by kernel_rfl) (by kernel_rfl) (by kernel_rfl) ⟨trivial, trivial, trivial⟩ (fun _ _ _ h => h) ?_
    refine VA.one1 (i := 8) (listed' := LB 9 511) (by kernel_rfl) rfl (o_copy (m := l0.length - i) (cs := (cur.drop (i * 5)).take ((l0.length - i) * 5)) 0 Try.underlying33 TI23 rfl rfl rfl (by omega) hd (by rw [hd, hol2]; omega) (src_box ((l0.length - i) * 5) 1 rfl rfl) h1c rfl (ltn rfl)) rfl (by kernel_rfl) ⟨trivial, trivial, trivial⟩ ?_
    refine VA.done (by kernel_rfl) (VN.then ?_)
    refine VC.seq (VC.region ?_)
    refine VL.va (op_move rfl (ltn rfl)) rfl ?_
    refine VL.va (op_assign rfl (ltn rfl)) rfl ?_
    refine VL.done (VN.then ?_)
    refine VC.ret (VR.then ?_)
    refine VR.closeBox 0 cap2 5 ((l0.take i ++ l2 ++ l0.drop i).map enc22) rfl (by rw [lenm, hfll]; exact hc2) hm2 (by rw [upd_len, hol2]; rw [hd, hol2]; omega) ?_ (flat_map enc22_ok _) ?_
    · rw [lenm, hfll, hfin, Nat.add_mul, Nat.add_mul]
      exact ins_grow (by rw [hlen]; omega) (by omega) hvl (by rw [← Nat.sub_mul])
    rw [lenm, hfll]
    exact VR.own (rs := [.tmp 6]) 0 [.row (.slice (some ⟨vb, 0, none⟩) l2.length c2) 5 (l2.map enc22), .lent (.slice (some ⟨vb, 0, none⟩) l2.length c2) 23 5 (l2.map enc22)] rfl (.tmp rfl .nil) rfl rfl rfl (fun _ => rfl)
  have : b8 = false := by rw [← hb8]; simp; omega
  subst this
  clear hb8
  refine VC.cond_f rfl (VC.skip (VN.then ?_))
  refine VC.seq (VC.region ?_)
  refine VL.va (op_move rfl (ltn rfl)) rfl ?_
  refine VL.va (op_move rfl (ltn rfl)) rfl ?_
  refine VL.va (op_move rfl (ltn rfl)) rfl ?_
  refine VL.va (op_ari64 (q := ((l0.length + l2.length : Nat) : Int)) rfl rfl (congrArg some (w64 (by omega) (by omega))) (ltn rfl)) rfl ?_
  refine VL.va (op_cutH' 0 (l0.length + l2.length) (v := .slice (some ⟨g, 0, none⟩) (l0.length + l2.length) cap) (by rw [cutV_at0 (.inr rfl)]; simp) Try.underlying33 TI23 rfl ⟨rfl, ⟨_, _, rfl, by omega, Int.toNat_natCast _⟩, Nat.zero_le _, by omega⟩ (ltn rfl)) rfl ?_
  refine VL.va (op_assign rfl (ltn rfl)) rfl ?_
  refine VL.done (VN.then ?_)
  have hcur1 : (upd cur ((i + l2.length) * 5) ((cur.drop (i * 5)).take ((l0.length - i) * 5))).length = cap * 5 := by rw [upd_len, hlen]; rw [hd, hlen]; omega
  refine VC.seq ?_
  refine VC.seq ?_
  refine VC.region ?_
  refine VL.va (op_move rfl (ltn rfl)) rfl ?_
  refine VL.va (op_move rfl (ltn rfl)) rfl ?_
  refine VL.va (op_move rfl (ltn rfl)) rfl ?_
  refine VL.va (op_move rfl (ltn rfl)) rfl ?_
  refine VL.va (op_ari64 (q := ((i + l2.length : Nat) : Int)) rfl rfl (congrArg some (w64 (by omega) (by omega))) (ltn rfl)) rfl ?_
  refine VL.va (op_cutV' (i + l2.length) (l0.length + l2.length) (cutV_at0 (by omega)) Try.underlying33 TI23 rfl ⟨⟨_, _, rfl, by omega, Int.toNat_natCast _⟩, rfl, by omega, Nat.le_refl _⟩ (by omega) (ltn rfl)) rfl ?_
  refine VL.va (op_call_ext rfl rfl (ltn rfl) (fun w hm => run_overlaps (tb := 4) (j := 1) 0 Try.func56 (by kernel_rfl) (by kernel_rfl) (by kernel_rfl) (by kernel_rfl) Try.underlying33 TI23 rfl rfl (by rw [hlen]; omega) hne w hm)) rfl ?_
  refine VL.va (op_not rfl rfl (ltn rfl)) rfl ?_
  refine VL.done (VN.then ?_)
  refine VC.cond_t rfl ?_
  refine VC.seq ?_
  refine VC.draw ⟨0, [], [], [], []⟩ (by kernel_rfl) rfl (by kernel_rfl) (n := 9) (listed := LB 9 0) ?_
  refine VA.va (i := 0) (listed' := LB 9 1) rfl (op_move rfl (ltn rfl)) rfl (by kernel_rfl) (by kernel_rfl) (by kernel_rfl) (by kernel_rfl) ⟨trivial, trivial, trivial⟩ (fun _ _ _ h => h) ?_
  refine VA.va (i := 1) (listed' := LB 9 3) rfl (op_move rfl (ltn rfl)) rfl (by kernel_rfl) (by kernel_rfl) (by kernel_rfl) (by kernel_rfl) ⟨trivial, trivial, trivial⟩ (fun _ _ _ h => h) ?_
  refine VA.va (i := 2) (listed' := LB 9 7) rfl (op_move rfl (ltn rfl)) rfl (by kernel_rfl) (by kernel_rfl) (by kernel_rfl) (by kernel_rfl) ⟨trivial, trivial, trivial⟩ (fun _ _ _ h => h) ?_
  refine VA.va (i := 3) (listed' := LB 9 15) rfl (op_ari64 (q := ((i + l2.length : Nat) : Int)) rfl rfl (congrArg some (w64 (by omega) (by omega))) (ltn rfl)) rfl (by kernel_rfl) (by kernel_rfl) (by kernel_rfl) (by kernel_rfl) ⟨trivial, trivial, trivial⟩ (fun _ _ _ h => h) ?_
  refine VA.va (i := 4) (listed' := LB 9 31) rfl (op_cutV' (i + l2.length) (l0.length + l2.length) (cutV_at0 (by omega)) Try.underlying33 TI23 rfl ⟨⟨_, _, rfl, by omega, Int.toNat_natCast _⟩, rfl, by omega, Nat.le_refl _⟩ (by omega) (ltn rfl)) rfl (by kernel_rfl) (by kernel_rfl) (by kernel_rfl) (by kernel_rfl) ⟨trivial, trivial, trivial⟩ (fun _ _ _ h => h) ?_
  refine VA.va (i := 5) (listed' := LB 9 63) rfl (op_move rfl (ltn rfl)) rfl (by kernel_rfl) (by kernel_rfl) (by kernel_rfl) (by kernel_rfl) ⟨trivial, trivial, trivial⟩ (fun _ _ _ h => h) ?_
  refine VA.va (i := 6) (listed' := LB 9 127) rfl (op_move rfl (ltn rfl)) rfl (by kernel_rfl) (by kernel_rfl) (by kernel_rfl) (by kernel_rfl) ⟨trivial, trivial, trivial⟩ (fun _ _ _ h => h) ?_
  refine VA.va (i := 7) (listed' := LB 9 255) rfl (op_cutV' i (l0.length + l2.length) (cutV_at0 (by omega)) Try.underlying33 TI23 rfl ⟨⟨_, _, rfl, by omega, Int.toNat_natCast _⟩, rfl, by omega, Nat.le_refl _⟩ (by omega) (ltn rfl)) rfl (by kernel_rfl) (by kernel_rfl) (by kernel_rfl) (by kernel_rfl) ⟨trivial, trivial, trivial⟩ (fun _ _ _ h => h) ?_
  refine VA.one1 (i := 8) (listed' := LB 9 511) (by kernel_rfl) rfl (o_copy (m := l0.length - i) (cs := (cur.drop (i * 5)).take ((l0.length - i) * 5)) 0 Try.underlying33 TI23 rfl rfl rfl (by omega) hd (by rw [hd, hlen]; omega) (src_box ((l0.length - i) * 5) 0 rfl rfl) h1c rfl (ltn rfl)) rfl (by kernel_rfl) ⟨trivial, trivial, trivial⟩ ?_
  refine VA.done (by kernel_rfl) (VN.then ?_)
  refine VC.seq (VC.region ?_)
  refine VL.va (op_move rfl (ltn rfl)) rfl ?_
  refine VL.va (op_move rfl (ltn rfl)) rfl ?_
  refine VL.va (op_cutV' i (l0.length + l2.length) (cutV_at0 (by omega)) Try.underlying33 TI23 rfl ⟨⟨_, _, rfl, h0, Int.toNat_natCast i⟩, rfl, by omega, Nat.le_refl _⟩ (by omega) (ltn rfl)) rfl ?_
  refine VL.va (op_move rfl (ltn rfl)) rfl ?_
  refine VL.step1 (o_copy (m := l2.length) 0 Try.underlying33 TI23 rfl rfl rfl (by omega) hvl (by rw [hvl, hcur1]; omega) (src_row 0 rfl) (flat_one hflv) rfl (ltn rfl)) rfl ?_
  refine VL.done (VN.then ?_)
  refine VC.seq (VC.region ?_)
  refine VL.va (op_move rfl (ltn rfl)) rfl ?_
  refine VL.va (op_assign rfl (ltn rfl)) rfl ?_
  refine VL.done (VN.then ?_)
  refine VC.ret (VR.then ?_)
  refine VR.closeBox 0 cap 5 ((l0.take i ++ l2 ++ l0.drop i).map enc22) rfl (by rw [lenm, hfll]; omega) hmx (by rw [upd_len, hcur1]; rw [hvl, hcur1]; omega) ?_ (flat_map enc22_ok _) ?_
  · rw [lenm, hfll, hfin, Nat.add_mul, Nat.add_mul]
    exact ins_fits (by rw [hlen]; omega) (by omega) hvl (by rw [← Nat.sub_mul])
  rw [lenm, hfll]
  exact VR.own (rs := [.tmp 6]) 0 [.row (.slice (some ⟨vb, 0, none⟩) l2.length c2) 5 (l2.map enc22), .lent (.slice (some ⟨vb, 0, none⟩) l2.length c2) 23 5 (l2.map enc22)] rfl (.tmp rfl .nil) rfl rfl rfl (fun _ => rfl)
set_option maxHeartbeats 4000000 in
set_option maxRecDepth 100000 in
theorem goods_put_Sub.ok (k : Nat) (l0 : List S22) (a1_0 : ByteArray) (a1_1 : ByteArray) (a1_2 : Int) (a1_3 : Int) (a1_4 : Int) (v0 : Value) (r1 : List S22) (h : goods_put_Sub.f k l0 a1_0 a1_1 a1_2 a1_3 a1_4 = some r1) :
    VCalls Try.prog 28 [v0, .agg #[.string a1_0, .string a1_1, .int .i64 a1_2, .int .i64 a1_3, .int .i64 a1_4], (.func (.func 29) #[] #[])] [.row v0 5 (l0.map enc22)] (fun v G own => ∃ w0 : Value, v = w0 ∧ G = [] ∧ own = [(w0, 23, 5, r1.map enc22)]) := by
  refine VCalls.intro Try.func28 rfl (len rfl) fun E hC => ?_
  unfold goods_put_Sub.f at h
  refine VC.seq ?_
  refine VC.region ?_
  refine VL.sG (o_box rfl (.agg (.of rfl)) (ltn rfl)) rfl ?_
  intro g1877
  refine VL.va (op_assign rfl (ltn rfl)) rfl ?_
  refine VL.done ?_
  refine VN.then ?_
  refine VC.seq ?_
  refine VC.region ?_
  refine VL.va (op_move rfl (ltn rfl)) rfl ?_
  refine VL.va (op_load 0 5 rfl rfl TI23 rfl (fun h => absurd h (by decide)) (ltn rfl)) rfl ?_
  refine VL.va (op_move rfl (ltn rfl)) rfl ?_
  replace h := Option.bind_eq_some_iff.1 h
  obtain ⟨⟨t1960, t1961⟩, hA1962, h⟩ := h
  dsimp only at h
  refine VL.sC (o_call0 FO45 (slices_BinarySearchFunc_api_Sub_api_Sub_api_Sub.ok k l0 a1_0 a1_1 a1_2 a1_3 a1_4 v0 t1960 t1961 hA1962) rfl rfl (ltn rfl) (All_of (.cons (List.mem_of_getElem? (i := 0) rfl) .nil))) rfl ?_
  rintro _ _ _ ⟨rfl, rfl, rfl⟩
  refine VL.va (op_move rfl (ltn rfl)) rfl ?_
  refine VL.va (op_extract rfl rfl (ltn rfl)) rfl ?_
  refine VL.va (op_extract rfl rfl (ltn rfl)) rfl ?_
  refine VL.va (op_assign rfl (ltn rfl)) rfl ?_
  refine VL.va (op_assign rfl (ltn rfl)) rfl ?_
  refine VL.done ?_
  refine VN.then ?_
  replace h := Option.bind_eq_some_iff.1 h
  obtain ⟨r1963, hA1964, h⟩ := h
  replace h := Option.bind_eq_some_iff.1 h
  obtain ⟨r1969, hA1970, h⟩ := h
  refine VC.join1 (fun (v1971 : Value) => ⟨22, [(6, v1971)], [], [], [(v1971, 23, 5, r1969.map enc22)]⟩) (fun (v1971 : Value) => True) ?_ ?_
  · refine VC.draw ⟨0, [], [.row v0 5 (l0.map enc22)], [(g1877, 23, [.string a1_0, .string a1_1, .int .i64 a1_2, .int .i64 a1_3, .int .i64 a1_4])], []⟩ (by kernel_rfl) rfl (by kernel_rfl) (n := 7) (listed := LB 7 0) ?_
    refine VA.va (i := 0) (listed' := LB 7 1) rfl (op_move rfl (ltn rfl)) rfl (by kernel_rfl) (by kernel_rfl) (by kernel_rfl) (by kernel_rfl) ⟨⟨⟨0, rfl⟩, trivial⟩, ⟨⟨0, rfl⟩, trivial⟩, trivial⟩ (fun _ _ _ h => h) ?_
    refine VA.va (i := 2) (listed' := LB 7 5) rfl (op_move rfl (ltn rfl)) rfl (by kernel_rfl) (by kernel_rfl) (by kernel_rfl) (by kernel_rfl) ⟨⟨⟨0, rfl⟩, trivial⟩, ⟨⟨0, rfl⟩, trivial⟩, trivial⟩ (fun _ _ _ h => h) ?_
    refine VA.va (i := 3) (listed' := LB 7 13) rfl (op_load 0 5 rfl rfl TI23 rfl (fun h => absurd h (by decide)) (ltn rfl)) rfl (by kernel_rfl) (by kernel_rfl) (by kernel_rfl) (by kernel_rfl) ⟨⟨⟨0, rfl⟩, trivial⟩, ⟨⟨0, rfl⟩, trivial⟩, trivial⟩ (fun _ _ _ h => h) ?_
    refine VA.all [1, 4] (by kernel_rfl) (by simp) ?_
    refine VAll.consC (listed' := LB 7 15) rfl (o_call_b0 FO31 (slices_Clone_api_Sub_api_Sub.ok l0 v0 r1963 hA1964) rfl rfl (ltn rfl) (All_of (.cons (.inl (List.mem_of_getElem? (i := 0) rfl)) .nil)) (by rintro _ _ _ ⟨_, rfl, rfl, rfl⟩; rfl)) rfl (by kernel_rfl) ?_ ?_
    · rintro v1966 _ _ ⟨_, rfl, rfl, rfl⟩
      refine ⟨⟨⟨⟨0, rfl⟩, trivial⟩, ⟨⟨0, rfl⟩, trivial⟩, trivial⟩, ?_⟩
      refine VA.oneG (i := 4) (listed' := LB 7 31) (by kernel_rfl) rfl (o_buildSlice (vals := [(0, .agg #[.string a1_0, .string a1_1, .int .i64 a1_2, .int .i64 a1_3, .int .i64 a1_4])]) (cells := #[.string a1_0, .string a1_1, .int .i64 a1_2, .int .i64 a1_3, .int .i64 a1_4]) (es := List.map enc22 ([(⟨a1_0, a1_1, a1_2, a1_3, a1_4⟩ : S22)] : List S22)) Try.underlying33 TI23 Z23 rfl (by decide) (by decide) (by kernel_rfl) (by kernel_rfl) rfl (flat_map enc22_ok _) (ltn rfl)) rfl (by kernel_rfl) (fun _ => ⟨⟨⟨0, rfl⟩, trivial⟩, ⟨⟨0, rfl⟩, trivial⟩, trivial⟩) ?_
      intro v1968
      refine VA.oneG (i := 5) (listed' := LB 7 63) (by kernel_rfl) rfl (o_call_own0 (vals := [v1966, .int .i64 t1960, v1968]) 1 rfl FO46 (slices_Insert_api_Sub_api_Sub.ok r1963 t1960 ([(⟨a1_0, a1_1, a1_2, a1_3, a1_4⟩ : S22)] : List S22) v1966 v1968 r1969 hA1970) rfl rfl (ltn rfl) (All_of (.cons (.inr (.inl ⟨0, _, by decide, rfl, .inl rfl⟩)) (.cons (.inr (.inl ⟨0, _, by decide, rfl, .inr rfl⟩)) .nil)))) rfl (by kernel_rfl) (fun _ => ⟨⟨⟨0, rfl⟩, trivial⟩, ⟨⟨0, rfl⟩, trivial⟩, trivial⟩) ?_
      intro v1971
      refine VA.more ⟨0, [], [.row v0 5 (l0.map enc22)], [(g1877, 23, [.string a1_0, .string a1_1, .int .i64 a1_2, .int .i64 a1_3, .int .i64 a1_4])], [(v1971, 23, 5, r1969.map enc22)]⟩ ⟨⟨⟨0, rfl⟩, trivial⟩, ⟨⟨0, rfl⟩, trivial⟩, trivial⟩ ?_
      refine VA.va (i := 6) (listed' := LB 7 127) rfl (op_assign rfl (ltn rfl)) rfl (by kernel_rfl) (by kernel_rfl) (by kernel_rfl) (by kernel_rfl) ⟨⟨⟨0, rfl⟩, trivial⟩, ⟨⟨0, rfl⟩, trivial⟩, ⟨⟨1, rfl⟩, trivial⟩⟩ (fun _ _ _ h => h) ?_
      refine VA.done (by kernel_rfl) ?_
      exact VN.meet1 v1971 [] [1] trivial ⟨rfl, ⟨rfl, trivial⟩, trivial, rfl, by decide, rfl, by decide⟩
    refine VAll.consG (listed' := LB 7 29) rfl (o_buildSlice (vals := [(0, .agg #[.string a1_0, .string a1_1, .int .i64 a1_2, .int .i64 a1_3, .int .i64 a1_4])]) (cells := #[.string a1_0, .string a1_1, .int .i64 a1_2, .int .i64 a1_3, .int .i64 a1_4]) (es := List.map enc22 ([(⟨a1_0, a1_1, a1_2, a1_3, a1_4⟩ : S22)] : List S22)) Try.underlying33 TI23 Z23 rfl (by decide) (by decide) (by kernel_rfl) (by kernel_rfl) rfl (flat_map enc22_ok _) (ltn rfl)) rfl (by kernel_rfl) (fun _ => ⟨⟨⟨0, rfl⟩, trivial⟩, ⟨⟨0, rfl⟩, trivial⟩, trivial⟩) ?_ VAll.nil
    intro v1968
    refine VA.oneC (i := 1) (listed' := LB 7 31) (by kernel_rfl) rfl (o_call_b0 FO31 (slices_Clone_api_Sub_api_Sub.ok l0 v0 r1963 hA1964) rfl rfl (ltn rfl) (All_of (.cons (.inl (List.mem_of_getElem? (i := 0) rfl)) .nil)) (by rintro _ _ _ ⟨_, rfl, rfl, rfl⟩; rfl)) rfl (by kernel_rfl) ?_
    rintro v1966 _ _ ⟨_, rfl, rfl, rfl⟩
    refine ⟨⟨⟨⟨0, rfl⟩, trivial⟩, ⟨⟨0, rfl⟩, trivial⟩, trivial⟩, ?_⟩
    refine VA.oneG (i := 5) (listed' := LB 7 63) (by kernel_rfl) rfl (o_call_own0 (vals := [v1966, .int .i64 t1960, v1968]) 0 rfl FO46 (slices_Insert_api_Sub_api_Sub.ok r1963 t1960 ([(⟨a1_0, a1_1, a1_2, a1_3, a1_4⟩ : S22)] : List S22) v1966 v1968 r1969 hA1970) rfl rfl (ltn rfl) (All_of (.cons (.inr (.inl ⟨1, _, by decide, rfl, .inl rfl⟩)) (.cons (.inr (.inl ⟨1, _, by decide, rfl, .inr rfl⟩)) .nil)))) rfl (by kernel_rfl) (fun _ => ⟨⟨⟨0, rfl⟩, trivial⟩, ⟨⟨0, rfl⟩, trivial⟩, trivial⟩) ?_
    intro v1971
    refine VA.more ⟨0, [], [.row v0 5 (l0.map enc22)], [(g1877, 23, [.string a1_0, .string a1_1, .int .i64 a1_2, .int .i64 a1_3, .int .i64 a1_4])], [(v1971, 23, 5, r1969.map enc22)]⟩ ⟨⟨⟨0, rfl⟩, trivial⟩, ⟨⟨0, rfl⟩, trivial⟩, trivial⟩ ?_
    refine VA.va (i := 6) (listed' := LB 7 127) rfl (op_assign rfl (ltn rfl)) rfl (by kernel_rfl) (by kernel_rfl) (by kernel_rfl) (by kernel_rfl) ⟨⟨⟨0, rfl⟩, trivial⟩, ⟨⟨0, rfl⟩, trivial⟩, ⟨⟨0, rfl⟩, trivial⟩⟩ (fun _ _ _ h => h) ?_
    refine VA.done (by kernel_rfl) ?_
    exact VN.meet1 v1971 [] [0] trivial ⟨rfl, ⟨rfl, trivial⟩, trivial, rfl, by decide, rfl, by decide⟩
  intro v1971 _
  refine VC.ret ?_
  obtain rfl := Option.some.inj h
  exact VR.fn (rs := [.tmp 6]) [] [(v1971, 23, 5, r1969.map enc22)] [0] rfl (.tmp rfl .nil) ⟨v1971, rfl, rfl, rfl⟩ trivial rfl (by decide)
set_option maxHeartbeats 4000000 in
set_option maxRecDepth 100000 in
theorem goods_Rule.ok (k : Nat) (l0_0 : List ByteArray) (l0_1 : List S22) (a1_0 : ByteArray) (a1_1 : ByteArray) (a1_2 : Int) (a1_3 : Int) (a1_4 : Int) (v0_0 : Value) (v0_1 : Value) (r1 : List ByteArray) (r2 : List S22) (r3 : Int) (h : goods_Rule.f k l0_0 l0_1 a1_0 a1_1 a1_2 a1_3 a1_4 = some (r1, r2, r3)) :
    VCalls Try.prog 12 [.agg #[v0_0, v0_1], .agg #[.string a1_0, .string a1_1, .int .i64 a1_2, .int .i64 a1_3, .int .i64 a1_4]] [.row v0_0 1 (l0_0.map enc_str), .row v0_1 5 (l0_1.map enc22)] (fun v G own => ∃ w0 w1 : Value, v = .tuple #[.agg #[w0, w1], .int .i64 r3] ∧ G = [.row w0 1 (r1.map enc_str)] ∧ own = [(w1, 23, 5, r2.map enc22)]) := by
  refine VCalls.intro Try.func12 rfl (len rfl) fun E hC => ?_
  unfold goods_Rule.f at h
  refine VC.seq ?_
  refine VC.region ?_
  refine VL.sG (o_box rfl (.agg (.f 0 rfl (.f 1 rfl .nil))) (ltn rfl)) rfl ?_
  intro g1979
  refine VL.sG (o_box rfl (.agg (.of rfl)) (ltn rfl)) rfl ?_
  intro g1980
  refine VL.sG (o_alloc Z35 ZL35 (ltn rfl)) rfl ?_
  intro g1981
  refine VL.va (op_assign rfl (ltn rfl)) rfl ?_
  refine VL.done ?_
  refine VN.then ?_
  refine VC.seq ?_
  refine VC.region ?_
  refine VL.va (op_makeFunc (vals := [.pointer (some ⟨g1980, 0, none⟩)]) rfl (ltn rfl)) rfl ?_
  refine VL.va (op_assign rfl (ltn rfl)) rfl ?_
  refine VL.done ?_
  refine VN.then ?_
  refine VC.seq ?_
  refine VC.block ?_
  refine VC.seq ?_
  refine VC.region ?_
  refine VL.va (op_load 2 2 rfl rfl TI35 rfl (fun h => absurd h (by decide)) (ltn rfl)) rfl ?_
  replace h := Option.bind_eq_some_iff.1 h
  obtain ⟨t2029, hA2030, h⟩ := h
  refine VL.sC (o_call0 FO14 (goods_Right.ok k l0_0 l0_1 v0_0 v0_1 t2029 hA2030) rfl rfl (ltn rfl) (All_of (.cons (List.mem_of_getElem? (i := 0) rfl) (.cons (List.mem_of_getElem? (i := 1) rfl) .nil)))) rfl ?_
  rintro _ _ _ ⟨rfl, rfl, rfl⟩
  by_cases c2031 : t2029 = true
  · rw [if_pos c2031] at h
    obtain rfl := c2031
    refine VL.va (op_not rfl rfl (ltn rfl)) rfl ?_
    refine VL.va (op_move rfl (ltn rfl)) rfl ?_
    refine VL.va (op_load 1 5 rfl rfl TI23 rfl (fun h => absurd h (by decide)) (ltn rfl)) rfl ?_
    replace h := Option.bind_eq_some_iff.1 h
    obtain ⟨t2032, hA2033, h⟩ := h
    refine VL.sC (o_call0 FO23 (goods_may.ok k a1_0 a1_1 a1_2 a1_3 a1_4 t2032 hA2033) rfl rfl (ltn rfl) (All_of .nil)) rfl ?_
    rintro _ _ _ ⟨rfl, rfl, rfl⟩
    by_cases c2034 : t2032 = true
    · rw [if_pos c2034] at h
      obtain rfl := c2034
      refine VL.va (op_not rfl rfl (ltn rfl)) rfl ?_
      refine VL.va (op_pick rfl rfl (ltn rfl)) rfl ?_
      refine VL.va (op_assign rfl (ltn rfl)) rfl ?_
      refine VL.done ?_
      refine VN.then ?_
      refine VC.cond_f rfl ?_
      refine VC.seq ?_
      refine VC.region ?_
      refine VL.va (op_fieldAddr FI35_0 rfl (add_at _ _ _) (ltn rfl)) rfl ?_
      refine VL.va (op_load 2 1 rfl rfl TI32 rfl (by decide) (ltn rfl)) rfl ?_
      refine VL.va (op_fieldAddr FI23_0 rfl (add_at _ _ _) (ltn rfl)) rfl ?_
      refine VL.va (op_load 1 1 rfl rfl TI9 rfl (by decide) (ltn rfl)) rfl ?_
      replace h := Option.bind_eq_some_iff.1 h
      obtain ⟨t2041, hA2042, h⟩ := h
      refine VL.sC (o_call0 FO26 (slices_Contains_string_string.ok k l0_0 a1_0 v0_0 t2041 hA2042) rfl rfl (ltn rfl) (All_of (.cons (List.mem_of_getElem? (i := 0) rfl) .nil))) rfl ?_
      rintro _ _ _ ⟨rfl, rfl, rfl⟩
      by_cases c2043 : t2041 = true
      · rw [if_pos c2043] at h
        obtain rfl := c2043
        refine VL.va (op_not rfl rfl (ltn rfl)) rfl ?_
        refine VL.va (op_move rfl (ltn rfl)) rfl ?_
        refine VL.va (op_fieldAddr FI35_0 rfl (add_at _ _ _) (ltn rfl)) rfl ?_
        refine VL.va (op_load 2 1 rfl rfl TI32 rfl (by decide) (ltn rfl)) rfl ?_
        refine VL.va (op_fieldAddr FI23_1 rfl (add_at _ _ _) (ltn rfl)) rfl ?_
        refine VL.va (op_load 1 1 rfl rfl TI9 rfl (by decide) (ltn rfl)) rfl ?_
        replace h := Option.bind_eq_some_iff.1 h
        obtain ⟨t2044, hA2045, h⟩ := h
        refine VL.sC (o_call0 FO26 (slices_Contains_string_string.ok k l0_0 a1_1 v0_0 t2044 hA2045) rfl rfl (ltn rfl) (All_of (.cons (List.mem_of_getElem? (i := 0) rfl) .nil))) rfl ?_
        rintro _ _ _ ⟨rfl, rfl, rfl⟩
        by_cases c2046 : t2044 = true
        · rw [if_pos c2046] at h
          obtain rfl := c2046
          refine VL.va (op_not rfl rfl (ltn rfl)) rfl ?_
          refine VL.va (op_pick rfl rfl (ltn rfl)) rfl ?_
          refine VL.va (op_assign rfl (ltn rfl)) rfl ?_
          refine VL.done ?_
          refine VN.then ?_
          refine VC.cond_f rfl ?_
          refine VC.seq ?_
          refine VC.region ?_
          refine VL.va (op_fieldAddr FI35_1 rfl (add_at _ _ _) (ltn rfl)) rfl ?_
          refine VL.va (op_load 2 1 rfl rfl TI33 rfl (by decide) (ltn rfl)) rfl ?_
          refine VL.va (op_move rfl (ltn rfl)) rfl ?_
          refine VL.freeze' 1 rfl ?_
          replace h := Option.bind_eq_some_iff.1 h
          obtain ⟨t2047, hA2048, h⟩ := h
          refine VL.sC (o_call0 FO27 (slices_ContainsFunc_api_Sub_api_Sub_s25.ok k l0_1 a1_0 a1_1 a1_2 a1_3 a1_4 v0_1 g1980 t2047 hA2048) rfl rfl (ltn rfl) (All_of (.cons (List.mem_of_getElem? (i := 2) rfl) (.cons (List.mem_of_getElem? (i := 0) rfl) .nil)))) rfl ?_
          rintro _ _ _ ⟨rfl, rfl, rfl⟩
          refine VL.va (op_assign rfl (ltn rfl)) rfl ?_
          refine VL.done ?_
          refine VN.then ?_
          by_cases c2049 : t2047 = true
          · rw [if_pos c2049] at h
            obtain rfl := c2049
            refine VC.cond_t rfl ?_
            refine VC.seq ?_
            refine VC.region ?_
            refine VL.va (op_build (vals := []) (vcs := []) (cells := [.slice none 0 0, .slice none 0 0]) SI35 rfl .nil (by kernel_rfl) (ltn rfl)) rfl ?_
            refine VL.step1 (o_store 0 2 rfl rfl rfl TI35 (.agg (.of rfl)) rfl (len rfl)) rfl ?_
            refine VL.va (op_assign rfl (ltn rfl)) rfl ?_
            refine VL.done ?_
            refine VN.then ?_
            refine VC.ret ?_
            refine VR.block ?_
            refine VR.then ?_
            simp only [Option.some.injEq, Prod.mk.injEq] at h
            obtain ⟨rfl, rfl, rfl⟩ := h
            refine VR.nilFact' 1 ?_
            refine VR.nilRow' 23 5 ?_
            exact VR.fn (rs := [.cell 4 35, .tmp 5]) [.row (.slice none 0 0) 1 (([] : List ByteArray).map enc_str)] [((.slice none 0 0), 23, 5, ([] : List S22).map enc22)] [0] rfl (.cell 0 rfl rfl TI35 (fun h => absurd h (by decide)) (.tmp rfl .nil)) ⟨(.slice none 0 0), (.slice none 0 0), rfl, rfl, rfl⟩ ⟨⟨0, rfl⟩, trivial⟩ rfl (by decide)
          · rw [if_neg c2049] at h
            obtain rfl := Bool.eq_false_iff.2 c2049
            refine VC.cond_f rfl ?_
            refine VC.seq ?_
            refine VC.region ?_
            refine VL.va (op_fieldAddr FI35_1 rfl (add_at _ _ _) (ltn rfl)) rfl ?_
            refine VL.va (op_load 1 1 rfl rfl TI33 rfl (by decide) (ltn rfl)) rfl ?_
            refine VL.va (op_len (m := l0_1.length) 2 lenm Try.underlying33 rfl rfl (ltn rfl)) rfl ?_
            refine VL.letter (((l0_1.length : Int) == 16)) fun b2052 hb2052 => ?_
            refine VL.va (op_cmp rfl rfl (congrArg some hb2052) (ltn rfl)) rfl ?_
            refine VL.va (op_assign rfl (ltn rfl)) rfl ?_
            refine VL.done ?_
            refine VN.then ?_
            by_cases c2053 : (l0_1.length : Int) = 16
            · rw [if_pos c2053] at h
              obtain rfl : b2052 = true := hb2052.symm.trans (beq_iff_eq.2 c2053)
              refine VC.cond_t rfl ?_
              refine VC.seq ?_
              refine VC.region ?_
              refine VL.va (op_build (vals := []) (vcs := []) (cells := [.slice none 0 0, .slice none 0 0]) SI35 rfl .nil (by kernel_rfl) (ltn rfl)) rfl ?_
              refine VL.step1 (o_store 0 2 rfl rfl rfl TI35 (.agg (.of rfl)) rfl (len rfl)) rfl ?_
              refine VL.va (op_assign rfl (ltn rfl)) rfl ?_
              refine VL.done ?_
              refine VN.then ?_
              refine VC.ret ?_
              refine VR.block ?_
              refine VR.then ?_
              simp only [Option.some.injEq, Prod.mk.injEq] at h
              obtain ⟨rfl, rfl, rfl⟩ := h
              refine VR.nilFact' 1 ?_
              refine VR.nilRow' 23 5 ?_
              exact VR.fn (rs := [.cell 4 35, .tmp 5]) [.row (.slice none 0 0) 1 (([] : List ByteArray).map enc_str)] [((.slice none 0 0), 23, 5, ([] : List S22).map enc22)] [0] rfl (.cell 0 rfl rfl TI35 (fun h => absurd h (by decide)) (.tmp rfl .nil)) ⟨(.slice none 0 0), (.slice none 0 0), rfl, rfl, rfl⟩ ⟨⟨0, rfl⟩, trivial⟩ rfl (by decide)
            · rw [if_neg c2053] at h
              obtain rfl : b2052 = false := hb2052.symm.trans (beq_eq_false_iff_ne.2 c2053)
              refine VC.cond_f rfl ?_
              refine VC.skip ?_
              refine VN.block ?_
              refine VN.then ?_
              refine VC.seq ?_
              refine VC.region ?_
              refine VL.va (op_fieldAddr FI35_1 rfl (add_at _ _ _) (ltn rfl)) rfl ?_
              refine VL.va (op_load 1 1 rfl rfl TI33 rfl (by decide) (ltn rfl)) rfl ?_
              refine VL.va (op_load_at (ad := ⟨g1980, 0, none⟩) 0 0 5 (by first | rfl | exact congrArg (fun a => some (Value.pointer (some a))) (add_at _ 0 _).symm) rfl TI23 rfl (fun h => absurd h (by decide)) (ltn rfl)) rfl ?_
              replace h := Option.bind_eq_some_iff.1 h
              obtain ⟨r2056, hA2057, h⟩ := h
              refine VL.sC (o_call0 FO28 (goods_put_Sub.ok k l0_1 a1_0 a1_1 a1_2 a1_3 a1_4 v0_1 r2056 hA2057) rfl rfl (ltn rfl) (All_of (.cons (List.mem_of_getElem? (i := 2) rfl) .nil))) rfl ?_
              rintro v2059 _ _ ⟨_, rfl, rfl, rfl⟩
              refine VL.va (op_fieldAddr FI35_1 rfl (add_at _ _ _) (ltn rfl)) rfl ?_
              refine VL.step1 (o_store 1 1 rfl rfl rfl TI33 (.r 0 rfl) rfl (len rfl)) rfl ?_
              refine VL.done ?_
              refine VN.then ?_
              refine VC.seq ?_
              refine VC.region ?_
              refine VL.va (op_load 1 2 rfl rfl TI35 rfl (fun h => absurd h (by decide)) (ltn rfl)) rfl ?_
              refine VL.step1 (o_store 0 2 rfl rfl rfl TI35 (.agg (.f 1 rfl (.r 0 rfl .nil))) rfl (len rfl)) rfl ?_
              refine VL.va (op_assign rfl (ltn rfl)) rfl ?_
              refine VL.done ?_
              refine VN.then ?_
              refine VC.ret ?_
              simp only [Option.some.injEq, Prod.mk.injEq] at h
              obtain ⟨rfl, rfl, rfl⟩ := h
              exact VR.fn (rs := [.cell 4 35, .tmp 5]) [.row v0_0 1 (l0_0.map enc_str)] [(v2059, 23, 5, r2056.map enc22)] [0] rfl (.cell 0 rfl rfl TI35 (fun h => absurd h (by decide)) (.tmp rfl .nil)) ⟨v0_0, v2059, rfl, rfl, rfl⟩ ⟨⟨1, rfl⟩, trivial⟩ rfl (by decide)
        · rw [if_neg c2046] at h
          obtain rfl := Bool.eq_false_iff.2 c2046
          refine VL.va (op_not rfl rfl (ltn rfl)) rfl ?_
          refine VL.va (op_pick rfl rfl (ltn rfl)) rfl ?_
          refine VL.va (op_assign rfl (ltn rfl)) rfl ?_
          refine VL.done ?_
          refine VN.then ?_
          refine VC.cond_t rfl ?_
          refine VC.seq ?_
          refine VC.region ?_
          refine VL.va (op_build (vals := []) (vcs := []) (cells := [.slice none 0 0, .slice none 0 0]) SI35 rfl .nil (by kernel_rfl) (ltn rfl)) rfl ?_
          refine VL.step1 (o_store 0 2 rfl rfl rfl TI35 (.agg (.of rfl)) rfl (len rfl)) rfl ?_
          refine VL.va (op_assign rfl (ltn rfl)) rfl ?_
          refine VL.done ?_
          refine VN.then ?_
          refine VC.ret ?_
          refine VR.block ?_
          refine VR.then ?_
          simp only [Option.some.injEq, Prod.mk.injEq] at h
          obtain ⟨rfl, rfl, rfl⟩ := h
          refine VR.nilFact' 1 ?_
          refine VR.nilRow' 23 5 ?_
          exact VR.fn (rs := [.cell 4 35, .tmp 5]) [.row (.slice none 0 0) 1 (([] : List ByteArray).map enc_str)] [((.slice none 0 0), 23, 5, ([] : List S22).map enc22)] [0] rfl (.cell 0 rfl rfl TI35 (fun h => absurd h (by decide)) (.tmp rfl .nil)) ⟨(.slice none 0 0), (.slice none 0 0), rfl, rfl, rfl⟩ ⟨⟨0, rfl⟩, trivial⟩ rfl (by decide)
      · rw [if_neg c2043] at h
        obtain rfl := Bool.eq_false_iff.2 c2043
        refine VL.va (op_not rfl rfl (ltn rfl)) rfl ?_
        refine VL.va (op_move rfl (ltn rfl)) rfl ?_
        refine VL.un rfl rfl (ltn rfl) ?_
        refine VL.un rfl rfl (ltn rfl) ?_
        refine VL.un rfl rfl (ltn rfl) ?_
        refine VL.un rfl rfl (ltn rfl) ?_
        refine VL.un rfl rfl (ltn rfl) ?_
        refine VL.un rfl rfl (ltn rfl) ?_
        refine VL.va (op_pick rfl rfl (ltn rfl)) rfl ?_
        refine VL.va (op_assign rfl (ltn rfl)) rfl ?_
        refine VL.done ?_
        refine VN.then ?_
        refine VC.cond_t rfl ?_
        refine VC.seq ?_
        refine VC.region ?_
        refine VL.va (op_build (vals := []) (vcs := []) (cells := [.slice none 0 0, .slice none 0 0]) SI35 rfl .nil (by kernel_rfl) (ltn rfl)) rfl ?_
        refine VL.step1 (o_store 0 2 rfl rfl rfl TI35 (.agg (.of rfl)) rfl (len rfl)) rfl ?_
        refine VL.va (op_assign rfl (ltn rfl)) rfl ?_
        refine VL.done ?_
        refine VN.then ?_
        refine VC.ret ?_
        refine VR.block ?_
        refine VR.then ?_
        simp only [Option.some.injEq, Prod.mk.injEq] at h
        obtain ⟨rfl, rfl, rfl⟩ := h
        refine VR.nilFact' 1 ?_
        refine VR.nilRow' 23 5 ?_
        exact VR.fn (rs := [.cell 4 35, .tmp 5]) [.row (.slice none 0 0) 1 (([] : List ByteArray).map enc_str)] [((.slice none 0 0), 23, 5, ([] : List S22).map enc22)] [0] rfl (.cell 0 rfl rfl TI35 (fun h => absurd h (by decide)) (.tmp rfl .nil)) ⟨(.slice none 0 0), (.slice none 0 0), rfl, rfl, rfl⟩ ⟨⟨0, rfl⟩, trivial⟩ rfl (by decide)
    · rw [if_neg c2034] at h
      obtain rfl := Bool.eq_false_iff.2 c2034
      refine VL.va (op_not rfl rfl (ltn rfl)) rfl ?_
      refine VL.va (op_pick rfl rfl (ltn rfl)) rfl ?_
      refine VL.va (op_assign rfl (ltn rfl)) rfl ?_
      refine VL.done ?_
      refine VN.then ?_
      refine VC.cond_t rfl ?_
      refine VC.seq ?_
      refine VC.region ?_
      refine VL.va (op_build (vals := []) (vcs := []) (cells := [.slice none 0 0, .slice none 0 0]) SI35 rfl .nil (by kernel_rfl) (ltn rfl)) rfl ?_
      refine VL.step1 (o_store 0 2 rfl rfl rfl TI35 (.agg (.of rfl)) rfl (len rfl)) rfl ?_
      refine VL.va (op_assign rfl (ltn rfl)) rfl ?_
      refine VL.done ?_
      refine VN.then ?_
      refine VC.ret ?_
      refine VR.block ?_
      refine VR.then ?_
      simp only [Option.some.injEq, Prod.mk.injEq] at h
      obtain ⟨rfl, rfl, rfl⟩ := h
      refine VR.nilFact' 1 ?_
      refine VR.nilRow' 23 5 ?_
      exact VR.fn (rs := [.cell 4 35, .tmp 5]) [.row (.slice none 0 0) 1 (([] : List ByteArray).map enc_str)] [((.slice none 0 0), 23, 5, ([] : List S22).map enc22)] [0] rfl (.cell 0 rfl rfl TI35 (fun h => absurd h (by decide)) (.tmp rfl .nil)) ⟨(.slice none 0 0), (.slice none 0 0), rfl, rfl, rfl⟩ ⟨⟨0, rfl⟩, trivial⟩ rfl (by decide)
  · rw [if_neg c2031] at h
    obtain rfl := Bool.eq_false_iff.2 c2031
    refine VL.va (op_not rfl rfl (ltn rfl)) rfl ?_
    refine VL.va (op_move rfl (ltn rfl)) rfl ?_
    refine VL.un rfl rfl (ltn rfl) ?_
    refine VL.un rfl rfl (ltn rfl) ?_
    refine VL.un rfl rfl (ltn rfl) ?_
    refine VL.va (op_pick rfl rfl (ltn rfl)) rfl ?_
    refine VL.va (op_assign rfl (ltn rfl)) rfl ?_
    refine VL.done ?_
    refine VN.then ?_
    refine VC.cond_t rfl ?_
    refine VC.seq ?_
    refine VC.region ?_
    refine VL.va (op_build (vals := []) (vcs := []) (cells := [.slice none 0 0, .slice none 0 0]) SI35 rfl .nil (by kernel_rfl) (ltn rfl)) rfl ?_
    refine VL.step1 (o_store 0 2 rfl rfl rfl TI35 (.agg (.of rfl)) rfl (len rfl)) rfl ?_
    refine VL.va (op_assign rfl (ltn rfl)) rfl ?_
    refine VL.done ?_
    refine VN.then ?_
    refine VC.ret ?_
    refine VR.block ?_
    refine VR.then ?_
    simp only [Option.some.injEq, Prod.mk.injEq] at h
    obtain ⟨rfl, rfl, rfl⟩ := h
    refine VR.nilFact' 1 ?_
    refine VR.nilRow' 23 5 ?_
    exact VR.fn (rs := [.cell 4 35, .tmp 5]) [.row (.slice none 0 0) 1 (([] : List ByteArray).map enc_str)] [((.slice none 0 0), 23, 5, ([] : List S22).map enc22)] [0] rfl (.cell 0 rfl rfl TI35 (fun h => absurd h (by decide)) (.tmp rfl .nil)) ⟨(.slice none 0 0), (.slice none 0 0), rfl, rfl, rfl⟩ ⟨⟨0, rfl⟩, trivial⟩ rfl (by decide)
set_option maxHeartbeats 4000000 in
set_option maxRecDepth 100000 in
theorem goods_Units.ok (k : Nat) (a0_0 : ByteArray) (a0_1 : ByteArray) (a0_2 : Int) (a0_3 : Int) (a0_4 : Int) (a1 : Int)  (r1 : Int) (r2 : Int) (h : goods_Units.f k a0_0 a0_1 a0_2 a0_3 a0_4 a1 = some (r1, r2)) :
    VCalls Try.prog 7 [.agg #[.string a0_0, .string a0_1, .int .i64 a0_2, .int .i64 a0_3, .int .i64 a0_4], .int .i64 a1] [] (fun v G own => v = .tuple #[.int .i64 r1, .int .i64 r2] ∧ G = [] ∧ own = []) := by
  refine VCalls.intro Try.func7 rfl (len rfl) fun E hC => ?_
  unfold goods_Units.f at h
  refine VC.seq ?_
  refine VC.region ?_
  refine VL.sG (o_box rfl (.agg (.of rfl)) (ltn rfl)) rfl ?_
  intro g2079
  refine VL.va (op_assign rfl (ltn rfl)) rfl ?_
  refine VL.va (op_assign rfl (ltn rfl)) rfl ?_
  refine VL.done ?_
  refine VN.then ?_
  refine VC.seq ?_
  refine VC.seq ?_
  refine VC.region ?_
  refine VL.va (op_load 0 5 rfl rfl TI23 rfl (fun h => absurd h (by decide)) (ltn rfl)) rfl ?_
  replace h := Option.bind_eq_some_iff.1 h
  obtain ⟨t2098, hA2099, h⟩ := h
  refine VL.sC (o_call0 FO23 (goods_may.ok k a0_0 a0_1 a0_2 a0_3 a0_4 t2098 hA2099) rfl rfl (ltn rfl) (All_of .nil)) rfl ?_
  rintro _ _ _ ⟨rfl, rfl, rfl⟩
  by_cases c2100 : t2098 = true
  · rw [if_pos c2100] at h
    obtain rfl := c2100
    refine VL.va (op_not rfl rfl (ltn rfl)) rfl ?_
    refine VL.va (op_move rfl (ltn rfl)) rfl ?_
    refine VL.va (op_move rfl (ltn rfl)) rfl ?_
    replace h := Option.bind_eq_some_iff.1 h
    obtain ⟨t2101, hA2102, h⟩ := h
    refine VL.sC (o_call0 FO24 (goods_in.ok a1 1073741824 t2101 hA2102) rfl rfl (ltn rfl) (All_of .nil)) rfl ?_
    rintro _ _ _ ⟨rfl, rfl, rfl⟩
    by_cases c2103 : t2101 = true
    · rw [if_pos c2103] at h
      obtain rfl := c2103
      refine VL.va (op_not rfl rfl (ltn rfl)) rfl ?_
      refine VL.va (op_pick rfl rfl (ltn rfl)) rfl ?_
      refine VL.done ?_
      refine VN.then ?_
      refine VC.cond_f rfl ?_
      refine VC.skip ?_
      refine VN.then ?_
      refine VC.seq ?_
      refine VC.region ?_
      refine VL.va (op_move rfl (ltn rfl)) rfl ?_
      refine VL.va (op_fieldAddr FI23_3 rfl (add_at _ _ _) (ltn rfl)) rfl ?_
      refine VL.va (op_load 0 1 rfl rfl TI3 rfl (by decide) (ltn rfl)) rfl ?_
      refine VL.va (op_ari64 rfl rfl rfl (ltn rfl)) rfl ?_
      refine VL.va (op_fieldAddr FI23_4 rfl (add_at _ _ _) (ltn rfl)) rfl ?_
      refine VL.va (op_load 0 1 rfl rfl TI3 rfl (by decide) (ltn rfl)) rfl ?_
      refine VL.va (op_ari64 rfl rfl rfl (ltn rfl)) rfl ?_
      refine VL.va (op_ari64 rfl rfl rfl (ltn rfl)) rfl ?_
      refine VL.va (op_fieldAddr FI23_4 rfl (add_at _ _ _) (ltn rfl)) rfl ?_
      refine VL.va (op_load 0 1 rfl rfl TI3 rfl (by decide) (ltn rfl)) rfl ?_
      by_cases c2104 : a0_4 ≠ 0
      · rw [if_pos c2104] at h
        refine VL.va (op_quo rfl rfl c2104 rfl (ltn rfl)) rfl ?_
        refine VL.va (op_assign rfl (ltn rfl)) rfl ?_
        refine VL.done ?_
        refine VN.then ?_
        refine VC.seq ?_
        refine VC.seq ?_
        refine VC.region ?_
        refine VL.va (op_move rfl (ltn rfl)) rfl ?_
        refine VL.letter (decide ((IntKind.i64.wrap ((wrap64 ((wrap64 ((wrap64 (a1 * a0_3)) + a0_4)) - 1)).tdiv a0_4)) > 1073741824)) fun b2107 hb2107 => ?_
        refine VL.va (op_cmp rfl rfl (congrArg some hb2107) (ltn rfl)) rfl ?_
        refine VL.done ?_
        refine VN.then ?_
        by_cases c2108 : (IntKind.i64.wrap ((wrap64 ((wrap64 ((wrap64 (a1 * a0_3)) + a0_4)) - 1)).tdiv a0_4)) > 1073741824
        · rw [if_pos c2108] at h
          obtain rfl : b2107 = true := hb2107.symm.trans (decide_eq_true c2108)
          refine VC.cond_t rfl ?_
          refine VC.seq ?_
          refine VC.region ?_
          refine VL.va (op_assign rfl (ltn rfl)) rfl ?_
          refine VL.va (op_assign rfl (ltn rfl)) rfl ?_
          refine VL.done ?_
          refine VN.then ?_
          refine VC.ret ?_
          refine VR.then ?_
          simp only [Option.some.injEq, Prod.mk.injEq] at h
          obtain ⟨rfl, rfl⟩ := h
          exact VR.fn (rs := [.tmp 4, .tmp 5]) [] [] [] rfl (.tmp rfl (.tmp rfl .nil)) ⟨rfl, rfl, rfl⟩ trivial rfl (by decide)
        · rw [if_neg c2108] at h
          obtain rfl : b2107 = false := hb2107.symm.trans (decide_eq_false c2108)
          refine VC.cond_f rfl ?_
          refine VC.skip ?_
          refine VN.then ?_
          refine VC.seq ?_
          refine VC.region ?_
          refine VL.va (op_move rfl (ltn rfl)) rfl ?_
          refine VL.va (op_assign rfl (ltn rfl)) rfl ?_
          refine VL.va (op_assign rfl (ltn rfl)) rfl ?_
          refine VL.done ?_
          refine VN.then ?_
          refine VC.ret ?_
          simp only [Option.some.injEq, Prod.mk.injEq] at h
          obtain ⟨rfl, rfl⟩ := h
          exact VR.fn (rs := [.tmp 4, .tmp 5]) [] [] [] rfl (.tmp rfl (.tmp rfl .nil)) ⟨rfl, rfl, rfl⟩ trivial rfl (by decide)
      · rw [if_neg c2104] at h; cases h
    · rw [if_neg c2103] at h
      obtain rfl := Bool.eq_false_iff.2 c2103
      refine VL.va (op_not rfl rfl (ltn rfl)) rfl ?_
      refine VL.va (op_pick rfl rfl (ltn rfl)) rfl ?_
      refine VL.done ?_
      refine VN.then ?_
      refine VC.cond_t rfl ?_
      refine VC.seq ?_
      refine VC.region ?_
      refine VL.va (op_assign rfl (ltn rfl)) rfl ?_
      refine VL.va (op_assign rfl (ltn rfl)) rfl ?_
      refine VL.done ?_
      refine VN.then ?_
      refine VC.ret ?_
      refine VR.then ?_
      simp only [Option.some.injEq, Prod.mk.injEq] at h
      obtain ⟨rfl, rfl⟩ := h
      exact VR.fn (rs := [.tmp 4, .tmp 5]) [] [] [] rfl (.tmp rfl (.tmp rfl .nil)) ⟨rfl, rfl, rfl⟩ trivial rfl (by decide)
  · rw [if_neg c2100] at h
    obtain rfl := Bool.eq_false_iff.2 c2100
    refine VL.va (op_not rfl rfl (ltn rfl)) rfl ?_
    refine VL.va (op_move rfl (ltn rfl)) rfl ?_
    refine VL.un rfl rfl (ltn rfl) ?_
    refine VL.un rfl rfl (ltn rfl) ?_
    refine VL.un rfl rfl (ltn rfl) ?_
    refine VL.va (op_pick rfl rfl (ltn rfl)) rfl ?_
    refine VL.done ?_
    refine VN.then ?_
    refine VC.cond_t rfl ?_
    refine VC.seq ?_
    refine VC.region ?_
    refine VL.va (op_assign rfl (ltn rfl)) rfl ?_
    refine VL.va (op_assign rfl (ltn rfl)) rfl ?_
    refine VL.done ?_
    refine VN.then ?_
    refine VC.ret ?_
    refine VR.then ?_
    simp only [Option.some.injEq, Prod.mk.injEq] at h
    obtain ⟨rfl, rfl⟩ := h
    exact VR.fn (rs := [.tmp 4, .tmp 5]) [] [] [] rfl (.tmp rfl (.tmp rfl .nil)) ⟨rfl, rfl, rfl⟩ trivial rfl (by decide)
set_option maxHeartbeats 4000000 in
set_option maxRecDepth 100000 in
theorem tarrylaw07_alive.ok (k : Nat)   (r1 : Bool) (h : tarrylaw07_alive.f k = some r1) :
    VCalls Try.prog 9 [] [] (fun v G own => v = .bool r1 ∧ G = [] ∧ own = []) := by
  refine VCalls.intro Try.func9 rfl (len rfl) fun E hC => ?_
  unfold tarrylaw07_alive.f at h
  refine VC.seq ?_
  refine VC.region ?_
  refine VL.va (op_assign rfl (ltn rfl)) rfl ?_
  refine VL.done ?_
  refine VN.then ?_
  refine VC.seq ?_
  refine VC.region ?_
  refine VL.va (op_build (vals := [(0, .string (⟨#[97]⟩ : ByteArray)), (1, .string (⟨#[98]⟩ : ByteArray)), (2, .int .i64 1), (3, .int .i64 3), (4, .int .i64 2)]) (vcs := [(0, [.string (⟨#[97]⟩ : ByteArray)]), (1, [.string (⟨#[98]⟩ : ByteArray)]), (2, [.int .i64 1]), (3, [.int .i64 3]), (4, [.int .i64 2])]) (cells := [.string (⟨#[97]⟩ : ByteArray), .string (⟨#[98]⟩ : ByteArray), .int .i64 1, .int .i64 3, .int .i64 2]) SI23 rfl (.cons ⟨rfl, (.c rfl)⟩ (.cons ⟨rfl, (.c rfl)⟩ (.cons ⟨rfl, (.c rfl)⟩ (.cons ⟨rfl, (.c rfl)⟩ (.cons ⟨rfl, (.c rfl)⟩ .nil))))) (by kernel_rfl) (ltn rfl)) rfl ?_
  replace h := Option.bind_eq_some_iff.1 h
  obtain ⟨⟨t2109, t2110⟩, hA2111, h⟩ := h
  dsimp only at h
  refine VL.sC (o_call0 FO7 (goods_Units.ok k (⟨#[97]⟩ : ByteArray) (⟨#[98]⟩ : ByteArray) 1 3 2 5 t2109 t2110 hA2111) rfl rfl (ltn rfl) (All_of .nil)) rfl ?_
  rintro _ _ _ ⟨rfl, rfl, rfl⟩
  refine VL.va (op_move rfl (ltn rfl)) rfl ?_
  refine VL.va (op_extract rfl rfl (ltn rfl)) rfl ?_
  refine VL.va (op_extract rfl rfl (ltn rfl)) rfl ?_
  refine VL.va (op_assign rfl (ltn rfl)) rfl ?_
  refine VL.va (op_assign rfl (ltn rfl)) rfl ?_
  refine VL.done ?_
  refine VN.then ?_
  refine VC.seq ?_
  refine VC.region ?_
  refine VL.va (op_move rfl (ltn rfl)) rfl ?_
  refine VL.letter ((t2110 == 0)) fun b2115 hb2115 => ?_
  refine VL.va (op_cmp rfl rfl (congrArg some hb2115) (ltn rfl)) rfl ?_
  refine VL.va (op_move rfl (ltn rfl)) rfl ?_
  by_cases c2116 : t2110 = 0
  · rw [if_pos c2116] at h
    obtain rfl : b2115 = true := hb2115.symm.trans (beq_iff_eq.2 c2116)
    refine VL.va (op_move rfl (ltn rfl)) rfl ?_
    refine VL.letter ((t2109 == 8)) fun b2117 hb2117 => ?_
    refine VL.va (op_cmp rfl rfl (congrArg some hb2117) (ltn rfl)) rfl ?_
    refine VL.va (op_pick rfl rfl (ltn rfl)) rfl ?_
    refine VL.va (op_assign rfl (ltn rfl)) rfl ?_
    refine VL.done ?_
    refine VN.then ?_
    refine VC.ret ?_
    obtain rfl := Option.some.inj h
    subst hb2117
    exact VR.fn (rs := [.tmp 0]) [] [] [] rfl (.tmp rfl .nil) ⟨rfl, rfl, rfl⟩ trivial rfl (by decide)
  · rw [if_neg c2116] at h
    obtain rfl : b2115 = false := hb2115.symm.trans (beq_eq_false_iff_ne.2 c2116)
    refine VL.un rfl rfl (ltn rfl) ?_
    refine VL.un rfl rfl (ltn rfl) ?_
    refine VL.va (op_pick rfl rfl (ltn rfl)) rfl ?_
    refine VL.va (op_assign rfl (ltn rfl)) rfl ?_
    refine VL.done ?_
    refine VN.then ?_
    refine VC.ret ?_
    obtain rfl := Option.some.inj h
    exact VR.fn (rs := [.tmp 0]) [] [] [] rfl (.tmp rfl .nil) ⟨rfl, rfl, rfl⟩ trivial rfl (by decide)
set_option maxHeartbeats 4000000 in
set_option maxRecDepth 100000 in
theorem goods_For_1.ok (a0_0 : ByteArray) (a0_1 : ByteArray) (a0_2 : Int) (a0_3 : Int) (a0_4 : Int) (a1_0 : ByteArray) (p1 : Nat) (r1 : Bool) (h : goods_For_1.f a0_0 a0_1 a0_2 a0_3 a0_4 a1_0 = some r1) :
    VCalls Try.prog 32 [.agg #[.string a0_0, .string a0_1, .int .i64 a0_2, .int .i64 a0_3, .int .i64 a0_4], .pointer (some ⟨p1, 0, none⟩)] [.at_ ⟨p1, 0, none⟩ [.string a1_0]] (fun v G own => v = .bool r1 ∧ G = [] ∧ own = []) := by
  refine VCalls.intro Try.func32 rfl (len rfl) fun E hC => ?_
  unfold goods_For_1.f at h
  refine VC.seq ?_
  refine VC.region ?_
  refine VL.sG (o_box rfl (.agg (.of rfl)) (ltn rfl)) rfl ?_
  intro g2163
  refine VL.va (op_assign rfl (ltn rfl)) rfl ?_
  refine VL.done ?_
  refine VN.then ?_
  refine VC.seq ?_
  refine VC.region ?_
  refine VL.va (op_fieldAddr FI23_0 rfl (add_at _ _ _) (ltn rfl)) rfl ?_
  refine VL.va (op_load 0 1 rfl rfl TI9 rfl (by decide) (ltn rfl)) rfl ?_
  refine VL.va (op_load_at (ad := ⟨p1, 0, none⟩) 0 0 1 (by first | rfl | exact congrArg (fun a => some (Value.pointer (some a))) (add_at _ 0 _).symm) rfl TI9 rfl (by decide) (ltn rfl)) rfl ?_
  refine VL.letter ((a0_0 != a1_0)) fun b2164 hb2164 => ?_
  refine VL.va (op_cmps rfl rfl (congrArg some hb2164) (ltn rfl)) rfl ?_
  refine VL.va (op_assign rfl (ltn rfl)) rfl ?_
  refine VL.done ?_
  refine VN.then ?_
  refine VC.ret ?_
  obtain rfl := Option.some.inj h
  subst hb2164
  exact VR.fn (rs := [.tmp 3]) [] [] [] rfl (.tmp rfl .nil) ⟨rfl, rfl, rfl⟩ trivial rfl (by decide)

end Go.Proofs.Ytoiihpmncphplaa.PGoodsStay
