/- Written by a program of this repo: what the program's functions do, each as a Lean function, shown of the loaded code; or a statement's row over that; no condition of its own. -/
import Derived.Test.YtibpoajlnloloaaPStockApartx3
namespace Go.Proofs.Ytibpoajlnloloaa.PStockApart
open Go Go.RowKit Go.Proofs.YtibpoajlnloloaaV
set_option linter.unusedVariables false
set_option linter.unusedSimpArgs false

set_option maxHeartbeats 4000000 in
set_option maxRecDepth 100000 in
theorem slices_Insert_api_Row_api_Row.ok (l0 : List S32) (a1 : Int) (l2 : List S32) (v0 v2 : Value) (r1 : List S32) (h : slices_Insert_api_Row_api_Row.f l0 a1 l2 = some r1) :
    VOwn Try.prog 26 [v0, .int .i64 a1, v2] (v0, 33, 6, l0.map enc32) [.row v2 6 (l2.map enc32), .lent v2 33 6 (l2.map enc32)] (fun q x' => x' = (q, 33, 6, r1.map enc32)) := by
  unfold slices_Insert_api_Row_api_Row.f at h
  by_cases hc : ¬ (0 ≤ a1 ∧ a1 ≤ (l0.length : Int) ∧ (l0.length + l2.length) * 56 ≤ 140737488355328)
  · rw [if_neg hc] at h; cases h
  replace hc := Decidable.not_not.1 hc
  rw [if_pos hc] at h
  obtain rfl := Option.some.inj h
  obtain ⟨h0, hle, hbig⟩ := hc
  clear h
  obtain ⟨i, rfl⟩ : ∃ i : Nat, a1 = (i : Int) := ⟨a1.toNat, by omega⟩
  have hi : i ≤ l0.length := by omega
  have hsm : l0.length + l2.length ≤ 140737488355328 := by omega
  simp only [Int.toNat_natCast]
  refine VOwn.intro Try.func26 rfl (len rfl) fun E fr => ?_
  refine VC.formR 0 rfl fun A cap hv hcap => ?_
  rw [lenm] at hv hcap
  subst hv
  refine VC.seq (VC.region ?_)
  refine VL.va (op_assign rfl (ltn rfl)) rfl ?_
  refine VL.done (VN.then ?_)
  refine VC.seq (VC.region ?_)
  refine VL.va (op_move rfl (ltn rfl)) rfl ?_
  refine VL.va (op_move rfl (ltn rfl)) rfl ?_
  refine VL.va (op_cutV (l := i) (h := l0.length) Try.underlying23 TI33 rfl ⟨⟨_, _, rfl, h0, Int.toNat_natCast i⟩, rfl, hi, Nat.le_refl _⟩ hcap (ltn rfl)) rfl ?_
  refine VL.done (VN.then ?_)
  refine VC.seq (VC.region ?_)
  refine VL.va (op_move rfl (ltn rfl)) rfl ?_
  refine VL.va (op_len (m := l2.length) 0 lenm Try.underlying23 rfl rfl (ltn rfl)) rfl ?_
  refine VL.va (op_assign rfl (ltn rfl)) rfl ?_
  refine VL.done (VN.then ?_)
  refine VC.seq ?_
  refine VC.seq (VC.region ?_)
  refine VL.va (op_move rfl (ltn rfl)) rfl ?_
  refine VL.letter ((l2.length : Int) == 0) fun b3 hb3 => ?_
  refine VL.va (op_cmp rfl rfl (congrArg some hb3) (ltn rfl)) rfl ?_
  refine VL.done (VN.then ?_)
  by_cases c3 : l2.length = 0
  · have : b3 = true := by rw [← hb3]; simpa using c3
    subst this
    clear hb3
    refine VC.cond_t rfl ?_
    refine VC.seq (VC.region ?_)
    refine VL.va (op_move rfl (ltn rfl)) rfl ?_
    refine VL.va (op_assign rfl (ltn rfl)) rfl ?_
    refine VL.done (VN.then ?_)
    refine VC.ret (VR.then ?_)
    have e2 : l2 = [] := List.eq_nil_of_length_eq_zero c3
    refine VR.own (rs := [.tmp 6]) 0 [.row v2 6 (l2.map enc32), .lent v2 33 6 (l2.map enc32)] rfl (.tmp rfl .nil) rfl ?_ rfl id
    rw [e2, List.append_nil, List.take_append_drop]
    rfl
  have : b3 = false := by rw [← hb3]; simpa using c3
  subst this
  clear hb3
  refine VC.cond_f rfl (VC.skip (VN.then ?_))
  refine VC.openLent 1 rfl (by rw [lenm]; omega) ?_
  rintro vb c2 rfl
  rw [lenm]
  refine VC.seq (VC.region ?_)
  refine VL.va (op_move rfl (ltn rfl)) rfl ?_
  refine VL.va (op_lenV Try.underlying23 rfl (ltn rfl)) rfl ?_
  refine VL.va (op_assign rfl (ltn rfl)) rfl ?_
  refine VL.done (VN.then ?_)
  refine VC.seq ?_
  refine VC.seq (VC.region ?_)
  refine VL.va (op_move rfl (ltn rfl)) rfl ?_
  refine VL.va (op_move rfl (ltn rfl)) rfl ?_
  refine VL.letter ((i : Int) == (l0.length : Int)) fun b6 hb6 => ?_
  refine VL.va (op_cmp rfl rfl (congrArg some hb6) (ltn rfl)) rfl ?_
  refine VL.done (VN.then ?_)
  by_cases c6 : i = l0.length
  · have : b6 = true := by rw [← hb6]; simp [c6]
    subst this
    clear hb6
    refine VC.cond_t rfl ?_
    refine VC.seq (VC.region ?_)
    refine VL.va (op_move rfl (ltn rfl)) rfl ?_
    refine VL.va (op_move rfl (ltn rfl)) rfl ?_
    refine VL.sG (o_append 0 appm Try.underlying23 EI33 rfl rfl rfl (.inl ⟨0, rfl⟩) (bndm hbig) (ltn rfl)) rfl ?_
    intro v7
    refine VL.va (op_assign rfl (ltn rfl)) rfl ?_
    refine VL.done (VN.then ?_)
    refine VC.ret (VR.then ?_)
    refine VR.someR 0 rfl (by rw [lenm, List.length_append]; omega) fun hs7 => ?_
    refine VR.own (rs := [.tmp 6]) 0 [.row (.slice (some ⟨vb, 0, none⟩) l2.length c2) 6 (l2.map enc32), .lent (.slice (some ⟨vb, 0, none⟩) l2.length c2) 33 6 (l2.map enc32)] rfl (.tmp rfl .nil) rfl ?_ rfl (fun _ => hs7)
    rw [c6, List.take_length, List.drop_length, List.append_nil]
    rfl
  have : b6 = false := by rw [← hb6]; simpa using fun e => c6 (by omega)
  subst this
  clear hb6
  have hin : i < l0.length := by omega
  refine VC.cond_f rfl (VC.skip (VN.then ?_))
  refine VC.openBox 0 rfl (by rw [lenm]; omega) fun g cap' cur hv hcap' hmx hlen htake hfl => ?_
  rw [lenm] at hv hcap' htake
  obtain ⟨rfl, -, rfl⟩ := Value.slice.inj hv
  clear hv hcap'
  refine VC.lentNe 0 1 rfl rfl fun hne => ?_
  have hflv : flatOk 6 (l2.map enc32) := flat_map enc32_ok l2
  have hvl : (l2.map enc32).flatten.length = l2.length * 6 := by rw [flat_len hflv, lenm]
  have hd : ((cur.drop (i * 6)).take ((l0.length - i) * 6)).length = (l0.length - i) * 6 := by rw [List.length_take, List.length_drop, hlen]; omega
  have h1c : ∀ u ∈ (cur.drop (i * 6)).take ((l0.length - i) * 6), u.oneCell' = true := by
    intro u hu
    have e : (cur.drop (i * 6)).take ((l0.length - i) * 6) = (cur.take (l0.length * 6)).drop (i * 6) := by
      rw [List.drop_take]
      congr 1
      omega
    rw [e, htake] at hu
    exact flat_one hfl u (List.mem_of_mem_drop hu)
  have hfin : ((l0.take i ++ l2 ++ l0.drop i).map enc32).flatten = (cur.take (l0.length * 6)).take (i * 6) ++ (l2.map enc32).flatten ++ (cur.take (l0.length * 6)).drop (i * 6) := by
    rw [htake, List.map_append, List.map_append, List.flatten_append, List.flatten_append, List.map_take, List.map_drop, flat_take i hfl, flat_drop i hfl]
  have hfll : (l0.take i ++ l2 ++ l0.drop i).length = l0.length + l2.length := by simp only [List.length_append, List.length_take, List.length_drop]; omega
  refine VC.seq ?_
  refine VC.seq (VC.region ?_)
  refine VL.va (op_move rfl (ltn rfl)) rfl ?_
  refine VL.va (op_move rfl (ltn rfl)) rfl ?_
  refine VL.va (op_ari64 (q := ((l0.length + l2.length : Nat) : Int)) rfl rfl (congrArg some (w64 (by omega) (by omega))) (ltn rfl)) rfl ?_
  refine VL.va (op_move rfl (ltn rfl)) rfl ?_
  refine VL.va (op_cap Try.underlying23 rfl (ltn rfl)) rfl ?_
  refine VL.letter (decide (((l0.length + l2.length : Nat) : Int) > (cap : Int))) fun b8 hb8 => ?_
  refine VL.va (op_cmp rfl rfl (congrArg some hb8) (ltn rfl)) rfl ?_
  refine VL.done (VN.then ?_)
  by_cases c8 : cap < l0.length + l2.length
  · have : b8 = true := by rw [← hb8]; simp; omega
    subst this
    clear hb8
    refine VC.cond_t rfl ?_
    refine VC.seq (VC.region ?_)
    refine VL.va (op_move rfl (ltn rfl)) rfl ?_
    refine VL.va (op_move rfl (ltn rfl)) rfl ?_
    refine VL.va (op_cutH' 0 i (v := .slice (some ⟨g, 0, none⟩) i cap) (by rw [cutV_at0 (.inr rfl)]; simp) Try.underlying23 TI33 rfl ⟨rfl, ⟨_, _, rfl, h0, Int.toNat_natCast i⟩, Nat.zero_le _, by omega⟩ (ltn rfl)) rfl ?_
    refine VL.va (op_move rfl (ltn rfl)) rfl ?_
    refine VL.va (op_move rfl (ltn rfl)) rfl ?_
    refine VL.va (op_ari64 (q := ((l0.length + l2.length : Nat) : Int)) rfl rfl (congrArg some (w64 (by omega) (by omega))) (ltn rfl)) rfl ?_
    refine VL.va (op_move rfl (ltn rfl)) rfl ?_
    refine VL.va (op_ari64 (q := ((l0.length + l2.length - i : Nat) : Int)) rfl rfl (congrArg some (w64 (by omega) (by omega))) (ltn rfl)) rfl ?_
    refine o_appendZ 0 Try.underlying23 Try.underlying3 EI33 rfl rfl rfl (olds := cur.take (i * 6)) (by rw [List.drop_zero]) (by rw [List.length_take, hlen]; omega) (by omega) (by omega) (by omega) (by rw [show i + (l0.length + l2.length - i) = l0.length + l2.length by omega]; exact hbig) (ltn rfl) rfl fun g2 cap2 tail hc2 hm2 ht2 => ?_
    rw [show i + (l0.length + l2.length - i) = l0.length + l2.length by omega] at hc2 ⊢
    refine VL.va (op_assign rfl (ltn rfl)) rfl ?_
    refine VL.done (VN.then ?_)
    refine VC.seq (VC.region ?_)
    refine VL.va (op_move rfl (ltn rfl)) rfl ?_
    refine VL.va (op_move rfl (ltn rfl)) rfl ?_
    refine VL.va (op_cutV' i (l0.length + l2.length) (cutV_at0 (by omega)) Try.underlying23 TI33 rfl ⟨⟨_, _, rfl, h0, Int.toNat_natCast i⟩, rfl, by omega, Nat.le_refl _⟩ hc2 (ltn rfl)) rfl ?_
    refine VL.va (op_move rfl (ltn rfl)) rfl ?_
    have hol : (cur.take (i * 6) ++ tail).length = cap2 * 6 := by rw [List.length_append, List.length_take, hlen, ht2]; omega
    have hol2 : (upd (cur.take (i * 6) ++ tail) (i * 6) (l2.map enc32).flatten).length = cap2 * 6 := by rw [upd_len, hol]; rw [hvl, hol]; omega
    refine VL.step1 (o_copy (m := l2.length) 0 Try.underlying23 TI33 rfl rfl rfl (by omega) hvl (by rw [hvl, hol]; omega) (src_row 0 rfl) (flat_one hflv) rfl (ltn rfl)) rfl ?_
    refine VL.done (VN.then ?_)
    refine VC.seq ?_
    refine VC.draw ⟨0, [], [], [], []⟩ (by kernel_rfl) rfl (by kernel_rfl) (n := 9) (listed := LB 9 0) ?_
    refine VA.va (i := 0) (listed' := LB 9 1) rfl (op_move rfl (ltn rfl)) rfl (by kernel_rfl) (by kernel_rfl) (by kernel_rfl) (by kernel_rfl) ⟨trivial, trivial, trivial⟩ (fun _ _ _ h => h) ?_
    refine VA.va (i := 1) (listed' := LB 9 3) rfl (op_move rfl (ltn rfl)) rfl (by kernel_rfl) (by kernel_rfl) (by kernel_rfl) (by kernel_rfl) ⟨trivial, trivial, trivial⟩ (fun _ _ _ h => h) ?_
    refine VA.va (i := 2) (listed' := LB 9 7) rfl (op_move rfl (ltn rfl)) rfl (by kernel_rfl) (by kernel_rfl) (by kernel_rfl) (by kernel_rfl) ⟨trivial, trivial, trivial⟩ (fun _ _ _ h => h) ?_
    refine VA.va (i := 3) (listed' := LB 9 15) rfl (op_ari64 (q := ((i + l2.length : Nat) : Int)) rfl rfl (congrArg some (w64 (by omega) (by omega))) (ltn rfl)) rfl (by kernel_rfl) (by kernel_rfl) (by kernel_rfl) (by kernel_rfl) ⟨trivial, trivial, trivial⟩ (fun _ _ _ h => h) ?_
    refine VA.va (i := 4) (listed' := LB 9 31) rfl (op_cutV' (i + l2.length) (l0.length + l2.length) (cutV_at0 (by omega)) Try.underlying23 TI33 rfl ⟨⟨_, _, rfl, by omega, Int.toNat_natCast _⟩, rfl, by omega, Nat.le_refl _⟩ hc2 (ltn rfl)) rfl (by kernel_rfl) (by kernel_rfl) (by kernel_rfl) (by kernel_rfl) ⟨trivial, trivial, trivial⟩ (fun _ _ _ h => h) ?_
    refine VA.va (i := 5) (listed' := LB 9 63) rfl (op_move rfl (ltn rfl)) rfl (by kernel_rfl) (by kernel_rfl) (by kernel_rfl) (by kernel_rfl) ⟨trivial, trivial, trivial⟩ (fun _ _ _ h => h) ?_
    refine VA.va (i := 6) (listed' := LB 9 127) rfl (op_move rfl (ltn rfl)) rfl (by kernel_rfl) (by kernel_rfl) (by kernel_rfl) (by kernel_rfl) ⟨trivial, trivial, trivial⟩ (fun _ _ _ h => h) ?_
    refine VA.va (i := 7) (listed' := LB 9 255) rfl (op_cutV' i l0.length (cutV_at0 (by omega)) Try.underlying23 TI33 rfl ⟨⟨_, _, rfl, by omega, Int.toNat_natCast _⟩, rfl, by omega, Nat.le_refl _⟩ hcap (ltn rfl)) rfl (by kernel_rfl) (by kernel_rfl) (by kernel_rfl) (by kernel_rfl) ⟨trivial, trivial, trivial⟩ (fun _ _ _ h => h) ?_
    refine VA.one1 (i := 8) (listed' := LB 9 511) (by kernel_rfl) rfl (o_copy (m := l0.length - i) (cs := (cur.drop (i * 6)).take ((l0.length - i) * 6)) 0 Try.underlying23 TI33 rfl rfl rfl (by omega) hd (by rw [hd, hol2]; omega) (src_box ((l0.length - i) * 6) 1 rfl rfl) h1c rfl (ltn rfl)) rfl (by kernel_rfl) ⟨trivial, trivial, trivial⟩ ?_
    refine VA.done (by kernel_rfl) (VN.then ?_)
    refine VC.seq (VC.region ?_)
    refine VL.va (op_move rfl (ltn rfl)) rfl ?_
    refine VL.va (op_assign rfl (ltn rfl)) rfl ?_
    refine VL.done (VN.then ?_)
    refine VC.ret (VR.then ?_)
    refine VR.closeBox 0 cap2 6 ((l0.take i ++ l2 ++ l0.drop i).map enc32) rfl (by rw [lenm, hfll]; exact hc2) hm2 (by rw [upd_len, hol2]; rw [hd, hol2]; omega) ?_ (flat_map enc32_ok _) ?_
    · rw [lenm, hfll, hfin, Nat.add_mul, Nat.add_mul]
      exact ins_grow (by rw [hlen]; omega) (by omega) hvl (by rw [← Nat.sub_mul])
    rw [lenm, hfll]
    exact VR.own (rs := [.tmp 6]) 0 [.row (.slice (some ⟨vb, 0, none⟩) l2.length c2) 6 (l2.map enc32), .lent (.slice (some ⟨vb, 0, none⟩) l2.length c2) 33 6 (l2.map enc32)] rfl (.tmp rfl .nil) rfl rfl rfl (fun _ => rfl)
  have : b8 = false := by rw [← hb8]; simp; omega
  subst this
  clear hb8
  refine VC.cond_f rfl (VC.skip (VN.then ?_))
  refine VC.seq (VC.region ?_)
  refine VL.va (op_move rfl (ltn rfl)) rfl ?_
  refine VL.va (op_move rfl (ltn rfl)) rfl ?_
  refine VL.va (op_move rfl (ltn rfl)) rfl ?_
  refine VL.va (op_ari64 (q := ((l0.length + l2.length : Nat) : Int)) rfl rfl (congrArg some (w64 (by omega) (by omega))) (ltn rfl)) rfl ?_
  refine VL.va (op_cutH' 0 (l0.length + l2.length) (v := .slice (some ⟨g, 0, none⟩) (l0.length + l2.length) cap) (by rw [cutV_at0 (.inr rfl)]; simp) Try.underlying23 TI33 rfl ⟨rfl, ⟨_, _, rfl, by omega, Int.toNat_natCast _⟩, Nat.zero_le _, by omega⟩ (ltn rfl)) rfl ?_
  refine VL.va (op_assign rfl (ltn rfl)) rfl ?_
  refine VL.done (VN.then ?_)
  have hcur1 : (upd cur ((i + l2.length) * 6) ((cur.drop (i * 6)).take ((l0.length - i) * 6))).length = cap * 6 := by rw [upd_len, hlen]; rw [hd, hlen]; omega
  refine VC.seq ?_
  refine VC.seq ?_
  refine VC.region ?_
  refine VL.va (op_move rfl (ltn rfl)) rfl ?_
  refine VL.va (op_move rfl (ltn rfl)) rfl ?_
  refine VL.va (op_move rfl (ltn rfl)) rfl ?_
  refine VL.va (op_move rfl (ltn rfl)) rfl ?_
  refine VL.va (op_ari64 (q := ((i + l2.length : Nat) : Int)) rfl rfl (congrArg some (w64 (by omega) (by omega))) (ltn rfl)) rfl ?_
  refine VL.va (op_cutV' (i + l2.length) (l0.length + l2.length) (cutV_at0 (by omega)) Try.underlying23 TI33 rfl ⟨⟨_, _, rfl, by omega, Int.toNat_natCast _⟩, rfl, by omega, Nat.le_refl _⟩ (by omega) (ltn rfl)) rfl ?_
  refine VL.va (op_call_ext rfl rfl (ltn rfl) (fun w hm => run_overlaps (tb := 4) (j := 1) 0 Try.func42 (by kernel_rfl) (by kernel_rfl) (by kernel_rfl) (by kernel_rfl) Try.underlying23 TI33 rfl rfl (by rw [hlen]; omega) hne w hm)) rfl ?_
  refine VL.va (op_not rfl rfl (ltn rfl)) rfl ?_
  refine VL.done (VN.then ?_)
  refine VC.cond_t rfl ?_
  refine VC.seq ?_
  refine VC.draw ⟨0, [], [], [], []⟩ (by kernel_rfl) rfl (by kernel_rfl) (n := 9) (listed := LB 9 0) ?_
  refine VA.va (i := 0) (listed' := LB 9 1) rfl (op_move rfl (ltn rfl)) rfl (by kernel_rfl) (by kernel_rfl) (by kernel_rfl) (by kernel_rfl) ⟨trivial, trivial, trivial⟩ (fun _ _ _ h => h) ?_
  refine VA.va (i := 1) (listed' := LB 9 3) rfl (op_move rfl (ltn rfl)) rfl (by kernel_rfl) (by kernel_rfl) (by kernel_rfl) (by kernel_rfl) ⟨trivial, trivial, trivial⟩ (fun _ _ _ h => h) ?_
  refine VA.va (i := 2) (listed' := LB 9 7) rfl (op_move rfl (ltn rfl)) rfl (by kernel_rfl) (by kernel_rfl) (by kernel_rfl) (by kernel_rfl) ⟨trivial, trivial, trivial⟩ (fun _ _ _ h => h) ?_
  refine VA.va (i := 3) (listed' := LB 9 15) rfl (op_ari64 (q := ((i + l2.length : Nat) : Int)) rfl rfl (congrArg some (w64 (by omega) (by omega))) (ltn rfl)) rfl (by kernel_rfl) (by kernel_rfl) (by kernel_rfl) (by kernel_rfl) ⟨trivial, trivial, trivial⟩ (fun _ _ _ h => h) ?_
  refine VA.va (i := 4) (listed' := LB 9 31) rfl (op_cutV' (i + l2.length) (l0.length + l2.length) (cutV_at0 (by omega)) Try.underlying23 TI33 rfl ⟨⟨_, _, rfl, by omega, Int.toNat_natCast _⟩, rfl, by omega, Nat.le_refl _⟩ (by omega) (ltn rfl)) rfl (by kernel_rfl) (by kernel_rfl) (by kernel_rfl) (by kernel_rfl) ⟨trivial, trivial, trivial⟩ (fun _ _ _ h => h) ?_
  refine VA.va (i := 5) (listed' := LB 9 63) rfl (op_move rfl (ltn rfl)) rfl (by kernel_rfl) (by kernel_rfl) (by kernel_rfl) (by kernel_rfl) ⟨trivial, trivial, trivial⟩ (fun _ _ _ h => h) ?_
  refine VA.va (i := 6) (listed' := LB 9 127) rfl (op_move rfl (ltn rfl)) rfl (by kernel_rfl) (by kernel_rfl) (by kernel_rfl) (by kernel_rfl) ⟨trivial, trivial, trivial⟩ (fun _ _ _ h => h) ?_
  refine VA.va (i := 7) (listed' := LB 9 255) rfl (op_cutV' i (l0.length + l2.length) (cutV_at0 (by omega)) Try.underlying23 TI33 rfl ⟨⟨_, _, rfl, by omega, Int.toNat_natCast _⟩, rfl, by omega, Nat.le_refl _⟩ (by omega) (ltn rfl)) rfl (by kernel_rfl) (by kernel_rfl) (by kernel_rfl) (by kernel_rfl) ⟨trivial, trivial, trivial⟩ (fun _ _ _ h => h) ?_
  refine VA.one1 (i := 8) (listed' := LB 9 511) (by kernel_rfl) rfl (o_copy (m := l0.length - i) (cs := (cur.drop (i * 6)).take ((l0.length - i) * 6)) 0 Try.underlying23 TI33 rfl rfl rfl (by omega) hd (by rw [hd, hlen]; omega) (src_box ((l0.length - i) * 6) 0 rfl rfl) h1c rfl (ltn rfl)) rfl (by kernel_rfl) ⟨trivial, trivial, trivial⟩ ?_
  refine VA.done (by kernel_rfl) (VN.then ?_)
  refine VC.seq (VC.region ?_)
  refine VL.va (op_move rfl (ltn rfl)) rfl ?_
  refine VL.va (op_move rfl (ltn rfl)) rfl ?_
  refine VL.va (op_cutV' i (l0.length + l2.length) (cutV_at0 (by omega)) Try.underlying23 TI33 rfl ⟨⟨_, _, rfl, h0, Int.toNat_natCast i⟩, rfl, by omega, Nat.le_refl _⟩ (by omega) (ltn rfl)) rfl ?_
  refine VL.va (op_move rfl (ltn rfl)) rfl ?_
  refine VL.step1 (o_copy (m := l2.length) 0 Try.underlying23 TI33 rfl rfl rfl (by omega) hvl (by rw [hvl, hcur1]; omega) (src_row 0 rfl) (flat_one hflv) rfl (ltn rfl)) rfl ?_
  refine VL.done (VN.then ?_)
  refine VC.seq (VC.region ?_)
  refine VL.va (op_move rfl (ltn rfl)) rfl ?_
  refine VL.va (op_assign rfl (ltn rfl)) rfl ?_
  refine VL.done (VN.then ?_)
  refine VC.ret (VR.then ?_)
  refine VR.closeBox 0 cap 6 ((l0.take i ++ l2 ++ l0.drop i).map enc32) rfl (by rw [lenm, hfll]; omega) hmx (by rw [upd_len, hcur1]; rw [hvl, hcur1]; omega) ?_ (flat_map enc32_ok _) ?_
  · rw [lenm, hfll, hfin, Nat.add_mul, Nat.add_mul]
    exact ins_fits (by rw [hlen]; omega) (by omega) hvl (by rw [← Nat.sub_mul])
  rw [lenm, hfll]
  exact VR.own (rs := [.tmp 6]) 0 [.row (.slice (some ⟨vb, 0, none⟩) l2.length c2) 6 (l2.map enc32), .lent (.slice (some ⟨vb, 0, none⟩) l2.length c2) 33 6 (l2.map enc32)] rfl (.tmp rfl .nil) rfl rfl rfl (fun _ => rfl)
set_option maxHeartbeats 4000000 in
set_option maxRecDepth 100000 in
theorem stock_Receive.ok (k : Nat) (l0 : List S32) (a1 : ByteArray) (a2 : Int) (v0 : Value) (r1 : List S32) (r2 : Int) (h : stock_Receive.f k l0 a1 a2 = some (r1, r2)) :
    VCalls Try.prog 8 [v0, .string a1, .int .i64 a2] [.row v0 6 (l0.map enc32)] (fun v G own => ∃ w0 : Value, v = .tuple #[w0, .int .i64 r2] ∧ G = [] ∧ own = [(w0, 33, 6, r1.map enc32)]) := by
  refine VCalls.intro Try.func8 rfl (len rfl) fun E hC => ?_
  unfold stock_Receive.f at h
  refine VC.seq ?_
  refine VC.region ?_
  refine VL.va (op_assign rfl (ltn rfl)) rfl ?_
  refine VL.va (op_assign rfl (ltn rfl)) rfl ?_
  refine VL.done ?_
  refine VN.then ?_
  refine VC.seq ?_
  refine VC.seq ?_
  refine VC.region ?_
  refine VL.va (op_move rfl (ltn rfl)) rfl ?_
  replace h := Option.bind_eq_some_iff.1 h
  obtain ⟨t1737, hA1738, h⟩ := h
  refine VL.sC (o_call0 FO9 (stock_Right.ok k l0 v0 t1737 hA1738) rfl rfl (ltn rfl) (All_of (.cons (List.mem_of_getElem? (i := 0) rfl) .nil))) rfl ?_
  rintro _ _ _ ⟨rfl, rfl, rfl⟩
  by_cases c1739 : t1737 = true
  · rw [if_pos c1739] at h
    obtain rfl := c1739
    refine VL.va (op_not rfl rfl (ltn rfl)) rfl ?_
    refine VL.va (op_move rfl (ltn rfl)) rfl ?_
    refine VL.va (op_move rfl (ltn rfl)) rfl ?_
    replace h := Option.bind_eq_some_iff.1 h
    obtain ⟨t1740, hA1741, h⟩ := h
    refine VL.sC (o_call0 FO22 (stock_units.ok a2 t1740 hA1741) rfl rfl (ltn rfl) (All_of .nil)) rfl ?_
    rintro _ _ _ ⟨rfl, rfl, rfl⟩
    by_cases c1742 : t1740 = true
    · rw [if_pos c1742] at h
      obtain rfl := c1742
      refine VL.va (op_not rfl rfl (ltn rfl)) rfl ?_
      refine VL.va (op_pick rfl rfl (ltn rfl)) rfl ?_
      refine VL.va (op_move rfl (ltn rfl)) rfl ?_
      refine VL.va (op_move rfl (ltn rfl)) rfl ?_
      replace h := Option.bind_eq_some_iff.1 h
      obtain ⟨t1743, hA1744, h⟩ := h
      refine VL.sC (o_call0 FO23 (stock_name.ok k a1 t1743 hA1744) rfl rfl (ltn rfl) (All_of .nil)) rfl ?_
      rintro _ _ _ ⟨rfl, rfl, rfl⟩
      by_cases c1745 : t1743 = true
      · rw [if_pos c1745] at h
        obtain rfl := c1745
        refine VL.va (op_not rfl rfl (ltn rfl)) rfl ?_
        refine VL.va (op_pick rfl rfl (ltn rfl)) rfl ?_
        refine VL.done ?_
        refine VN.then ?_
        refine VC.cond_f rfl ?_
        refine VC.skip ?_
        refine VN.then ?_
        refine VC.seq ?_
        refine VC.region ?_
        refine VL.va (op_move rfl (ltn rfl)) rfl ?_
        refine VL.va (op_move rfl (ltn rfl)) rfl ?_
        replace h := Option.bind_eq_some_iff.1 h
        obtain ⟨⟨t1866, t1867⟩, hA1868, h⟩ := h
        dsimp only at h
        refine VL.sC (o_call0 FO24 (stock_at.ok k l0 a1 v0 t1866 t1867 hA1868) rfl rfl (ltn rfl) (All_of (.cons (List.mem_of_getElem? (i := 0) rfl) .nil))) rfl ?_
        rintro _ _ _ ⟨rfl, rfl, rfl⟩
        refine VL.va (op_move rfl (ltn rfl)) rfl ?_
        refine VL.va (op_extract rfl rfl (ltn rfl)) rfl ?_
        refine VL.va (op_extract rfl rfl (ltn rfl)) rfl ?_
        refine VL.va (op_assign rfl (ltn rfl)) rfl ?_
        refine VL.va (op_assign rfl (ltn rfl)) rfl ?_
        refine VL.done ?_
        refine VN.then ?_
        refine VC.seq ?_
        refine VC.seq ?_
        refine VC.region ?_
        refine VL.va (op_move rfl (ltn rfl)) rfl ?_
        replace h := Option.bind_eq_some_iff.1 h
        obtain ⟨r1887, hA1888, h⟩ := h
        refine VL.sC (o_call_b0 FO25 (slices_Clone_api_Row_api_Row.ok l0 v0 r1887 hA1888) rfl rfl (ltn rfl) (All_of (.cons (.inl (List.mem_of_getElem? (i := 0) rfl)) .nil)) (by rintro _ _ _ ⟨_, rfl, rfl, rfl⟩; rfl)) rfl ?_
        rintro v1890 _ _ ⟨_, rfl, rfl, rfl⟩
        refine VL.va (op_assign rfl (ltn rfl)) rfl ?_
        refine VL.done ?_
        refine VN.then ?_
        refine VC.seq ?_
        refine VC.region ?_
        refine VL.va (op_move rfl (ltn rfl)) rfl ?_
        by_cases c1892 : t1867 = true
        · rw [if_pos c1892] at h
          obtain rfl := c1892
          refine VL.va (op_not rfl rfl (ltn rfl)) rfl ?_
          refine VL.done ?_
          refine VN.then ?_
          refine VC.cond_f rfl ?_
          refine VC.skip ?_
          refine VN.then ?_
          refine VC.seq ?_
          refine VC.seq ?_
          refine VC.region ?_
          refine VL.va (op_move rfl (ltn rfl)) rfl ?_
          refine VL.va (op_move rfl (ltn rfl)) rfl ?_
          by_cases c1900 : 0 ≤ t1866
          · rw [if_pos c1900] at h
            replace h := Option.bind_eq_some_iff.1 h
            obtain ⟨x1901, hx1901, h⟩ := h
            refine VL.openR (m := r1887.length) 0 lenm rfl (pos_get hx1901) ?_
            rintro g1902 n1903 rfl
            refine VL.va (op_indexAddr Try.underlying23 TI33 rfl rfl c1900 (lt_get c1900 hx1901) (add_zero_at _ _) (ltn rfl)) rfl ?_
            refine VL.va (op_fieldAddr FI33_1 rfl (add_at _ _ _) (ltn rfl)) rfl ?_
            refine VL.va (op_load_own (sz := 6) (o := 1) 0 t1866.toNat 1 rfl rfl (get_map hx1901) TI3 rfl (by decide) (ltn rfl)) rfl ?_
            refine VL.va (op_move rfl (ltn rfl)) rfl ?_
            refine VL.va (op_ari64 rfl rfl rfl (ltn rfl)) rfl ?_
            refine VL.letter (decide (x1901.f1 > (wrap64 (1073741824 - a2)))) fun b1904 hb1904 => ?_
            refine VL.va (op_cmp rfl rfl (congrArg some hb1904) (ltn rfl)) rfl ?_
            refine VL.done ?_
            refine VN.then ?_
            by_cases c1905 : x1901.f1 > (wrap64 (1073741824 - a2))
            · rw [if_pos c1905] at h
              obtain rfl : b1904 = true := hb1904.symm.trans (decide_eq_true c1905)
              refine VC.cond_t rfl ?_
              refine VC.seq ?_
              refine VC.region ?_
              refine VL.va (op_assign rfl (ltn rfl)) rfl ?_
              refine VL.va (op_assign rfl (ltn rfl)) rfl ?_
              refine VL.done ?_
              refine VN.then ?_
              refine VC.ret ?_
              refine VR.then ?_
              simp only [Option.some.injEq, Prod.mk.injEq] at h
              obtain ⟨rfl, rfl⟩ := h
              refine VR.nilRow' 33 6 ?_
              exact VR.fn (rs := [.tmp 6, .tmp 7]) [] [((.slice none 0 0), 33, 6, ([] : List S32).map enc32)] [0] rfl (.tmp rfl (.tmp rfl .nil)) ⟨(.slice none 0 0), rfl, rfl, rfl⟩ trivial rfl (by decide)
            · rw [if_neg c1905] at h
              obtain rfl : b1904 = false := hb1904.symm.trans (decide_eq_false c1905)
              refine VC.cond_f rfl ?_
              refine VC.skip ?_
              refine VN.then ?_
              refine VC.seq ?_
              refine VC.region ?_
              refine VL.va (op_move rfl (ltn rfl)) rfl ?_
              refine VL.va (op_move rfl (ltn rfl)) rfl ?_
              replace h := Option.bind_eq_some_iff.1 h
              obtain ⟨x1907, hx1907, h⟩ := h
              refine VL.va (op_indexAddr Try.underlying23 TI33 rfl rfl c1900 (lt_get c1900 hx1907) (add_zero_at _ _) (ltn rfl)) rfl ?_
              refine VL.va (op_fieldAddr FI33_1 rfl (add_at _ _ _) (ltn rfl)) rfl ?_
              refine VL.va (op_load_own (sz := 6) (o := 1) 0 t1866.toNat 1 rfl rfl (get_map hx1907) TI3 rfl (by decide) (ltn rfl)) rfl ?_
              refine VL.va (op_move rfl (ltn rfl)) rfl ?_
              refine VL.va (op_ari64 rfl rfl rfl (ltn rfl)) rfl ?_
              replace h := Option.bind_eq_some_iff.1 h
              obtain ⟨x1908, hx1908, h⟩ := h
              refine VL.va (op_indexAddr Try.underlying23 TI33 rfl rfl c1900 (lt_get c1900 hx1908) (add_zero_at _ _) (ltn rfl)) rfl ?_
              refine VL.va (op_fieldAddr FI33_1 rfl (add_at _ _ _) (ltn rfl)) rfl ?_
              refine VL.step1 (o_store_own (sz := 6) (o := 1) (es3 := List.map enc32 (r1887.set t1866.toNat (⟨x1908.f0, wrap64 (x1907.f1 + a2), x1908.f2, x1908.f3, x1908.f4, x1908.f5⟩ : S32))) 0 t1866.toNat 1 lenm (setm rfl) rfl rfl rfl (get_map hx1908) TI3 (.c rfl) rfl (len rfl)) rfl ?_
              refine VL.done ?_
              refine VN.then ?_
              refine VC.seq ?_
              refine VC.region ?_
              refine VL.va (op_move rfl (ltn rfl)) rfl ?_
              refine VL.va (op_move rfl (ltn rfl)) rfl ?_
              replace h := Option.bind_eq_some_iff.1 h
              obtain ⟨x1911, hx1911, h⟩ := h
              refine VL.va (op_indexAddr Try.underlying23 TI33 rfl rfl c1900 (lt_get_len (by simp) c1900 hx1911) (add_zero_at _ _) (ltn rfl)) rfl ?_
              refine VL.va (op_fieldAddr FI33_2 rfl (add_at _ _ _) (ltn rfl)) rfl ?_
              refine VL.va (op_load_own (sz := 6) (o := 2) 0 t1866.toNat 1 rfl rfl (get_map hx1911) TI3 rfl (by decide) (ltn rfl)) rfl ?_
              refine VL.va (op_move rfl (ltn rfl)) rfl ?_
              refine VL.va (op_ari64 rfl rfl rfl (ltn rfl)) rfl ?_
              replace h := Option.bind_eq_some_iff.1 h
              obtain ⟨x1912, hx1912, h⟩ := h
              refine VL.va (op_indexAddr Try.underlying23 TI33 rfl rfl c1900 (lt_get_len (by simp) c1900 hx1912) (add_zero_at _ _) (ltn rfl)) rfl ?_
              refine VL.va (op_fieldAddr FI33_2 rfl (add_at _ _ _) (ltn rfl)) rfl ?_
              refine VL.step1 (o_store_own (sz := 6) (o := 2) (es3 := List.map enc32 ((r1887.set t1866.toNat (⟨x1908.f0, wrap64 (x1907.f1 + a2), x1908.f2, x1908.f3, x1908.f4, x1908.f5⟩ : S32)).set t1866.toNat (⟨x1912.f0, x1912.f1, wrap64 (x1911.f2 + a2), x1912.f3, x1912.f4, x1912.f5⟩ : S32))) 0 t1866.toNat 1 (by simp) (setm rfl) rfl rfl rfl (get_map hx1912) TI3 (.c rfl) rfl (len rfl)) rfl ?_
              refine VL.done ?_
              refine VN.then ?_
              refine VC.seq ?_
              refine VC.region ?_
              refine VL.va (op_move rfl (ltn rfl)) rfl ?_
              refine VL.va (op_assign rfl (ltn rfl)) rfl ?_
              refine VL.va (op_assign rfl (ltn rfl)) rfl ?_
              refine VL.done ?_
              refine VN.then ?_
              refine VC.ret ?_
              simp only [Option.some.injEq, Prod.mk.injEq] at h
              obtain ⟨rfl, rfl⟩ := h
              exact VR.fn (rs := [.tmp 6, .tmp 7]) [] [((.slice (some ⟨g1902, 0, none⟩) r1887.length n1903), 33, 6, ((r1887.set t1866.toNat (⟨x1908.f0, wrap64 (x1907.f1 + a2), x1908.f2, x1908.f3, x1908.f4, x1908.f5⟩ : S32)).set t1866.toNat (⟨x1912.f0, x1912.f1, wrap64 (x1911.f2 + a2), x1912.f3, x1912.f4, x1912.f5⟩ : S32)).map enc32)] [0] rfl (.tmp rfl (.tmp rfl .nil)) ⟨(.slice (some ⟨g1902, 0, none⟩) r1887.length n1903), rfl, rfl, rfl⟩ trivial rfl (by decide)
          · rw [if_neg c1900] at h; cases h
        · rw [if_neg c1892] at h
          obtain rfl := Bool.eq_false_iff.2 c1892
          refine VL.va (op_not rfl rfl (ltn rfl)) rfl ?_
          refine VL.done ?_
          refine VN.then ?_
          refine VC.cond_t rfl ?_
          refine VC.seq ?_
          refine VC.seq ?_
          refine VC.region ?_
          refine VL.va (op_move rfl (ltn rfl)) rfl ?_
          refine VL.va (op_len_own (m := r1887.length) 0 lenm Try.underlying23 rfl rfl (ltn rfl)) rfl ?_
          refine VL.letter (((r1887.length : Int) == 8)) fun b1918 hb1918 => ?_
          refine VL.va (op_cmp rfl rfl (congrArg some hb1918) (ltn rfl)) rfl ?_
          refine VL.done ?_
          refine VN.then ?_
          by_cases c1919 : (r1887.length : Int) = 8
          · rw [if_pos c1919] at h
            obtain rfl : b1918 = true := hb1918.symm.trans (beq_iff_eq.2 c1919)
            refine VC.cond_t rfl ?_
            refine VC.seq ?_
            refine VC.region ?_
            refine VL.va (op_assign rfl (ltn rfl)) rfl ?_
            refine VL.va (op_assign rfl (ltn rfl)) rfl ?_
            refine VL.done ?_
            refine VN.then ?_
            refine VC.ret ?_
            refine VR.then ?_
            refine VR.then ?_
            simp only [Option.some.injEq, Prod.mk.injEq] at h
            obtain ⟨rfl, rfl⟩ := h
            refine VR.nilRow' 33 6 ?_
            exact VR.fn (rs := [.tmp 6, .tmp 7]) [] [((.slice none 0 0), 33, 6, ([] : List S32).map enc32)] [0] rfl (.tmp rfl (.tmp rfl .nil)) ⟨(.slice none 0 0), rfl, rfl, rfl⟩ trivial rfl (by decide)
          · rw [if_neg c1919] at h
            obtain rfl : b1918 = false := hb1918.symm.trans (beq_eq_false_iff_ne.2 c1919)
            refine VC.cond_f rfl ?_
            refine VC.skip ?_
            refine VN.then ?_
            refine VC.region ?_
            refine VL.va (op_move rfl (ltn rfl)) rfl ?_
            refine VL.va (op_move rfl (ltn rfl)) rfl ?_
            refine VL.va (op_move rfl (ltn rfl)) rfl ?_
            refine VL.va (op_build (vals := [(0, .string a1)]) (vcs := [(0, [.string a1])]) (cells := [.string a1, .int .i64 0, .int .i64 0, .int .i64 0, .int .i64 0, .int .i64 0]) SI33 rfl (.cons ⟨rfl, (.c rfl)⟩ .nil) (by kernel_rfl) (ltn rfl)) rfl ?_
            refine VL.sG (o_buildSlice (vals := [(0, .agg #[.string a1, .int .i64 0, .int .i64 0, .int .i64 0, .int .i64 0, .int .i64 0])]) (cells := #[.string a1, .int .i64 0, .int .i64 0, .int .i64 0, .int .i64 0, .int .i64 0]) (es := List.map enc32 ([(⟨a1, 0, 0, 0, 0, 0⟩ : S32)] : List S32)) Try.underlying23 TI33 Z33 rfl (by decide) (by decide) (by kernel_rfl) (by kernel_rfl) rfl (flat_map enc32_ok _) (ltn rfl)) rfl ?_
            intro v1922
            replace h := Option.bind_eq_some_iff.1 h
            obtain ⟨r1923, hA1924, h⟩ := h
            refine VL.sG (o_call_own0 (vals := [v1890, .int .i64 t1866, v1922]) 1 rfl FO26 (slices_Insert_api_Row_api_Row.ok r1887 t1866 ([(⟨a1, 0, 0, 0, 0, 0⟩ : S32)] : List S32) v1890 v1922 r1923 hA1924) rfl rfl (ltn rfl) (All_of (.cons (.inr (.inl ⟨0, _, by decide, rfl, .inl rfl⟩)) (.cons (.inr (.inl ⟨0, _, by decide, rfl, .inr rfl⟩)) .nil)))) rfl ?_
            intro v1925
            refine VL.va (op_assign rfl (ltn rfl)) rfl ?_
            refine VL.done ?_
            refine VN.then ?_
            refine VC.seq ?_
            refine VC.seq ?_
            refine VC.region ?_
            refine VL.va (op_move rfl (ltn rfl)) rfl ?_
            refine VL.va (op_move rfl (ltn rfl)) rfl ?_
            by_cases c1934 : 0 ≤ t1866
            · rw [if_pos c1934] at h
              replace h := Option.bind_eq_some_iff.1 h
              obtain ⟨x1935, hx1935, h⟩ := h
              refine VL.openR (m := r1923.length) 1 lenm rfl (pos_get hx1935) ?_
              rintro g1936 n1937 rfl
              refine VL.va (op_indexAddr Try.underlying23 TI33 rfl rfl c1934 (lt_get c1934 hx1935) (add_zero_at _ _) (ltn rfl)) rfl ?_
              refine VL.va (op_fieldAddr FI33_1 rfl (add_at _ _ _) (ltn rfl)) rfl ?_
              refine VL.va (op_load_own (sz := 6) (o := 1) 1 t1866.toNat 1 rfl rfl (get_map hx1935) TI3 rfl (by decide) (ltn rfl)) rfl ?_
              refine VL.va (op_move rfl (ltn rfl)) rfl ?_
              refine VL.va (op_ari64 rfl rfl rfl (ltn rfl)) rfl ?_
              refine VL.letter (decide (x1935.f1 > (wrap64 (1073741824 - a2)))) fun b1938 hb1938 => ?_
              refine VL.va (op_cmp rfl rfl (congrArg some hb1938) (ltn rfl)) rfl ?_
              refine VL.done ?_
              refine VN.then ?_
              by_cases c1939 : x1935.f1 > (wrap64 (1073741824 - a2))
              · rw [if_pos c1939] at h
                obtain rfl : b1938 = true := hb1938.symm.trans (decide_eq_true c1939)
                refine VC.cond_t rfl ?_
                refine VC.seq ?_
                refine VC.region ?_
                refine VL.va (op_assign rfl (ltn rfl)) rfl ?_
                refine VL.va (op_assign rfl (ltn rfl)) rfl ?_
                refine VL.done ?_
                refine VN.then ?_
                refine VC.ret ?_
                refine VR.then ?_
                simp only [Option.some.injEq, Prod.mk.injEq] at h
                obtain ⟨rfl, rfl⟩ := h
                refine VR.nilRow' 33 6 ?_
                exact VR.fn (rs := [.tmp 6, .tmp 7]) [] [((.slice none 0 0), 33, 6, ([] : List S32).map enc32)] [0] rfl (.tmp rfl (.tmp rfl .nil)) ⟨(.slice none 0 0), rfl, rfl, rfl⟩ trivial rfl (by decide)
              · rw [if_neg c1939] at h
                obtain rfl : b1938 = false := hb1938.symm.trans (decide_eq_false c1939)
                refine VC.cond_f rfl ?_
                refine VC.skip ?_
                refine VN.then ?_
                refine VC.seq ?_
                refine VC.region ?_
                refine VL.va (op_move rfl (ltn rfl)) rfl ?_
                refine VL.va (op_move rfl (ltn rfl)) rfl ?_
                replace h := Option.bind_eq_some_iff.1 h
                obtain ⟨x1941, hx1941, h⟩ := h
                refine VL.va (op_indexAddr Try.underlying23 TI33 rfl rfl c1934 (lt_get c1934 hx1941) (add_zero_at _ _) (ltn rfl)) rfl ?_
                refine VL.va (op_fieldAddr FI33_1 rfl (add_at _ _ _) (ltn rfl)) rfl ?_
                refine VL.va (op_load_own (sz := 6) (o := 1) 1 t1866.toNat 1 rfl rfl (get_map hx1941) TI3 rfl (by decide) (ltn rfl)) rfl ?_
                refine VL.va (op_move rfl (ltn rfl)) rfl ?_
                refine VL.va (op_ari64 rfl rfl rfl (ltn rfl)) rfl ?_
                replace h := Option.bind_eq_some_iff.1 h
                obtain ⟨x1942, hx1942, h⟩ := h
                refine VL.va (op_indexAddr Try.underlying23 TI33 rfl rfl c1934 (lt_get c1934 hx1942) (add_zero_at _ _) (ltn rfl)) rfl ?_
                refine VL.va (op_fieldAddr FI33_1 rfl (add_at _ _ _) (ltn rfl)) rfl ?_
                refine VL.step1 (o_store_own (sz := 6) (o := 1) (es3 := List.map enc32 (r1923.set t1866.toNat (⟨x1942.f0, wrap64 (x1941.f1 + a2), x1942.f2, x1942.f3, x1942.f4, x1942.f5⟩ : S32))) 1 t1866.toNat 1 lenm (setm rfl) rfl rfl rfl (get_map hx1942) TI3 (.c rfl) rfl (len rfl)) rfl ?_
                refine VL.done ?_
                refine VN.then ?_
                refine VC.seq ?_
                refine VC.region ?_
                refine VL.va (op_move rfl (ltn rfl)) rfl ?_
                refine VL.va (op_move rfl (ltn rfl)) rfl ?_
                replace h := Option.bind_eq_some_iff.1 h
                obtain ⟨x1945, hx1945, h⟩ := h
                refine VL.va (op_indexAddr Try.underlying23 TI33 rfl rfl c1934 (lt_get_len (by simp) c1934 hx1945) (add_zero_at _ _) (ltn rfl)) rfl ?_
                refine VL.va (op_fieldAddr FI33_2 rfl (add_at _ _ _) (ltn rfl)) rfl ?_
                refine VL.va (op_load_own (sz := 6) (o := 2) 1 t1866.toNat 1 rfl rfl (get_map hx1945) TI3 rfl (by decide) (ltn rfl)) rfl ?_
                refine VL.va (op_move rfl (ltn rfl)) rfl ?_
                refine VL.va (op_ari64 rfl rfl rfl (ltn rfl)) rfl ?_
                replace h := Option.bind_eq_some_iff.1 h
                obtain ⟨x1946, hx1946, h⟩ := h
                refine VL.va (op_indexAddr Try.underlying23 TI33 rfl rfl c1934 (lt_get_len (by simp) c1934 hx1946) (add_zero_at _ _) (ltn rfl)) rfl ?_
                refine VL.va (op_fieldAddr FI33_2 rfl (add_at _ _ _) (ltn rfl)) rfl ?_
                refine VL.step1 (o_store_own (sz := 6) (o := 2) (es3 := List.map enc32 ((r1923.set t1866.toNat (⟨x1942.f0, wrap64 (x1941.f1 + a2), x1942.f2, x1942.f3, x1942.f4, x1942.f5⟩ : S32)).set t1866.toNat (⟨x1946.f0, x1946.f1, wrap64 (x1945.f2 + a2), x1946.f3, x1946.f4, x1946.f5⟩ : S32))) 1 t1866.toNat 1 (by simp) (setm rfl) rfl rfl rfl (get_map hx1946) TI3 (.c rfl) rfl (len rfl)) rfl ?_
                refine VL.done ?_
                refine VN.then ?_
                refine VC.seq ?_
                refine VC.region ?_
                refine VL.va (op_move rfl (ltn rfl)) rfl ?_
                refine VL.va (op_assign rfl (ltn rfl)) rfl ?_
                refine VL.va (op_assign rfl (ltn rfl)) rfl ?_
                refine VL.done ?_
                refine VN.then ?_
                refine VC.ret ?_
                simp only [Option.some.injEq, Prod.mk.injEq] at h
                obtain ⟨rfl, rfl⟩ := h
                exact VR.fn (rs := [.tmp 6, .tmp 7]) [] [((.slice (some ⟨g1936, 0, none⟩) r1923.length n1937), 33, 6, ((r1923.set t1866.toNat (⟨x1942.f0, wrap64 (x1941.f1 + a2), x1942.f2, x1942.f3, x1942.f4, x1942.f5⟩ : S32)).set t1866.toNat (⟨x1946.f0, x1946.f1, wrap64 (x1945.f2 + a2), x1946.f3, x1946.f4, x1946.f5⟩ : S32)).map enc32)] [1] rfl (.tmp rfl (.tmp rfl .nil)) ⟨(.slice (some ⟨g1936, 0, none⟩) r1923.length n1937), rfl, rfl, rfl⟩ trivial rfl (by decide)
            · rw [if_neg c1934] at h; cases h
      · rw [if_neg c1745] at h
        obtain rfl := Bool.eq_false_iff.2 c1745
        refine VL.va (op_not rfl rfl (ltn rfl)) rfl ?_
        refine VL.va (op_pick rfl rfl (ltn rfl)) rfl ?_
        refine VL.done ?_
        refine VN.then ?_
        refine VC.cond_t rfl ?_
        refine VC.seq ?_
        refine VC.region ?_
        refine VL.va (op_assign rfl (ltn rfl)) rfl ?_
        refine VL.va (op_assign rfl (ltn rfl)) rfl ?_
        refine VL.done ?_
        refine VN.then ?_
        refine VC.ret ?_
        refine VR.then ?_
        simp only [Option.some.injEq, Prod.mk.injEq] at h
        obtain ⟨rfl, rfl⟩ := h
        refine VR.nilRow' 33 6 ?_
        exact VR.fn (rs := [.tmp 6, .tmp 7]) [] [((.slice none 0 0), 33, 6, ([] : List S32).map enc32)] [0] rfl (.tmp rfl (.tmp rfl .nil)) ⟨(.slice none 0 0), rfl, rfl, rfl⟩ trivial rfl (by decide)
    · rw [if_neg c1742] at h
      obtain rfl := Bool.eq_false_iff.2 c1742
      refine VL.va (op_not rfl rfl (ltn rfl)) rfl ?_
      refine VL.va (op_pick rfl rfl (ltn rfl)) rfl ?_
      refine VL.va (op_move rfl (ltn rfl)) rfl ?_
      refine VL.un rfl rfl (ltn rfl) ?_
      refine VL.un rfl rfl (ltn rfl) ?_
      refine VL.un rfl rfl (ltn rfl) ?_
      refine VL.va (op_pick rfl rfl (ltn rfl)) rfl ?_
      refine VL.done ?_
      refine VN.then ?_
      refine VC.cond_t rfl ?_
      refine VC.seq ?_
      refine VC.region ?_
      refine VL.va (op_assign rfl (ltn rfl)) rfl ?_
      refine VL.va (op_assign rfl (ltn rfl)) rfl ?_
      refine VL.done ?_
      refine VN.then ?_
      refine VC.ret ?_
      refine VR.then ?_
      simp only [Option.some.injEq, Prod.mk.injEq] at h
      obtain ⟨rfl, rfl⟩ := h
      refine VR.nilRow' 33 6 ?_
      exact VR.fn (rs := [.tmp 6, .tmp 7]) [] [((.slice none 0 0), 33, 6, ([] : List S32).map enc32)] [0] rfl (.tmp rfl (.tmp rfl .nil)) ⟨(.slice none 0 0), rfl, rfl, rfl⟩ trivial rfl (by decide)
  · rw [if_neg c1739] at h
    obtain rfl := Bool.eq_false_iff.2 c1739
    refine VL.va (op_not rfl rfl (ltn rfl)) rfl ?_
    refine VL.va (op_move rfl (ltn rfl)) rfl ?_
    refine VL.un rfl rfl (ltn rfl) ?_
    refine VL.un rfl rfl (ltn rfl) ?_
    refine VL.un rfl rfl (ltn rfl) ?_
    refine VL.va (op_pick rfl rfl (ltn rfl)) rfl ?_
    refine VL.va (op_move rfl (ltn rfl)) rfl ?_
    refine VL.un rfl rfl (ltn rfl) ?_
    refine VL.un rfl rfl (ltn rfl) ?_
    refine VL.un rfl rfl (ltn rfl) ?_
    refine VL.va (op_pick rfl rfl (ltn rfl)) rfl ?_
    refine VL.done ?_
    refine VN.then ?_
    refine VC.cond_t rfl ?_
    refine VC.seq ?_
    refine VC.region ?_
    refine VL.va (op_assign rfl (ltn rfl)) rfl ?_
    refine VL.va (op_assign rfl (ltn rfl)) rfl ?_
    refine VL.done ?_
    refine VN.then ?_
    refine VC.ret ?_
    refine VR.then ?_
    simp only [Option.some.injEq, Prod.mk.injEq] at h
    obtain ⟨rfl, rfl⟩ := h
    refine VR.nilRow' 33 6 ?_
    exact VR.fn (rs := [.tmp 6, .tmp 7]) [] [((.slice none 0 0), 33, 6, ([] : List S32).map enc32)] [0] rfl (.tmp rfl (.tmp rfl .nil)) ⟨(.slice none 0 0), rfl, rfl, rfl⟩ trivial rfl (by decide)
set_option maxHeartbeats 4000000 in
set_option maxRecDepth 100000 in
theorem stock_Hold_1.ok  (p0 : Addr)  (h : stock_Hold_1.f = some ()) :
    VCalls Try.prog 29 [.pointer (some p0)] [] (fun v G own => v = .tuple #[.pointer (some (p0.add 2)), .pointer (some (p0.add 3))] ∧ G = [] ∧ own = []) := by
  refine VCalls.intro Try.func29 rfl (len rfl) fun E hC => ?_
  unfold stock_Hold_1.f at h
  refine VC.seq ?_
  refine VC.region ?_
  refine VL.va (op_assign rfl (ltn rfl)) rfl ?_
  refine VL.va (op_assign rfl (ltn rfl)) rfl ?_
  refine VL.done ?_
  refine VN.then ?_
  refine VC.join0 (⟨10, [(2, .pointer (some (p0.add 2))), (3, .pointer (some (p0.add 3)))], [], [], []⟩) (True) ?_ ?_
  · refine VC.draw ⟨0, [], [], [], []⟩ (by kernel_rfl) rfl (by kernel_rfl) (n := 8) (listed := LB 8 0) ?_
    refine VA.va (i := 0) (listed' := LB 8 1) rfl (op_move rfl (ltn rfl)) rfl (by kernel_rfl) (by kernel_rfl) (by kernel_rfl) (by kernel_rfl) ⟨trivial, trivial, trivial⟩ (fun _ _ _ h => h) ?_
    refine VA.va (i := 1) (listed' := LB 8 3) rfl (op_nilCheck rfl (ltn rfl)) rfl (by kernel_rfl) (by kernel_rfl) (by kernel_rfl) (by kernel_rfl) ⟨trivial, trivial, trivial⟩ (fun _ _ _ h => h) ?_
    refine VA.va (i := 2) (listed' := LB 8 7) rfl (op_fieldAddr FI33_2 rfl rfl (ltn rfl)) rfl (by kernel_rfl) (by kernel_rfl) (by kernel_rfl) (by kernel_rfl) ⟨trivial, trivial, trivial⟩ (fun _ _ _ h => h) ?_
    refine VA.va (i := 3) (listed' := LB 8 15) rfl (op_move rfl (ltn rfl)) rfl (by kernel_rfl) (by kernel_rfl) (by kernel_rfl) (by kernel_rfl) ⟨trivial, trivial, trivial⟩ (fun _ _ _ h => h) ?_
    refine VA.va (i := 4) (listed' := LB 8 31) rfl (op_nilCheck rfl (ltn rfl)) rfl (by kernel_rfl) (by kernel_rfl) (by kernel_rfl) (by kernel_rfl) ⟨trivial, trivial, trivial⟩ (fun _ _ _ h => h) ?_
    refine VA.va (i := 5) (listed' := LB 8 63) rfl (op_fieldAddr FI33_3 rfl rfl (ltn rfl)) rfl (by kernel_rfl) (by kernel_rfl) (by kernel_rfl) (by kernel_rfl) ⟨trivial, trivial, trivial⟩ (fun _ _ _ h => h) ?_
    refine VA.va (i := 6) (listed' := LB 8 127) rfl (op_assign rfl (ltn rfl)) rfl (by kernel_rfl) (by kernel_rfl) (by kernel_rfl) (by kernel_rfl) ⟨trivial, trivial, trivial⟩ (fun _ _ _ h => h) ?_
    refine VA.va (i := 7) (listed' := LB 8 255) rfl (op_assign rfl (ltn rfl)) rfl (by kernel_rfl) (by kernel_rfl) (by kernel_rfl) (by kernel_rfl) ⟨trivial, trivial, trivial⟩ (fun _ _ _ h => h) ?_
    refine VA.done (by kernel_rfl) ?_
    exact VN.meet0  [] [] trivial ⟨rfl, ⟨rfl, rfl, trivial⟩, trivial, rfl, by decide, rfl, by decide⟩
  intro _
  refine VC.ret ?_
  exact VR.fn (rs := [.tmp 2, .tmp 3]) [] [] [] rfl (.tmp rfl (.tmp rfl .nil)) ⟨rfl, rfl, rfl⟩ trivial rfl (by decide)
set_option maxHeartbeats 4000000 in
set_option maxRecDepth 100000 in
theorem stock_move.ok (k : Nat) (l0 : List S32) (a1 : ByteArray) (a2 : Int) (v0 : Value) (r1 : List S32) (r2 : Int) (h : stock_move.f k l0 a1 a2 = some (r1, r2)) :
    VCalls Try.prog 28 [v0, .string a1, .int .i64 a2, (.func (.func 29) #[] #[])] [.row v0 6 (l0.map enc32)] (fun v G own => ∃ w0 : Value, v = .tuple #[w0, .int .i64 r2] ∧ G = [] ∧ own = [(w0, 33, 6, r1.map enc32)]) := by
  refine VCalls.intro Try.func28 rfl (len rfl) fun E hC => ?_
  unfold stock_move.f at h
  refine VC.seq ?_
  refine VC.region ?_
  refine VL.va (op_assign rfl (ltn rfl)) rfl ?_
  refine VL.va (op_assign rfl (ltn rfl)) rfl ?_
  refine VL.done ?_
  refine VN.then ?_
  refine VC.seq ?_
  refine VC.seq ?_
  refine VC.region ?_
  refine VL.va (op_move rfl (ltn rfl)) rfl ?_
  replace h := Option.bind_eq_some_iff.1 h
  obtain ⟨t1980, hA1981, h⟩ := h
  refine VL.sC (o_call0 FO9 (stock_Right.ok k l0 v0 t1980 hA1981) rfl rfl (ltn rfl) (All_of (.cons (List.mem_of_getElem? (i := 0) rfl) .nil))) rfl ?_
  rintro _ _ _ ⟨rfl, rfl, rfl⟩
  by_cases c1982 : t1980 = true
  · rw [if_pos c1982] at h
    obtain rfl := c1982
    refine VL.va (op_not rfl rfl (ltn rfl)) rfl ?_
    refine VL.va (op_move rfl (ltn rfl)) rfl ?_
    refine VL.va (op_move rfl (ltn rfl)) rfl ?_
    replace h := Option.bind_eq_some_iff.1 h
    obtain ⟨t1983, hA1984, h⟩ := h
    refine VL.sC (o_call0 FO22 (stock_units.ok a2 t1983 hA1984) rfl rfl (ltn rfl) (All_of .nil)) rfl ?_
    rintro _ _ _ ⟨rfl, rfl, rfl⟩
    by_cases c1985 : t1983 = true
    · rw [if_pos c1985] at h
      obtain rfl := c1985
      refine VL.va (op_not rfl rfl (ltn rfl)) rfl ?_
      refine VL.va (op_pick rfl rfl (ltn rfl)) rfl ?_
      refine VL.done ?_
      refine VN.then ?_
      refine VC.cond_f rfl ?_
      refine VC.skip ?_
      refine VN.then ?_
      refine VC.seq ?_
      refine VC.region ?_
      refine VL.va (op_move rfl (ltn rfl)) rfl ?_
      refine VL.va (op_move rfl (ltn rfl)) rfl ?_
      replace h := Option.bind_eq_some_iff.1 h
      obtain ⟨⟨t1986, t1987⟩, hA1988, h⟩ := h
      dsimp only at h
      refine VL.sC (o_call0 FO24 (stock_at.ok k l0 a1 v0 t1986 t1987 hA1988) rfl rfl (ltn rfl) (All_of (.cons (List.mem_of_getElem? (i := 0) rfl) .nil))) rfl ?_
      rintro _ _ _ ⟨rfl, rfl, rfl⟩
      refine VL.va (op_move rfl (ltn rfl)) rfl ?_
      refine VL.va (op_extract rfl rfl (ltn rfl)) rfl ?_
      refine VL.va (op_extract rfl rfl (ltn rfl)) rfl ?_
      refine VL.va (op_assign rfl (ltn rfl)) rfl ?_
      refine VL.va (op_assign rfl (ltn rfl)) rfl ?_
      refine VL.done ?_
      refine VN.then ?_
      refine VC.seq ?_
      refine VC.seq ?_
      refine VC.region ?_
      refine VL.va (op_move rfl (ltn rfl)) rfl ?_
      by_cases c1993 : t1987 = true
      · rw [if_pos c1993] at h
        obtain rfl := c1993
        refine VL.va (op_not rfl rfl (ltn rfl)) rfl ?_
        refine VL.done ?_
        refine VN.then ?_
        refine VC.cond_f rfl ?_
        refine VC.skip ?_
        refine VN.then ?_
        refine VC.seq ?_
        refine VC.region ?_
        refine VL.va (op_move rfl (ltn rfl)) rfl ?_
        replace h := Option.bind_eq_some_iff.1 h
        obtain ⟨r1994, hA1995, h⟩ := h
        refine VL.sC (o_call_b0 FO25 (slices_Clone_api_Row_api_Row.ok l0 v0 r1994 hA1995) rfl rfl (ltn rfl) (All_of (.cons (.inl (List.mem_of_getElem? (i := 0) rfl)) .nil)) (by rintro _ _ _ ⟨_, rfl, rfl, rfl⟩; rfl)) rfl ?_
        rintro v1997 _ _ ⟨_, rfl, rfl, rfl⟩
        refine VL.va (op_assign rfl (ltn rfl)) rfl ?_
        refine VL.done ?_
        refine VN.then ?_
        refine VC.seq ?_
        refine VC.region ?_
        refine VL.va (op_move rfl (ltn rfl)) rfl ?_
        refine VL.va (op_move rfl (ltn rfl)) rfl ?_
        refine VL.va (op_move rfl (ltn rfl)) rfl ?_
        by_cases c1998 : 0 ≤ t1986
        · rw [if_pos c1998] at h
          replace h := Option.bind_eq_some_iff.1 h
          obtain ⟨x1999, hx1999, h⟩ := h
          refine VL.openR (m := r1994.length) 0 lenm rfl (pos_get hx1999) ?_
          rintro g2000 n2001 rfl
          refine VL.va (op_indexAddr Try.underlying23 TI33 rfl rfl c1998 (lt_get c1998 hx1999) (add_zero_at _ _) (ltn rfl)) rfl ?_
          replace h := Option.bind_eq_some_iff.1 h
          obtain ⟨_, hA2002, h⟩ := h
          refine VL.sC (o_call0 FO29 (stock_Hold_1.ok (⟨g2000, t1986.toNat * 6, none⟩ : Addr) hA2002) rfl rfl (ltn rfl) (All_of .nil)) rfl ?_
          rintro _ _ _ ⟨rfl, rfl, rfl⟩
          refine VL.va (op_move rfl (ltn rfl)) rfl ?_
          refine VL.va (op_extract rfl rfl (ltn rfl)) rfl ?_
          refine VL.va (op_extract rfl rfl (ltn rfl)) rfl ?_
          refine VL.va (op_assign rfl (ltn rfl)) rfl ?_
          refine VL.va (op_assign rfl (ltn rfl)) rfl ?_
          refine VL.done ?_
          refine VN.then ?_
          refine VC.seq ?_
          refine VC.seq ?_
          refine VC.region ?_
          refine VL.va (op_move rfl (ltn rfl)) rfl ?_
          refine VL.va (op_nilCheck rfl (ltn rfl)) rfl ?_
          refine VL.va (op_load_own (sz := 6) (o := 2) 0 t1986.toNat 1 rfl rfl (get_map hx1999) TI3 rfl (by decide) (ltn rfl)) rfl ?_
          refine VL.va (op_move rfl (ltn rfl)) rfl ?_
          refine VL.letter (decide (x1999.f2 < a2)) fun b2006 hb2006 => ?_
          refine VL.va (op_cmp rfl rfl (congrArg some hb2006) (ltn rfl)) rfl ?_
          refine VL.done ?_
          refine VN.then ?_
          by_cases c2007 : x1999.f2 < a2
          · rw [if_pos c2007] at h
            obtain rfl : b2006 = true := hb2006.symm.trans (decide_eq_true c2007)
            refine VC.cond_t rfl ?_
            refine VC.seq ?_
            refine VC.region ?_
            refine VL.va (op_assign rfl (ltn rfl)) rfl ?_
            refine VL.va (op_assign rfl (ltn rfl)) rfl ?_
            refine VL.done ?_
            refine VN.then ?_
            refine VC.ret ?_
            refine VR.then ?_
            simp only [Option.some.injEq, Prod.mk.injEq] at h
            obtain ⟨rfl, rfl⟩ := h
            refine VR.nilRow' 33 6 ?_
            exact VR.fn (rs := [.tmp 8, .tmp 9]) [] [((.slice none 0 0), 33, 6, ([] : List S32).map enc32)] [0] rfl (.tmp rfl (.tmp rfl .nil)) ⟨(.slice none 0 0), rfl, rfl, rfl⟩ trivial rfl (by decide)
          · rw [if_neg c2007] at h
            obtain rfl : b2006 = false := hb2006.symm.trans (decide_eq_false c2007)
            refine VC.cond_f rfl ?_
            refine VC.skip ?_
            refine VN.then ?_
            refine VC.seq ?_
            refine VC.region ?_
            refine VL.va (op_move rfl (ltn rfl)) rfl ?_
            refine VL.va (op_nilCheck rfl (ltn rfl)) rfl ?_
            refine VL.va (op_load_own (sz := 6) (o := 2) 0 t1986.toNat 1 rfl rfl (get_map hx1999) TI3 rfl (by decide) (ltn rfl)) rfl ?_
            refine VL.va (op_move rfl (ltn rfl)) rfl ?_
            refine VL.va (op_ari64 rfl rfl rfl (ltn rfl)) rfl ?_
            refine VL.va (op_nilCheck rfl (ltn rfl)) rfl ?_
            refine VL.step1 (o_store_own (sz := 6) (o := 2) (es3 := List.map enc32 (r1994.set t1986.toNat (⟨x1999.f0, x1999.f1, wrap64 (x1999.f2 - a2), x1999.f3, x1999.f4, x1999.f5⟩ : S32))) 0 t1986.toNat 1 lenm (setm rfl) rfl rfl rfl (get_map hx1999) TI3 (.c rfl) rfl (len rfl)) rfl ?_
            refine VL.done ?_
            refine VN.then ?_
            refine VC.seq ?_
            refine VC.region ?_
            refine VL.va (op_move rfl (ltn rfl)) rfl ?_
            refine VL.va (op_nilCheck rfl (ltn rfl)) rfl ?_
            refine VL.va (op_load_own (sz := 6) (o := 3) 0 t1986.toNat 1 rfl rfl (get_map (set_get hx1999)) TI3 rfl (by decide) (ltn rfl)) rfl ?_
            refine VL.va (op_move rfl (ltn rfl)) rfl ?_
            refine VL.va (op_ari64 rfl rfl rfl (ltn rfl)) rfl ?_
            refine VL.va (op_nilCheck rfl (ltn rfl)) rfl ?_
            refine VL.step1 (o_store_own (sz := 6) (o := 3) (es3 := List.map enc32 ((r1994.set t1986.toNat (⟨x1999.f0, x1999.f1, wrap64 (x1999.f2 - a2), x1999.f3, x1999.f4, x1999.f5⟩ : S32)).set t1986.toNat (⟨x1999.f0, x1999.f1, wrap64 (x1999.f2 - a2), wrap64 (x1999.f3 + a2), x1999.f4, x1999.f5⟩ : S32))) 0 t1986.toNat 1 (by simp) (setm rfl) rfl rfl rfl (get_map (set_get hx1999)) TI3 (.c rfl) rfl (len rfl)) rfl ?_
            refine VL.done ?_
            refine VN.then ?_
            refine VC.seq ?_
            refine VC.region ?_
            refine VL.va (op_move rfl (ltn rfl)) rfl ?_
            refine VL.va (op_assign rfl (ltn rfl)) rfl ?_
            refine VL.va (op_assign rfl (ltn rfl)) rfl ?_
            refine VL.done ?_
            refine VN.then ?_
            refine VC.ret ?_
            simp only [Option.some.injEq, Prod.mk.injEq] at h
            obtain ⟨rfl, rfl⟩ := h
            exact VR.fn (rs := [.tmp 8, .tmp 9]) [] [((.slice (some ⟨g2000, 0, none⟩) r1994.length n2001), 33, 6, ((r1994.set t1986.toNat (⟨x1999.f0, x1999.f1, wrap64 (x1999.f2 - a2), x1999.f3, x1999.f4, x1999.f5⟩ : S32)).set t1986.toNat (⟨x1999.f0, x1999.f1, wrap64 (x1999.f2 - a2), wrap64 (x1999.f3 + a2), x1999.f4, x1999.f5⟩ : S32)).map enc32)] [0] rfl (.tmp rfl (.tmp rfl .nil)) ⟨(.slice (some ⟨g2000, 0, none⟩) r1994.length n2001), rfl, rfl, rfl⟩ trivial rfl (by decide)
        · rw [if_neg c1998] at h; cases h
      · rw [if_neg c1993] at h
        obtain rfl := Bool.eq_false_iff.2 c1993
        refine VL.va (op_not rfl rfl (ltn rfl)) rfl ?_
        refine VL.done ?_
        refine VN.then ?_
        refine VC.cond_t rfl ?_
        refine VC.seq ?_
        refine VC.region ?_
        refine VL.va (op_assign rfl (ltn rfl)) rfl ?_
        refine VL.va (op_assign rfl (ltn rfl)) rfl ?_
        refine VL.done ?_
        refine VN.then ?_
        refine VC.ret ?_
        refine VR.then ?_
        simp only [Option.some.injEq, Prod.mk.injEq] at h
        obtain ⟨rfl, rfl⟩ := h
        refine VR.nilRow' 33 6 ?_
        exact VR.fn (rs := [.tmp 8, .tmp 9]) [] [((.slice none 0 0), 33, 6, ([] : List S32).map enc32)] [0] rfl (.tmp rfl (.tmp rfl .nil)) ⟨(.slice none 0 0), rfl, rfl, rfl⟩ trivial rfl (by decide)
    · rw [if_neg c1985] at h
      obtain rfl := Bool.eq_false_iff.2 c1985
      refine VL.va (op_not rfl rfl (ltn rfl)) rfl ?_
      refine VL.va (op_pick rfl rfl (ltn rfl)) rfl ?_
      refine VL.done ?_
      refine VN.then ?_
      refine VC.cond_t rfl ?_
      refine VC.seq ?_
      refine VC.region ?_
      refine VL.va (op_assign rfl (ltn rfl)) rfl ?_
      refine VL.va (op_assign rfl (ltn rfl)) rfl ?_
      refine VL.done ?_
      refine VN.then ?_
      refine VC.ret ?_
      refine VR.then ?_
      simp only [Option.some.injEq, Prod.mk.injEq] at h
      obtain ⟨rfl, rfl⟩ := h
      refine VR.nilRow' 33 6 ?_
      exact VR.fn (rs := [.tmp 8, .tmp 9]) [] [((.slice none 0 0), 33, 6, ([] : List S32).map enc32)] [0] rfl (.tmp rfl (.tmp rfl .nil)) ⟨(.slice none 0 0), rfl, rfl, rfl⟩ trivial rfl (by decide)
  · rw [if_neg c1982] at h
    obtain rfl := Bool.eq_false_iff.2 c1982
    refine VL.va (op_not rfl rfl (ltn rfl)) rfl ?_
    refine VL.va (op_move rfl (ltn rfl)) rfl ?_
    refine VL.un rfl rfl (ltn rfl) ?_
    refine VL.un rfl rfl (ltn rfl) ?_
    refine VL.un rfl rfl (ltn rfl) ?_
    refine VL.va (op_pick rfl rfl (ltn rfl)) rfl ?_
    refine VL.done ?_
    refine VN.then ?_
    refine VC.cond_t rfl ?_
    refine VC.seq ?_
    refine VC.region ?_
    refine VL.va (op_assign rfl (ltn rfl)) rfl ?_
    refine VL.va (op_assign rfl (ltn rfl)) rfl ?_
    refine VL.done ?_
    refine VN.then ?_
    refine VC.ret ?_
    refine VR.then ?_
    simp only [Option.some.injEq, Prod.mk.injEq] at h
    obtain ⟨rfl, rfl⟩ := h
    refine VR.nilRow' 33 6 ?_
    exact VR.fn (rs := [.tmp 8, .tmp 9]) [] [((.slice none 0 0), 33, 6, ([] : List S32).map enc32)] [0] rfl (.tmp rfl (.tmp rfl .nil)) ⟨(.slice none 0 0), rfl, rfl, rfl⟩ trivial rfl (by decide)
set_option maxHeartbeats 4000000 in
set_option maxRecDepth 100000 in
theorem stock_Hold.ok (k : Nat) (l0 : List S32) (a1 : ByteArray) (a2 : Int) (v0 : Value) (r1 : List S32) (r2 : Int) (h : stock_Hold.f k l0 a1 a2 = some (r1, r2)) :
    VCalls Try.prog 13 [v0, .string a1, .int .i64 a2] [.row v0 6 (l0.map enc32)] (fun v G own => ∃ w0 : Value, v = .tuple #[w0, .int .i64 r2] ∧ G = [] ∧ own = [(w0, 33, 6, r1.map enc32)]) := by
  refine VCalls.intro Try.func13 rfl (len rfl) fun E hC => ?_
  unfold stock_Hold.f at h
  refine VC.seq ?_
  refine VC.region ?_
  refine VL.va (op_assign rfl (ltn rfl)) rfl ?_
  refine VL.va (op_assign rfl (ltn rfl)) rfl ?_
  refine VL.done ?_
  refine VN.then ?_
  refine VC.seq ?_
  refine VC.region ?_
  refine VL.va (op_move rfl (ltn rfl)) rfl ?_
  refine VL.va (op_move rfl (ltn rfl)) rfl ?_
  refine VL.va (op_move rfl (ltn rfl)) rfl ?_
  replace h := Option.bind_eq_some_iff.1 h
  obtain ⟨⟨r2016, t2017⟩, hA2018, h⟩ := h
  dsimp only at h
  refine VL.sC (o_call0 FO28 (stock_move.ok k l0 a1 a2 v0 r2016 t2017 hA2018) rfl rfl (ltn rfl) (All_of (.cons (List.mem_of_getElem? (i := 0) rfl) .nil))) rfl ?_
  rintro _ _ _ ⟨v2020, rfl, rfl, rfl⟩
  refine VL.va (op_extract rfl rfl (ltn rfl)) rfl ?_
  refine VL.va (op_extract rfl rfl (ltn rfl)) rfl ?_
  refine VL.va (op_assign rfl (ltn rfl)) rfl ?_
  refine VL.va (op_assign rfl (ltn rfl)) rfl ?_
  refine VL.done ?_
  refine VN.then ?_
  refine VC.ret ?_
  simp only [Option.some.injEq, Prod.mk.injEq] at h
  obtain ⟨rfl, rfl⟩ := h
  exact VR.fn (rs := [.tmp 6, .tmp 7]) [] [(v2020, 33, 6, r2016.map enc32)] [0] rfl (.tmp rfl (.tmp rfl .nil)) ⟨v2020, rfl, rfl, rfl⟩ trivial rfl (by decide)

end Go.Proofs.Ytibpoajlnloloaa.PStockApart
