/- Written by a program of this repo: what the program's functions do, each as a Lean function, shown of the loaded code; or a statement's row over that; no condition of its own. -/
import Derived.Test.YtmcfgahjchkgaaaPTimerPassesx2
namespace Go.Proofs.Ytmcfgahjchkgaaa.PTimerPasses
open Go Go.RowKit Go.Proofs.YtmcfgahjchkgaaaV
set_option linter.unusedVariables false
set_option linter.unusedSimpArgs false

set_option maxHeartbeats 4000000 in
set_option maxRecDepth 100000 in
theorem slices_Insert_api_Timer_api_Timer.ok (l0 : List S23) (a1 : Int) (l2 : List S23) (v0 v2 : Value) (r1 : List S23) (h : slices_Insert_api_Timer_api_Timer.f l0 a1 l2 = some r1) :
    VOwn Try.prog 24 [v0, .int .i64 a1, v2] (v0, 24, 3, l0.map enc23) [.row v2 3 (l2.map enc23), .lent v2 24 3 (l2.map enc23)] (fun q x' => x' = (q, 24, 3, r1.map enc23)) := by
  unfold slices_Insert_api_Timer_api_Timer.f at h
  by_cases hc : ¬ (0 ≤ a1 ∧ a1 ≤ (l0.length : Int) ∧ (l0.length + l2.length) * 24 ≤ 140737488355328)
  · rw [if_neg hc] at h; cases h
  replace hc := Decidable.not_not.1 hc
  rw [if_pos hc] at h
  obtain rfl := Option.some.inj h
  obtain ⟨h0, hle, hbig⟩ := hc
  clear h
  obtain ⟨i, rfl⟩ : ∃ i : Nat, a1 = (i : Int) := ⟨a1.toNat, by omega⟩
  have hi : i ≤ l0.length := by omega
  have hsm : l0.length + l2.length ≤ 140737488355328 := by omega
  simp only [Int.toNat_natCast]
  refine VOwn.intro Try.func24 rfl (len rfl) fun E fr => ?_
  refine VC.formR 0 rfl fun A cap hv hcap => ?_
  rw [lenm] at hv hcap
  subst hv
  refine VC.seq (VC.region ?_)
  refine VL.va (op_assign rfl (ltn rfl)) rfl ?_
  refine VL.done (VN.then ?_)
  refine VC.seq (VC.region ?_)
  refine VL.va (op_move rfl (ltn rfl)) rfl ?_
  refine VL.va (op_move rfl (ltn rfl)) rfl ?_
  refine VL.va (op_cutV (l := i) (h := l0.length) Try.underlying22 TI24 rfl ⟨⟨_, _, rfl, h0, Int.toNat_natCast i⟩, rfl, hi, Nat.le_refl _⟩ hcap (ltn rfl)) rfl ?_
  refine VL.done (VN.then ?_)
  refine VC.seq (VC.region ?_)
  refine VL.va (op_move rfl (ltn rfl)) rfl ?_
  refine VL.va (op_len (m := l2.length) 0 lenm Try.underlying22 rfl rfl (ltn rfl)) rfl ?_
  refine VL.va (op_assign rfl (ltn rfl)) rfl ?_
  refine VL.done (VN.then ?_)
  refine VC.seq ?_
  refine VC.seq (VC.region ?_)
  refine VL.va (op_move rfl (ltn rfl)) rfl ?_
  refine VL.letter ((l2.length : Int) == 0) fun b3 hb3 => ?_
  refine VL.va (op_cmp rfl rfl (congrArg some hb3) (ltn rfl)) rfl ?_
  refine VL.done (VN.then ?_)
  by_cases c3 : l2.length = 0
  · have : b3 = true := by rw [← hb3]; simpa using c3
    subst this
    clear hb3
    refine VC.cond_t rfl ?_
    refine VC.seq (VC.region ?_)
    refine VL.va (op_move rfl (ltn rfl)) rfl ?_
    refine VL.va (op_assign rfl (ltn rfl)) rfl ?_
    refine VL.done (VN.then ?_)
    refine VC.ret (VR.then ?_)
    have e2 : l2 = [] := List.eq_nil_of_length_eq_zero c3
    refine VR.own (rs := [.tmp 6]) 0 [.row v2 3 (l2.map enc23), .lent v2 24 3 (l2.map enc23)] rfl (.tmp rfl .nil) rfl ?_ rfl id
    rw [e2, List.append_nil, List.take_append_drop]
    rfl
  have : b3 = false := by rw [← hb3]; simpa using c3
  subst this
  clear hb3
  refine VC.cond_f rfl (VC.skip (VN.then ?_))
  refine VC.openLent 1 rfl (by rw [lenm]; omega) ?_
  rintro vb c2 rfl
  rw [lenm]
  refine VC.seq (VC.region ?_)
  refine VL.va (op_move rfl (ltn rfl)) rfl ?_
  refine VL.va (op_lenV Try.underlying22 rfl (ltn rfl)) rfl ?_
  refine VL.va (op_assign rfl (ltn rfl)) rfl ?_
  refine VL.done (VN.then ?_)
  refine VC.seq ?_
  refine VC.seq (VC.region ?_)
  refine VL.va (op_move rfl (ltn rfl)) rfl ?_
  refine VL.va (op_move rfl (ltn rfl)) rfl ?_
  refine VL.letter ((i : Int) == (l0.length : Int)) fun b6 hb6 => ?_
  refine VL.va (op_cmp rfl rfl (congrArg some hb6) (ltn rfl)) rfl ?_
  refine VL.done (VN.then ?_)
  by_cases c6 : i = l0.length
  · have : b6 = true := by rw [← hb6]; simp [c6]
    subst this
    clear hb6
    refine VC.cond_t rfl ?_
    refine VC.seq (VC.region ?_)
    refine VL.va (op_move rfl (ltn rfl)) rfl ?_
    refine VL.va (op_move rfl (ltn rfl)) rfl ?_
    refine VL.sG (o_append 0 appm Try.underlying22 EI24 rfl rfl rfl (.inl ⟨0, rfl⟩) (bndm hbig) (ltn rfl)) rfl ?_
    intro v7
    refine VL.va (op_assign rfl (ltn rfl)) rfl ?_
    refine VL.done (VN.then ?_)
    refine VC.ret (VR.then ?_)
    refine VR.someR 0 rfl (by rw [lenm, List.length_append]; omega) fun hs7 => ?_
    refine VR.own (rs := [.tmp 6]) 0 [.row (.slice (some ⟨vb, 0, none⟩) l2.length c2) 3 (l2.map enc23), .lent (.slice (some ⟨vb, 0, none⟩) l2.length c2) 24 3 (l2.map enc23)] rfl (.tmp rfl .nil) rfl ?_ rfl (fun _ => hs7)
    rw [c6, List.take_length, List.drop_length, List.append_nil]
    rfl
  have : b6 = false := by rw [← hb6]; simpa using fun e => c6 (by omega)
  subst this
  clear hb6
  have hin : i < l0.length := by omega
  refine VC.cond_f rfl (VC.skip (VN.then ?_))
  refine VC.openBox 0 rfl (by rw [lenm]; omega) fun g cap' cur hv hcap' hmx hlen htake hfl => ?_
  rw [lenm] at hv hcap' htake
  obtain ⟨rfl, -, rfl⟩ := Value.slice.inj hv
  clear hv hcap'
  refine VC.lentNe 0 1 rfl rfl fun hne => ?_
  have hflv : flatOk 3 (l2.map enc23) := flat_map enc23_ok l2
  have hvl : (l2.map enc23).flatten.length = l2.length * 3 := by rw [flat_len hflv, lenm]
  have hd : ((cur.drop (i * 3)).take ((l0.length - i) * 3)).length = (l0.length - i) * 3 := by rw [List.length_take, List.length_drop, hlen]; omega
  have h1c : ∀ u ∈ (cur.drop (i * 3)).take ((l0.length - i) * 3), u.oneCell' = true := by
    intro u hu
    have e : (cur.drop (i * 3)).take ((l0.length - i) * 3) = (cur.take (l0.length * 3)).drop (i * 3) := by
      rw [List.drop_take]
      congr 1
      omega
    rw [e, htake] at hu
    exact flat_one hfl u (List.mem_of_mem_drop hu)
  have hfin : ((l0.take i ++ l2 ++ l0.drop i).map enc23).flatten = (cur.take (l0.length * 3)).take (i * 3) ++ (l2.map enc23).flatten ++ (cur.take (l0.length * 3)).drop (i * 3) := by
    rw [htake, List.map_append, List.map_append, List.flatten_append, List.flatten_append, List.map_take, List.map_drop, flat_take i hfl, flat_drop i hfl]
  have hfll : (l0.take i ++ l2 ++ l0.drop i).length = l0.length + l2.length := by simp only [List.length_append, List.length_take, List.length_drop]; omega
  refine VC.seq ?_
  refine VC.seq (VC.region ?_)
  refine VL.va (op_move rfl (ltn rfl)) rfl ?_
  refine VL.va (op_move rfl (ltn rfl)) rfl ?_
  refine VL.va (op_ari64 (q := ((l0.length + l2.length : Nat) : Int)) rfl rfl (congrArg some (w64 (by omega) (by omega))) (ltn rfl)) rfl ?_
  refine VL.va (op_move rfl (ltn rfl)) rfl ?_
  refine VL.va (op_cap Try.underlying22 rfl (ltn rfl)) rfl ?_
  refine VL.letter (decide (((l0.length + l2.length : Nat) : Int) > (cap : Int))) fun b8 hb8 => ?_
  refine VL.va (op_cmp rfl rfl (congrArg some hb8) (ltn rfl)) rfl ?_
  refine VL.done (VN.then ?_)
  by_cases c8 : cap < l0.length + l2.length
  · have : b8 = true := by rw [← hb8]; simp; omega
    subst this
    clear hb8
    refine VC.cond_t rfl ?_
    refine VC.seq (VC.region ?_)
    refine VL.va (op_move rfl (ltn rfl)) rfl ?_
    refine VL.va (op_move rfl (ltn rfl)) rfl ?_
    refine VL.va (op_cutH' 0 i (v := .slice (some ⟨g, 0, none⟩) i cap) (by rw [cutV_at0 (.inr rfl)]; simp) Try.underlying22 TI24 rfl ⟨rfl, ⟨_, _, rfl, h0, Int.toNat_natCast i⟩, Nat.zero_le _, by omega⟩ (ltn rfl)) rfl ?_
    refine VL.va (op_move rfl (ltn rfl)) rfl ?_
    refine VL.va (op_move rfl (ltn rfl)) rfl ?_
    refine VL.va (op_ari64 (q := ((l0.length + l2.length : Nat) : Int)) rfl rfl (congrArg some (w64 (by omega) (by omega))) (ltn rfl)) rfl ?_
    refine VL.va (op_move rfl (ltn rfl)) rfl ?_
    refine VL.va (op_ari64 (q := ((l0.length + l2.length - i : Nat) : Int)) rfl rfl (congrArg some (w64 (by omega) (by omega))) (ltn rfl)) rfl ?_
    refine o_appendZ 0 Try.underlying22 Try.underlying3 EI24 rfl rfl rfl (olds := cur.take (i * 3)) (by rw [List.drop_zero]) (by rw [List.length_take, hlen]; omega) (by omega) (by omega) (by omega) (by rw [show i + (l0.length + l2.length - i) = l0.length + l2.length by omega]; exact hbig) (ltn rfl) rfl fun g2 cap2 tail hc2 hm2 ht2 => ?_
    rw [show i + (l0.length + l2.length - i) = l0.length + l2.length by omega] at hc2 ⊢
    refine VL.va (op_assign rfl (ltn rfl)) rfl ?_
    refine VL.done (VN.then ?_)
    refine VC.seq (VC.region ?_)
    refine VL.va (op_move rfl (ltn rfl)) rfl ?_
    refine VL.va (op_move rfl (ltn rfl)) rfl ?_
    refine VL.va (op_cutV' i (l0.length + l2.length) (cutV_at0 (by omega)) Try.underlying22 TI24 rfl ⟨⟨_, _, rfl, h0, Int.toNat_natCast i⟩, rfl, by omega, Nat.le_refl _⟩ hc2 (ltn rfl)) rfl ?_
    refine VL.va (op_move rfl (ltn rfl)) rfl ?_
    have hol : (cur.take (i * 3) ++ tail).length = cap2 * 3 := by rw [List.length_append, List.length_take, hlen, ht2]; omega
    have hol2 : (upd (cur.take (i * 3) ++ tail) (i * 3) (l2.map enc23).flatten).length = cap2 * 3 := by rw [upd_len, hol]; rw [hvl, hol]; omega
    refine VL.step1 (o_copy (m := l2.length) 0 Try.underlying22 TI24 rfl rfl rfl (by omega) hvl (by rw [hvl, hol]; omega) (src_row 0 rfl) (flat_one hflv) rfl (ltn rfl)) rfl ?_
    refine VL.done (VN.then ?_)
    refine VC.seq ?_
    refine VC.draw ⟨0, [], [], [], []⟩ (by kernel_rfl) rfl (by kernel_rfl) (n := 9) (listed := LB 9 0) ?_
    refine VA.va (i := 0) (listed' := LB 9 1) rfl (op_move rfl (ltn rfl)) rfl (by kernel_rfl) (by kernel_rfl) (by kernel_rfl) (by kernel_rfl) ⟨trivial, trivial, trivial⟩ (fun _ _ _ h => h) ?_
    refine VA.va (i := 1) (listed' := LB 9 3) rfl (op_move rfl (ltn rfl)) rfl (by kernel_rfl) (by kernel_rfl) (by kernel_rfl) (by kernel_rfl) ⟨trivial, trivial, trivial⟩ (fun _ _ _ h => h) ?_
    refine VA.va (i := 2) (listed' := LB 9 7) rfl (op_move rfl (ltn rfl)) rfl (by kernel_rfl) (by kernel_rfl) (by kernel_rfl) (by kernel_rfl) ⟨trivial, trivial, trivial⟩ (fun _ _ _ h => h) ?_
    refine VA.va (i := 3) (listed' := LB 9 15) rfl (op_ari64 (q := ((i + l2.length : Nat) : Int)) rfl rfl (congrArg some (w64 (by omega) (by omega))) (ltn rfl)) rfl (by kernel_rfl) (by kernel_rfl) (by kernel_rfl) (by kernel_rfl) ⟨trivial, trivial, trivial⟩ (fun _ _ _ h => h) ?_
    refine VA.va (i := 4) (listed' := LB 9 31) rfl (op_cutV' (i + l2.length) (l0.length + l2.length) (cutV_at0 (by omega)) Try.underlying22 TI24 rfl ⟨⟨_, _, rfl, by omega, Int.toNat_natCast _⟩, rfl, by omega, Nat.le_refl _⟩ hc2 (ltn rfl)) rfl (by kernel_rfl) (by kernel_rfl) (by kernel_rfl) (by kernel_rfl) ⟨trivial, trivial, trivial⟩ (fun _ _ _ h => h) ?_
    refine VA.va (i := 5) (listed' := LB 9 63) rfl (op_move rfl (ltn rfl)) rfl (by kernel_rfl) (by kernel_rfl) (by kernel_rfl) (by kernel_rfl) ⟨trivial, trivial, trivial⟩ (fun _ _ _ h => h) ?_
    refine VA.va (i := 6) (listed' := LB 9 127) rfl (op_move rfl (ltn rfl)) rfl (by kernel_rfl) (by kernel_rfl) (by kernel_rfl) (by kernel_rfl) ⟨trivial, trivial, trivial⟩ (fun _ _ _ h => h) ?_
    refine VA.va (i := 7) (listed' := LB 9 255) rfl (op_cutV' i l0.length (cutV_at0 (by omega)) Try.underlying22 TI24 rfl ⟨⟨_, _, rfl, by omega, Int.toNat_natCast _⟩, rfl, by omega, Nat.le_refl _⟩ hcap (ltn rfl)) rfl (by kernel_rfl) (by kernel_rfl) (by kernel_rfl) (by kernel_rfl) ⟨trivial, trivial, trivial⟩ (fun _ _ _ h => h) ?_
    refine VA.one1 (i := 8) (listed' := LB 9 511) (by kernel_rfl) rfl (o_copy (m := l0.length - i) (cs := (cur.drop (i * 3)).take ((l0.length - i) * 3)) 0 Try.underlying22 TI24 rfl rfl rfl (by omega) hd (by rw [hd, hol2]; omega) (src_box ((l0.length - i) * 3) 1 rfl rfl) h1c rfl (ltn rfl)) rfl (by kernel_rfl) ⟨trivial, trivial, trivial⟩ ?_
    refine VA.done (by kernel_rfl) (VN.then ?_)
    refine VC.seq (VC.region ?_)
    refine VL.va (op_move rfl (ltn rfl)) rfl ?_
    refine VL.va (op_assign rfl (ltn rfl)) rfl ?_
    refine VL.done (VN.then ?_)
    refine VC.ret (VR.then ?_)
    refine VR.closeBox 0 cap2 3 ((l0.take i ++ l2 ++ l0.drop i).map enc23) rfl (by rw [lenm, hfll]; exact hc2) hm2 (by rw [upd_len, hol2]; rw [hd, hol2]; omega) ?_ (flat_map enc23_ok _) ?_
    · rw [lenm, hfll, hfin, Nat.add_mul, Nat.add_mul]
      exact ins_grow (by rw [hlen]; omega) (by omega) hvl (by rw [← Nat.sub_mul])
    rw [lenm, hfll]
    exact VR.own (rs := [.tmp 6]) 0 [.row (.slice (some ⟨vb, 0, none⟩) l2.length c2) 3 (l2.map enc23), .lent (.slice (some ⟨vb, 0, none⟩) l2.length c2) 24 3 (l2.map enc23)] rfl (.tmp rfl .nil) rfl rfl rfl (fun _ => rfl)
  have : b8 = false := by rw [← hb8]; simp; omega
  subst this
  clear hb8
  refine VC.cond_f rfl (VC.skip (VN.then ?_))
  refine VC.seq (VC.region ?_)
  refine VL.va (op_move rfl (ltn rfl)) rfl ?_
  refine VL.va (op_move rfl (ltn rfl)) rfl ?_
  refine VL.va (op_move rfl (ltn rfl)) rfl ?_
  refine VL.va (op_ari64 (q := ((l0.length + l2.length : Nat) : Int)) rfl rfl (congrArg some (w64 (by omega) (by omega))) (ltn rfl)) rfl ?_
  refine VL.va (op_cutH' 0 (l0.length + l2.length) (v := .slice (some ⟨g, 0, none⟩) (l0.length + l2.length) cap) (by rw [cutV_at0 (.inr rfl)]; simp) Try.underlying22 TI24 rfl ⟨rfl, ⟨_, _, rfl, by omega, Int.toNat_natCast _⟩, Nat.zero_le _, by omega⟩ (ltn rfl)) rfl ?_
  refine VL.va (op_assign rfl (ltn rfl)) rfl ?_
  refine VL.done (VN.then ?_)
  have hcur1 : (upd cur ((i + l2.length) * 3) ((cur.drop (i * 3)).take ((l0.length - i) * 3))).length = cap * 3 := by rw [upd_len, hlen]; rw [hd, hlen]; omega
  refine VC.seq ?_
  refine VC.seq ?_
  refine VC.region ?_
  refine VL.va (op_move rfl (ltn rfl)) rfl ?_
  refine VL.va (op_move rfl (ltn rfl)) rfl ?_
  refine VL.va (op_move rfl (ltn rfl)) rfl ?_
  refine VL.va (op_move rfl (ltn rfl)) rfl ?_
  refine VL.va (op_ari64 (q := ((i + l2.length : Nat) : Int)) rfl rfl (congrArg some (w64 (by omega) (by omega))) (ltn rfl)) rfl ?_
  refine VL.va (op_cutV' (i + l2.length) (l0.length + l2.length) (cutV_at0 (by omega)) Try.underlying22 TI24 rfl ⟨⟨_, _, rfl, by omega, Int.toNat_natCast _⟩, rfl, by omega, Nat.le_refl _⟩ (by omega) (ltn rfl)) rfl ?_
  refine VL.va (op_call_ext rfl rfl (ltn rfl) (fun w hm => run_overlaps (tb := 4) (j := 1) 0 Try.func32 (by kernel_rfl) (by kernel_rfl) (by kernel_rfl) (by kernel_rfl) Try.underlying22 TI24 rfl rfl (by rw [hlen]; omega) hne w hm)) rfl ?_
  refine VL.va (op_not rfl rfl (ltn rfl)) rfl ?_
  refine VL.done (VN.then ?_)
  refine VC.cond_t rfl ?_
  refine VC.seq ?_
  refine VC.draw ⟨0, [], [], [], []⟩ (by kernel_rfl) rfl (by kernel_rfl) (n := 9) (listed := LB 9 0) ?_
  refine VA.va (i := 0) (listed' := LB 9 1) rfl (op_move rfl (ltn rfl)) rfl (by kernel_rfl) (by kernel_rfl) (by kernel_rfl) (by kernel_rfl) ⟨trivial, trivial, trivial⟩ (fun _ _ _ h => h) ?_
  refine VA.va (i := 1) (listed' := LB 9 3) rfl (op_move rfl (ltn rfl)) rfl (by kernel_rfl) (by kernel_rfl) (by kernel_rfl) (by kernel_rfl) ⟨trivial, trivial, trivial⟩ (fun _ _ _ h => h) ?_
  refine VA.va (i := 2) (listed' := LB 9 7) rfl (op_move rfl (ltn rfl)) rfl (by kernel_rfl) (by kernel_rfl) (by kernel_rfl) (by kernel_rfl) ⟨trivial, trivial, trivial⟩ (fun _ _ _ h => h) ?_
  refine VA.va (i := 3) (listed' := LB 9 15) rfl (op_ari64 (q := ((i + l2.length : Nat) : Int)) rfl rfl (congrArg some (w64 (by omega) (by omega))) (ltn rfl)) rfl (by kernel_rfl) (by kernel_rfl) (by kernel_rfl) (by kernel_rfl) ⟨trivial, trivial, trivial⟩ (fun _ _ _ h => h) ?_
  refine VA.va (i := 4) (listed' := LB 9 31) rfl (op_cutV' (i + l2.length) (l0.length + l2.length) (cutV_at0 (by omega)) Try.underlying22 TI24 rfl ⟨⟨_, _, rfl, by omega, Int.toNat_natCast _⟩, rfl, by omega, Nat.le_refl _⟩ (by omega) (ltn rfl)) rfl (by kernel_rfl) (by kernel_rfl) (by kernel_rfl) (by kernel_rfl) ⟨trivial, trivial, trivial⟩ (fun _ _ _ h => h) ?_
  refine VA.va (i := 5) (listed' := LB 9 63) rfl (op_move rfl (ltn rfl)) rfl (by kernel_rfl) (by kernel_rfl) (by kernel_rfl) (by kernel_rfl) ⟨trivial, trivial, trivial⟩ (fun _ _ _ h => h) ?_
  refine VA.va (i := 6) (listed' := LB 9 127) rfl (op_move rfl (ltn rfl)) rfl (by kernel_rfl) (by kernel_rfl) (by kernel_rfl) (by kernel_rfl) ⟨trivial, trivial, trivial⟩ (fun _ _ _ h => h) ?_
  refine VA.va (i := 7) (listed' := LB 9 255) rfl (op_cutV' i (l0.length + l2.length) (cutV_at0 (by omega)) Try.underlying22 TI24 rfl ⟨⟨_, _, rfl, by omega, Int.toNat_natCast _⟩, rfl, by omega, Nat.le_refl _⟩ (by omega) (ltn rfl)) rfl (by kernel_rfl) (by kernel_rfl) (by kernel_rfl) (by kernel_rfl) ⟨trivial, trivial, trivial⟩ (fun _ _ _ h => h) ?_
  refine VA.one1 (i := 8) (listed' := LB 9 511) (by kernel_rfl) rfl (o_copy (m := l0.length - i) (cs := (cur.drop (i * 3)).take ((l0.length - i) * 3)) 0 Try.underlying22 TI24 rfl rfl rfl (by omega) hd (by rw [hd, hlen]; omega) (src_box ((l0.length - i) * 3) 0 rfl rfl) h1c rfl (ltn rfl)) rfl (by kernel_rfl) ⟨trivial, trivial, trivial⟩ ?_
  refine VA.done (by kernel_rfl) (VN.then ?_)
  refine VC.seq (VC.region ?_)
  refine VL.va (op_move rfl (ltn rfl)) rfl ?_
  refine VL.va (op_move rfl (ltn rfl)) rfl ?_
  refine VL.va (op_cutV' i (l0.length + l2.length) (cutV_at0 (by omega)) Try.underlying22 TI24 rfl ⟨⟨_, _, rfl, h0, Int.toNat_natCast i⟩, rfl, by omega, Nat.le_refl _⟩ (by omega) (ltn rfl)) rfl ?_
  refine VL.va (op_move rfl (ltn rfl)) rfl ?_
  refine VL.step1 (o_copy (m := l2.length) 0 Try.underlying22 TI24 rfl rfl rfl (by omega) hvl (by rw [hvl, hcur1]; omega) (src_row 0 rfl) (flat_one hflv) rfl (ltn rfl)) rfl ?_
  refine VL.done (VN.then ?_)
  refine VC.seq (VC.region ?_)
  refine VL.va (op_move rfl (ltn rfl)) rfl ?_
  refine VL.va (op_assign rfl (ltn rfl)) rfl ?_
  refine VL.done (VN.then ?_)
  refine VC.ret (VR.then ?_)
  refine VR.closeBox 0 cap 3 ((l0.take i ++ l2 ++ l0.drop i).map enc23) rfl (by rw [lenm, hfll]; omega) hmx (by rw [upd_len, hcur1]; rw [hvl, hcur1]; omega) ?_ (flat_map enc23_ok _) ?_
  · rw [lenm, hfll, hfin, Nat.add_mul, Nat.add_mul]
    exact ins_fits (by rw [hlen]; omega) (by omega) hvl (by rw [← Nat.sub_mul])
  rw [lenm, hfll]
  exact VR.own (rs := [.tmp 6]) 0 [.row (.slice (some ⟨vb, 0, none⟩) l2.length c2) 3 (l2.map enc23), .lent (.slice (some ⟨vb, 0, none⟩) l2.length c2) 24 3 (l2.map enc23)] rfl (.tmp rfl .nil) rfl rfl rfl (fun _ => rfl)
set_option maxHeartbeats 4000000 in
set_option maxRecDepth 100000 in
theorem timer_Set.ok (k : Nat) (l0 : List S23) (a1_0 : Int) (a1_1 : Int) (a1_2 : Int) (v0 : Value) (r1 : List S23) (r2 : Int) (h : timer_Set.f k l0 a1_0 a1_1 a1_2 = some (r1, r2)) :
    VCalls Try.prog 7 [v0, .agg #[.int .i64 a1_0, .int .i64 a1_1, .int .i64 a1_2]] [.row v0 3 (l0.map enc23)] (fun v G own => ∃ w0 : Value, v = .tuple #[w0, .int .i64 r2] ∧ G = [] ∧ own = [(w0, 24, 3, r1.map enc23)]) := by
  refine VCalls.intro Try.func7 rfl (len rfl) fun E hC => ?_
  unfold timer_Set.f at h
  refine VC.seq ?_
  refine VC.region ?_
  refine VL.sG (o_box rfl (.agg (.c rfl (.c rfl (.c rfl .nil)))) (ltn rfl)) rfl ?_
  intro g958
  refine VL.va (op_assign rfl (ltn rfl)) rfl ?_
  refine VL.va (op_assign rfl (ltn rfl)) rfl ?_
  refine VL.done ?_
  refine VN.then ?_
  refine VC.seq ?_
  refine VC.seq ?_
  refine VC.region ?_
  refine VL.va (op_move rfl (ltn rfl)) rfl ?_
  replace h := Option.bind_eq_some_iff.1 h
  obtain ⟨t979, hA980, h⟩ := h
  refine VL.sC (o_call0 FO11 (timer_Right.ok k l0 v0 t979 hA980) rfl rfl (ltn rfl) (All_of (.cons (List.mem_of_getElem? (i := 0) rfl) .nil))) rfl ?_
  rintro _ _ _ ⟨rfl, rfl, rfl⟩
  by_cases c981 : t979 = true
  · rw [if_pos c981] at h
    obtain rfl := c981
    refine VL.va (op_not rfl rfl (ltn rfl)) rfl ?_
    refine VL.va (op_move rfl (ltn rfl)) rfl ?_
    refine VL.va (op_load 0 3 rfl rfl TI24 rfl (fun h => absurd h (by decide)) (ltn rfl)) rfl ?_
    replace h := Option.bind_eq_some_iff.1 h
    obtain ⟨t982, hA983, h⟩ := h
    refine VL.sC (o_call0 FO19 (timer_may.ok a1_0 a1_1 a1_2 t982 hA983) rfl rfl (ltn rfl) (All_of .nil)) rfl ?_
    rintro _ _ _ ⟨rfl, rfl, rfl⟩
    by_cases c984 : t982 = true
    · rw [if_pos c984] at h
      obtain rfl := c984
      refine VL.va (op_not rfl rfl (ltn rfl)) rfl ?_
      refine VL.va (op_pick rfl rfl (ltn rfl)) rfl ?_
      refine VL.done ?_
      refine VN.then ?_
      refine VC.cond_f rfl ?_
      refine VC.skip ?_
      refine VN.then ?_
      refine VC.seq ?_
      refine VC.region ?_
      refine VL.va (op_move rfl (ltn rfl)) rfl ?_
      refine VL.va (op_fieldAddr FI24_1 rfl (add_at _ _ _) (ltn rfl)) rfl ?_
      refine VL.va (op_load 0 1 rfl rfl TI3 rfl (by decide) (ltn rfl)) rfl ?_
      refine VL.va (op_fieldAddr FI24_2 rfl (add_at _ _ _) (ltn rfl)) rfl ?_
      refine VL.va (op_load 0 1 rfl rfl TI3 rfl (by decide) (ltn rfl)) rfl ?_
      replace h := Option.bind_eq_some_iff.1 h
      obtain ⟨⟨t985, t986⟩, hA987, h⟩ := h
      dsimp only at h
      refine VL.sC (o_call0 FO21 (timer_of.ok a1_1 a1_2 t985 t986 hA987) rfl rfl (ltn rfl) (All_of .nil)) rfl ?_
      rintro _ _ _ ⟨g988, g989, rfl, rfl, rfl⟩
      replace h := Option.bind_eq_some_iff.1 h
      obtain ⟨⟨r1247, r1248⟩, hA1249, h⟩ := h
      dsimp only at h
      refine VL.sC (o_call0 FO20 (timer_parted_Timer_s15.ok k l0 t985 t986 v0 g988 g989 r1247 r1248 hA1249) rfl rfl (ltn rfl) (All_of (.cons (List.mem_of_getElem? (i := 2) rfl) (.cons (List.mem_of_getElem? (i := 0) rfl) (.cons (List.mem_of_getElem? (i := 1) rfl) .nil))))) rfl ?_
      rintro _ _ _ ⟨v1251, v1253, rfl, rfl, rfl⟩
      refine VL.va (op_move rfl (ltn rfl)) rfl ?_
      refine VL.va (op_extract rfl rfl (ltn rfl)) rfl ?_
      refine VL.va (op_extract rfl rfl (ltn rfl)) rfl ?_
      refine VL.va (op_assign rfl (ltn rfl)) rfl ?_
      refine VL.va (op_assign rfl (ltn rfl)) rfl ?_
      refine VL.done ?_
      refine VN.then ?_
      refine VC.seq ?_
      refine VC.seq ?_
      refine VC.region ?_
      refine VL.va (op_move rfl (ltn rfl)) rfl ?_
      refine VL.va (op_len_own (m := r1248.length) 1 lenm Try.underlying22 rfl rfl (ltn rfl)) rfl ?_
      refine VL.letter (((r1248.length : Int) == 96)) fun b1257 hb1257 => ?_
      refine VL.va (op_cmp rfl rfl (congrArg some hb1257) (ltn rfl)) rfl ?_
      refine VL.done ?_
      refine VN.then ?_
      by_cases c1258 : (r1248.length : Int) = 96
      · rw [if_pos c1258] at h
        obtain rfl : b1257 = true := hb1257.symm.trans (beq_iff_eq.2 c1258)
        refine VC.cond_t rfl ?_
        refine VC.seq ?_
        refine VC.region ?_
        refine VL.va (op_assign rfl (ltn rfl)) rfl ?_
        refine VL.va (op_assign rfl (ltn rfl)) rfl ?_
        refine VL.done ?_
        refine VN.then ?_
        refine VC.ret ?_
        refine VR.then ?_
        simp only [Option.some.injEq, Prod.mk.injEq] at h
        obtain ⟨rfl, rfl⟩ := h
        refine VR.nilRow' 24 3 ?_
        exact VR.fn (rs := [.tmp 4, .tmp 5]) [] [((.slice none 0 0), 24, 3, ([] : List S23).map enc23)] [0] rfl (.tmp rfl (.tmp rfl .nil)) ⟨(.slice none 0 0), rfl, rfl, rfl⟩ trivial rfl (by decide)
      · rw [if_neg c1258] at h
        obtain rfl : b1257 = false := hb1257.symm.trans (beq_eq_false_iff_ne.2 c1258)
        refine VC.cond_f rfl ?_
        refine VC.skip ?_
        refine VN.then ?_
        refine VC.seq ?_
        refine VC.region ?_
        refine VL.va (op_move rfl (ltn rfl)) rfl ?_
        refine VL.va (op_load 0 3 rfl rfl TI24 rfl (fun h => absurd h (by decide)) (ltn rfl)) rfl ?_
        replace h := Option.bind_eq_some_iff.1 h
        obtain ⟨⟨t1342, t1343⟩, hA1344, h⟩ := h
        dsimp only at h
        refine VL.sC (o_call_b0 FO22 (slices_BinarySearchFunc_api_Timer_api_Timer_api_Timer.ok k r1248 a1_0 a1_1 a1_2 v1253 t1342 t1343 hA1344) rfl rfl (ltn rfl) (All_of (.cons (.inr (.inl ⟨_, List.mem_of_getElem? (i := 1) rfl, rfl⟩)) .nil)) (by rintro _ _ _ ⟨rfl, rfl, rfl⟩; rfl)) rfl ?_
        rintro _ _ _ ⟨rfl, rfl, rfl⟩
        refine VL.va (op_move rfl (ltn rfl)) rfl ?_
        refine VL.va (op_extract rfl rfl (ltn rfl)) rfl ?_
        refine VL.va (op_extract rfl rfl (ltn rfl)) rfl ?_
        refine VL.va (op_assign rfl (ltn rfl)) rfl ?_
        refine VL.va (op_assign rfl (ltn rfl)) rfl ?_
        refine VL.done ?_
        refine VN.then ?_
        refine VC.seq ?_
        refine VC.region ?_
        refine VL.va (op_move rfl (ltn rfl)) rfl ?_
        refine VL.va (op_move rfl (ltn rfl)) rfl ?_
        refine VL.va (op_load 0 3 rfl rfl TI24 rfl (fun h => absurd h (by decide)) (ltn rfl)) rfl ?_
        refine VL.sG (o_buildSlice (vals := [(0, .agg #[.int .i64 a1_0, .int .i64 a1_1, .int .i64 a1_2])]) (cells := #[.int .i64 a1_0, .int .i64 a1_1, .int .i64 a1_2]) (es := List.map enc23 ([(⟨a1_0, a1_1, a1_2⟩ : S23)] : List S23)) Try.underlying22 TI24 Z24 rfl (by decide) (by decide) (by kernel_rfl) (by kernel_rfl) rfl (flat_map enc23_ok _) (ltn rfl)) rfl ?_
        intro v1346
        replace h := Option.bind_eq_some_iff.1 h
        obtain ⟨r1347, hA1348, h⟩ := h
        refine VL.sG (o_call_own0 (vals := [v1253, .int .i64 t1342, v1346]) 2 rfl FO24 (slices_Insert_api_Timer_api_Timer.ok r1248 t1342 ([(⟨a1_0, a1_1, a1_2⟩ : S23)] : List S23) v1253 v1346 r1347 hA1348) rfl rfl (ltn rfl) (All_of (.cons (.inr (.inl ⟨0, _, by decide, rfl, .inl rfl⟩)) (.cons (.inr (.inl ⟨0, _, by decide, rfl, .inr rfl⟩)) .nil)))) rfl ?_
        intro v1349
        refine VL.va (op_assign rfl (ltn rfl)) rfl ?_
        refine VL.va (op_assign rfl (ltn rfl)) rfl ?_
        refine VL.done ?_
        refine VN.then ?_
        refine VC.ret ?_
        simp only [Option.some.injEq, Prod.mk.injEq] at h
        obtain ⟨rfl, rfl⟩ := h
        exact VR.fn (rs := [.tmp 4, .tmp 5]) [] [(v1349, 24, 3, r1347.map enc23)] [2] rfl (.tmp rfl (.tmp rfl .nil)) ⟨v1349, rfl, rfl, rfl⟩ trivial rfl (by decide)
    · rw [if_neg c984] at h
      obtain rfl := Bool.eq_false_iff.2 c984
      refine VL.va (op_not rfl rfl (ltn rfl)) rfl ?_
      refine VL.va (op_pick rfl rfl (ltn rfl)) rfl ?_
      refine VL.done ?_
      refine VN.then ?_
      refine VC.cond_t rfl ?_
      refine VC.seq ?_
      refine VC.region ?_
      refine VL.va (op_assign rfl (ltn rfl)) rfl ?_
      refine VL.va (op_assign rfl (ltn rfl)) rfl ?_
      refine VL.done ?_
      refine VN.then ?_
      refine VC.ret ?_
      refine VR.then ?_
      simp only [Option.some.injEq, Prod.mk.injEq] at h
      obtain ⟨rfl, rfl⟩ := h
      refine VR.nilRow' 24 3 ?_
      exact VR.fn (rs := [.tmp 4, .tmp 5]) [] [((.slice none 0 0), 24, 3, ([] : List S23).map enc23)] [0] rfl (.tmp rfl (.tmp rfl .nil)) ⟨(.slice none 0 0), rfl, rfl, rfl⟩ trivial rfl (by decide)
  · rw [if_neg c981] at h
    obtain rfl := Bool.eq_false_iff.2 c981
    refine VL.va (op_not rfl rfl (ltn rfl)) rfl ?_
    refine VL.va (op_move rfl (ltn rfl)) rfl ?_
    refine VL.un rfl rfl (ltn rfl) ?_
    refine VL.un rfl rfl (ltn rfl) ?_
    refine VL.un rfl rfl (ltn rfl) ?_
    refine VL.va (op_pick rfl rfl (ltn rfl)) rfl ?_
    refine VL.done ?_
    refine VN.then ?_
    refine VC.cond_t rfl ?_
    refine VC.seq ?_
    refine VC.region ?_
    refine VL.va (op_assign rfl (ltn rfl)) rfl ?_
    refine VL.va (op_assign rfl (ltn rfl)) rfl ?_
    refine VL.done ?_
    refine VN.then ?_
    refine VC.ret ?_
    refine VR.then ?_
    simp only [Option.some.injEq, Prod.mk.injEq] at h
    obtain ⟨rfl, rfl⟩ := h
    refine VR.nilRow' 24 3 ?_
    exact VR.fn (rs := [.tmp 4, .tmp 5]) [] [((.slice none 0 0), 24, 3, ([] : List S23).map enc23)] [0] rfl (.tmp rfl (.tmp rfl .nil)) ⟨(.slice none 0 0), rfl, rfl, rfl⟩ trivial rfl (by decide)
set_option maxHeartbeats 4000000 in
set_option maxRecDepth 100000 in
theorem tarrylaw10_alive.ok (k : Nat)   (r1 : Bool) (h : tarrylaw10_alive.f k = some r1) :
    VCalls Try.prog 8 [] [] (fun v G own => v = .bool r1 ∧ G = [] ∧ own = []) := by
  refine VCalls.intro Try.func8 rfl (len rfl) fun E hC => ?_
  unfold tarrylaw10_alive.f at h
  refine VC.seq ?_
  refine VC.region ?_
  refine VL.va (op_assign rfl (ltn rfl)) rfl ?_
  refine VL.done ?_
  refine VN.then ?_
  refine VC.seq ?_
  refine VC.region ?_
  refine VL.va (op_build (vals := [(0, .int .i64 5), (1, .int .i64 2), (2, .int .i64 1)]) (vcs := [(0, [.int .i64 5]), (1, [.int .i64 2]), (2, [.int .i64 1])]) (cells := [.int .i64 5, .int .i64 2, .int .i64 1]) SI24 rfl (.cons ⟨rfl, (.c rfl)⟩ (.cons ⟨rfl, (.c rfl)⟩ (.cons ⟨rfl, (.c rfl)⟩ .nil))) (by kernel_rfl) (ltn rfl)) rfl ?_
  refine VL.nilFact' 3 ?_
  replace h := Option.bind_eq_some_iff.1 h
  obtain ⟨⟨r1354, t1355⟩, hA1356, h⟩ := h
  dsimp only at h
  refine VL.sC (o_call0 FO7 (timer_Set.ok k [] 5 2 1 (.slice none 0 0) r1354 t1355 hA1356) rfl rfl (ltn rfl) (All_of (.cons (List.mem_of_getElem? (i := 0) rfl) .nil))) rfl ?_
  rintro _ _ _ ⟨v1358, rfl, rfl, rfl⟩
  refine VL.va (op_move rfl (ltn rfl)) rfl ?_
  refine VL.va (op_extract rfl rfl (ltn rfl)) rfl ?_
  refine VL.va (op_extract rfl rfl (ltn rfl)) rfl ?_
  refine VL.va (op_assign rfl (ltn rfl)) rfl ?_
  refine VL.va (op_assign rfl (ltn rfl)) rfl ?_
  refine VL.done ?_
  refine VN.then ?_
  refine VC.seq ?_
  refine VC.region ?_
  refine VL.va (op_move rfl (ltn rfl)) rfl ?_
  replace h := Option.bind_eq_some_iff.1 h
  obtain ⟨⟨r1359, r1360, t1361⟩, hA1362, h⟩ := h
  dsimp only at h
  refine VL.sC (o_call_b0 FO12 (timer_Due.ok k r1354 5 v1358 r1359 r1360 t1361 hA1362) rfl rfl (ltn rfl) (All_of (.cons (.inr (.inl ⟨_, List.mem_of_getElem? (i := 0) rfl, rfl⟩)) .nil)) (by rintro _ _ _ ⟨v1364, v1366, rfl, rfl, rfl⟩; rfl)) rfl ?_
  rintro _ _ _ ⟨v1364, v1366, rfl, rfl, rfl⟩
  refine VL.va (op_move rfl (ltn rfl)) rfl ?_
  refine VL.va (op_extract rfl rfl (ltn rfl)) rfl ?_
  refine VL.va (op_extract rfl rfl (ltn rfl)) rfl ?_
  refine VL.va (op_extract rfl rfl (ltn rfl)) rfl ?_
  refine VL.va (op_assign rfl (ltn rfl)) rfl ?_
  refine VL.va (op_assign rfl (ltn rfl)) rfl ?_
  refine VL.va (op_assign rfl (ltn rfl)) rfl ?_
  refine VL.done ?_
  refine VN.then ?_
  refine VC.seq ?_
  refine VC.region ?_
  refine VL.va (op_move rfl (ltn rfl)) rfl ?_
  refine VL.letter ((t1355 == 0)) fun b1377 hb1377 => ?_
  refine VL.va (op_cmp rfl rfl (congrArg some hb1377) (ltn rfl)) rfl ?_
  refine VL.va (op_move rfl (ltn rfl)) rfl ?_
  by_cases c1378 : t1355 = 0
  · rw [if_pos c1378] at h
    obtain rfl : b1377 = true := hb1377.symm.trans (beq_iff_eq.2 c1378)
    refine VL.va (op_move rfl (ltn rfl)) rfl ?_
    refine VL.letter ((t1361 == 0)) fun b1379 hb1379 => ?_
    refine VL.va (op_cmp rfl rfl (congrArg some hb1379) (ltn rfl)) rfl ?_
    refine VL.va (op_pick rfl rfl (ltn rfl)) rfl ?_
    refine VL.va (op_move rfl (ltn rfl)) rfl ?_
    by_cases c1380 : t1361 = 0
    · rw [if_pos c1380] at h
      obtain rfl : b1379 = true := hb1379.symm.trans (beq_iff_eq.2 c1380)
      refine VL.va (op_move rfl (ltn rfl)) rfl ?_
      refine VL.va (op_len_own (m := r1359.length) 0 lenm Try.underlying22 rfl rfl (ltn rfl)) rfl ?_
      refine VL.letter (((r1359.length : Int) == 1)) fun b1381 hb1381 => ?_
      refine VL.va (op_cmp rfl rfl (congrArg some hb1381) (ltn rfl)) rfl ?_
      refine VL.va (op_pick rfl rfl (ltn rfl)) rfl ?_
      refine VL.va (op_move rfl (ltn rfl)) rfl ?_
      by_cases c1382 : (r1359.length : Int) = 1
      · rw [if_pos c1382] at h
        obtain rfl : b1381 = true := hb1381.symm.trans (beq_iff_eq.2 c1382)
        refine VL.va (op_move rfl (ltn rfl)) rfl ?_
        replace h := Option.bind_eq_some_iff.1 h
        obtain ⟨x1383, hx1383, h⟩ := h
        refine VL.openR (m := r1359.length) 0 lenm rfl (pos_get hx1383) ?_
        rintro g1384 n1385 rfl
        refine VL.va (op_indexAddr Try.underlying22 TI24 rfl rfl (by decide) (lt_get (by decide) hx1383) (add_zero_at _ _) (ltn rfl)) rfl ?_
        refine VL.va (op_fieldAddr FI24_0 rfl (add_at _ _ _) (ltn rfl)) rfl ?_
        refine VL.va (op_load_own (o := 0) 0 0 1 rfl rfl (get_map hx1383) TI3 rfl (by decide) (ltn rfl)) rfl ?_
        refine VL.letter ((x1383.f0 == 5)) fun b1386 hb1386 => ?_
        refine VL.va (op_cmp rfl rfl (congrArg some hb1386) (ltn rfl)) rfl ?_
        refine VL.va (op_pick rfl rfl (ltn rfl)) rfl ?_
        refine VL.va (op_assign rfl (ltn rfl)) rfl ?_
        refine VL.done ?_
        refine VN.then ?_
        refine VC.ret ?_
        obtain rfl := Option.some.inj h
        subst hb1386
        exact VR.fn (rs := [.tmp 0]) [] [] [] rfl (.tmp rfl .nil) ⟨rfl, rfl, rfl⟩ trivial rfl (by decide)
      · rw [if_neg c1382] at h
        obtain rfl : b1381 = false := hb1381.symm.trans (beq_eq_false_iff_ne.2 c1382)
        refine VL.un rfl rfl (ltn rfl) ?_
        refine VL.un rfl rfl (ltn rfl) ?_
        refine VL.un rfl rfl (ltn rfl) ?_
        refine VL.un rfl rfl (ltn rfl) ?_
        refine VL.un rfl rfl (ltn rfl) ?_
        refine VL.va (op_pick rfl rfl (ltn rfl)) rfl ?_
        refine VL.va (op_assign rfl (ltn rfl)) rfl ?_
        refine VL.done ?_
        refine VN.then ?_
        refine VC.ret ?_
        obtain rfl := Option.some.inj h
        exact VR.fn (rs := [.tmp 0]) [] [] [] rfl (.tmp rfl .nil) ⟨rfl, rfl, rfl⟩ trivial rfl (by decide)
    · rw [if_neg c1380] at h
      obtain rfl : b1379 = false := hb1379.symm.trans (beq_eq_false_iff_ne.2 c1380)
      refine VL.un rfl rfl (ltn rfl) ?_
      refine VL.un rfl rfl (ltn rfl) ?_
      refine VL.un rfl rfl (ltn rfl) ?_
      refine VL.va (op_pick rfl rfl (ltn rfl)) rfl ?_
      refine VL.va (op_move rfl (ltn rfl)) rfl ?_
      refine VL.un rfl rfl (ltn rfl) ?_
      refine VL.un rfl rfl (ltn rfl) ?_
      refine VL.un rfl rfl (ltn rfl) ?_
      refine VL.un rfl rfl (ltn rfl) ?_
      refine VL.un rfl rfl (ltn rfl) ?_
      refine VL.va (op_pick rfl rfl (ltn rfl)) rfl ?_
      refine VL.va (op_assign rfl (ltn rfl)) rfl ?_
      refine VL.done ?_
      refine VN.then ?_
      refine VC.ret ?_
      obtain rfl := Option.some.inj h
      exact VR.fn (rs := [.tmp 0]) [] [] [] rfl (.tmp rfl .nil) ⟨rfl, rfl, rfl⟩ trivial rfl (by decide)
  · rw [if_neg c1378] at h
    obtain rfl : b1377 = false := hb1377.symm.trans (beq_eq_false_iff_ne.2 c1378)
    refine VL.un rfl rfl (ltn rfl) ?_
    refine VL.un rfl rfl (ltn rfl) ?_
    refine VL.va (op_pick rfl rfl (ltn rfl)) rfl ?_
    refine VL.va (op_move rfl (ltn rfl)) rfl ?_
    refine VL.un rfl rfl (ltn rfl) ?_
    refine VL.un rfl rfl (ltn rfl) ?_
    refine VL.un rfl rfl (ltn rfl) ?_
    refine VL.va (op_pick rfl rfl (ltn rfl)) rfl ?_
    refine VL.va (op_move rfl (ltn rfl)) rfl ?_
    refine VL.un rfl rfl (ltn rfl) ?_
    refine VL.un rfl rfl (ltn rfl) ?_
    refine VL.un rfl rfl (ltn rfl) ?_
    refine VL.un rfl rfl (ltn rfl) ?_
    refine VL.un rfl rfl (ltn rfl) ?_
    refine VL.va (op_pick rfl rfl (ltn rfl)) rfl ?_
    refine VL.va (op_assign rfl (ltn rfl)) rfl ?_
    refine VL.done ?_
    refine VN.then ?_
    refine VC.ret ?_
    obtain rfl := Option.some.inj h
    exact VR.fn (rs := [.tmp 0]) [] [] [] rfl (.tmp rfl .nil) ⟨rfl, rfl, rfl⟩ trivial rfl (by decide)
set_option maxHeartbeats 4000000 in
set_option maxRecDepth 100000 in
theorem tarryref10_Same.ok (k : Nat) (l0 : List S23) (l1 : List S23) (v0 : Value) (v1 : Value) (r1 : Bool) (h : tarryref10_Same.f k l0 l1 = some r1) :
    VCalls Try.prog 10 [v0, v1] [.row v0 3 (l0.map enc23), .row v1 3 (l1.map enc23)] (fun v G own => v = .bool r1 ∧ G = [] ∧ own = []) := by
  refine VCalls.intro Try.func10 rfl (len rfl) fun E hC => ?_
  unfold tarryref10_Same.f at h
  refine VC.seq ?_
  refine VC.region ?_
  refine VL.va (op_assign rfl (ltn rfl)) rfl ?_
  refine VL.done ?_
  refine VN.then ?_
  refine VC.seq ?_
  refine VC.seq ?_
  refine VC.region ?_
  refine VL.va (op_move rfl (ltn rfl)) rfl ?_
  refine VL.va (op_len (m := l0.length) 0 lenm Try.underlying22 rfl rfl (ltn rfl)) rfl ?_
  refine VL.va (op_move rfl (ltn rfl)) rfl ?_
  refine VL.va (op_len (m := l1.length) 1 lenm Try.underlying22 rfl rfl (ltn rfl)) rfl ?_
  refine VL.letter (((l0.length : Int) != (l1.length : Int))) fun b1427 hb1427 => ?_
  refine VL.va (op_cmp rfl rfl (congrArg some hb1427) (ltn rfl)) rfl ?_
  refine VL.done ?_
  refine VN.then ?_
  by_cases c1428 : (l0.length : Int) = (l1.length : Int)
  · rw [if_pos c1428] at h
    obtain rfl : b1427 = false := hb1427.symm.trans (bne_eq_false_iff_eq.2 c1428)
    refine VC.cond_f rfl ?_
    refine VC.skip ?_
    refine VN.then ?_
    refine VC.seq ?_
    refine VC.seq ?_
    refine VC.region ?_
    refine VL.va (op_move rfl (ltn rfl)) rfl ?_
    refine VL.va (op_len (m := l0.length) 0 lenm Try.underlying22 rfl rfl (ltn rfl)) rfl ?_
    refine VL.va (op_move rfl (ltn rfl)) rfl ?_
    refine VL.done ?_
    refine VN.then ?_
    refine VC.block ?_
    refine VC.loop1 (fun (i1482 : Int) => ⟨26, [(0, v0), (1, v1), (4, .bool false), (12, .int .i64 (l0.length : Int)), (13, .int .i64 i1482)], [.row v0 3 (l0.map enc23), .row v1 3 (l1.map enc23)], [], []⟩) (fun (ml1 : Nat) (i1482 : Int) => tarryref10_Same.l1 k l0 l1 ml1 i1482 = some r1) k 0 [] [] h ⟨rfl, ⟨rfl, rfl, rfl, rfl, rfl, trivial⟩, ⟨⟨0, rfl⟩, ⟨1, rfl⟩, trivial⟩, rfl, by decide, rfl, by decide⟩ (by intros; simp [tarryref10_Same.l1]) ?_
    clear h
    intro ml1 ihl1 i1482 h
    simp only [tarryref10_Same.l1] at h
    refine VC.seq ?_
    refine VC.region ?_
    refine VL.letter (decide (i1482 < (l0.length : Int))) fun b1496 hb1496 => ?_
    refine VL.va (op_cmp rfl rfl (congrArg some hb1496) (ltn rfl)) rfl ?_
    refine VL.done ?_
    refine VN.then ?_
    refine VC.seq ?_
    by_cases c1498 : i1482 < (l0.length : Int)
    · rw [if_pos c1498] at h
      obtain rfl : b1496 = true := hb1496.symm.trans (decide_eq_true c1498)
      refine VC.cond_t rfl ?_
      refine VC.skip ?_
      refine VN.then ?_
      refine VC.seq ?_
      refine VC.block ?_
      refine VC.seq ?_
      refine VC.region ?_
      refine VL.va (op_move rfl (ltn rfl)) rfl ?_
      refine VL.va (op_assign rfl (ltn rfl)) rfl ?_
      refine VL.done ?_
      refine VN.then ?_
      by_cases c1504 : 0 ≤ i1482
      · rw [if_pos c1504] at h
        replace h := Option.bind_eq_some_iff.1 h
        obtain ⟨x1505, hx1505, h⟩ := h
        replace h := Option.bind_eq_some_iff.1 h
        obtain ⟨x1506, hx1506, h⟩ := h
        refine VC.letter ((!(((x1505.f0 == x1506.f0) && ((x1505.f1 == x1506.f1) && (x1505.f2 == x1506.f2)))))) fun b1507 hb1507 => ?_
        refine VC.open (m := l0.length) 0 lenm rfl (pos_get hx1505) ?_
        rintro ad1433 n1434 rfl
        refine VC.open (m := l1.length) 1 lenm rfl (pos_get hx1506) ?_
        rintro ad1436 n1437 rfl
        refine VC.join0 (⟨26, [(0, (.slice (some ad1433) l0.length n1434)), (1, (.slice (some ad1436) l1.length n1437)), (4, .bool false), (5, .int .i64 i1482), (12, .int .i64 (l0.length : Int)), (13, .int .i64 i1482), (14, .bool true), (15, .int .i64 i1482), (16, (.slice (some ad1433) l0.length n1434)), (17, .int .i64 i1482), (19, .agg #[.int .i64 x1505.f0, .int .i64 x1505.f1, .int .i64 x1505.f2]), (20, (.slice (some ad1436) l1.length n1437)), (21, .int .i64 i1482), (23, .agg #[.int .i64 x1506.f0, .int .i64 x1506.f1, .int .i64 x1506.f2]), (24, .bool b1507)], [.row (.slice (some ad1433) l0.length n1434) 3 (l0.map enc23), .row (.slice (some ad1436) l1.length n1437) 3 (l1.map enc23)], [], []⟩) (True) ?_ ?_
        · refine VC.draw ⟨0, [], [.row (.slice (some ad1433) l0.length n1434) 3 (l0.map enc23), .row (.slice (some ad1436) l1.length n1437) 3 (l1.map enc23)], [], []⟩ (by kernel_rfl) rfl (by kernel_rfl) (n := 9) (listed := LB 9 0) ?_
          refine VA.va (i := 0) (listed' := LB 9 1) rfl (op_move rfl (ltn rfl)) rfl (by kernel_rfl) (by kernel_rfl) (by kernel_rfl) (by kernel_rfl) ⟨⟨⟨0, rfl⟩, ⟨1, rfl⟩, trivial⟩, trivial, trivial⟩ (fun _ _ _ h => h) ?_
          refine VA.va (i := 1) (listed' := LB 9 3) rfl (op_move rfl (ltn rfl)) rfl (by kernel_rfl) (by kernel_rfl) (by kernel_rfl) (by kernel_rfl) ⟨⟨⟨0, rfl⟩, ⟨1, rfl⟩, trivial⟩, trivial, trivial⟩ (fun _ _ _ h => h) ?_
          refine VA.va (i := 2) (listed' := LB 9 7) rfl (op_indexAddr Try.underlying22 TI24 rfl rfl c1504 (lt_get c1504 hx1505) rfl (ltn rfl)) rfl (by kernel_rfl) (by kernel_rfl) (by kernel_rfl) (by kernel_rfl) ⟨⟨⟨0, rfl⟩, ⟨1, rfl⟩, trivial⟩, trivial, trivial⟩ (fun _ _ _ h => h) ?_
          refine VA.va (i := 3) (listed' := LB 9 15) rfl (op_load_row (o := 0) 0 i1482.toNat 3 rfl rfl (get_map hx1505) TI24 rfl (fun h => absurd h (by decide)) (ltn rfl)) rfl (by kernel_rfl) (by kernel_rfl) (by kernel_rfl) (by kernel_rfl) ⟨⟨⟨0, rfl⟩, ⟨1, rfl⟩, trivial⟩, trivial, trivial⟩ (fun _ _ _ h => h) ?_
          refine VA.va (i := 4) (listed' := LB 9 31) rfl (op_move rfl (ltn rfl)) rfl (by kernel_rfl) (by kernel_rfl) (by kernel_rfl) (by kernel_rfl) ⟨⟨⟨0, rfl⟩, ⟨1, rfl⟩, trivial⟩, trivial, trivial⟩ (fun _ _ _ h => h) ?_
          refine VA.va (i := 5) (listed' := LB 9 63) rfl (op_move rfl (ltn rfl)) rfl (by kernel_rfl) (by kernel_rfl) (by kernel_rfl) (by kernel_rfl) ⟨⟨⟨0, rfl⟩, ⟨1, rfl⟩, trivial⟩, trivial, trivial⟩ (fun _ _ _ h => h) ?_
          refine VA.va (i := 6) (listed' := LB 9 127) rfl (op_indexAddr Try.underlying22 TI24 rfl rfl c1504 (lt_get c1504 hx1506) rfl (ltn rfl)) rfl (by kernel_rfl) (by kernel_rfl) (by kernel_rfl) (by kernel_rfl) ⟨⟨⟨0, rfl⟩, ⟨1, rfl⟩, trivial⟩, trivial, trivial⟩ (fun _ _ _ h => h) ?_
          refine VA.va (i := 7) (listed' := LB 9 255) rfl (op_load_row (o := 0) 1 i1482.toNat 3 rfl rfl (get_map hx1506) TI24 rfl (fun h => absurd h (by decide)) (ltn rfl)) rfl (by kernel_rfl) (by kernel_rfl) (by kernel_rfl) (by kernel_rfl) ⟨⟨⟨0, rfl⟩, ⟨1, rfl⟩, trivial⟩, trivial, trivial⟩ (fun _ _ _ h => h) ?_
          refine VA.va (i := 8) (listed' := LB 9 511) rfl (op_neS rfl rfl EG24 (EQ24 x1505.f0 x1505.f1 x1505.f2 x1506.f0 x1506.f1 x1506.f2) hb1507 (ltn rfl)) rfl (by kernel_rfl) (by kernel_rfl) (by kernel_rfl) (by kernel_rfl) ⟨⟨⟨0, rfl⟩, ⟨1, rfl⟩, trivial⟩, trivial, trivial⟩ (fun _ _ _ h => h) ?_
          refine VA.done (by kernel_rfl) ?_
          exact VN.meet0  [] [] trivial ⟨rfl, ⟨rfl, rfl, rfl, rfl, rfl, rfl, rfl, rfl, rfl, rfl, rfl, rfl, rfl, rfl, rfl, trivial⟩, ⟨⟨0, rfl⟩, ⟨1, rfl⟩, trivial⟩, rfl, by decide, rfl, by decide⟩
        intro _
        by_cases c1508 : (((x1505.f0 == x1506.f0) && ((x1505.f1 == x1506.f1) && (x1505.f2 == x1506.f2)))) = true
        · rw [if_pos c1508] at h
          obtain rfl : b1507 = false := hb1507.symm.trans (not_t c1508)
          refine VC.cond_f rfl ?_
          refine VC.skip ?_
          refine VN.block ?_
          refine VN.then ?_
          refine VC.region ?_
          refine VL.va (op_ari64 rfl rfl rfl (ltn rfl)) rfl ?_
          refine VL.va (op_move rfl (ltn rfl)) rfl ?_
          refine VL.done ?_
          refine VN.again [] [] (ihl1 (wrap64 (i1482 + 1)) h) ⟨rfl, ⟨rfl, rfl, rfl, rfl, rfl, trivial⟩, ⟨⟨0, rfl⟩, ⟨1, rfl⟩, trivial⟩, rfl, by decide, rfl, by decide⟩
        · rw [if_neg c1508] at h
          obtain rfl : b1507 = true := hb1507.symm.trans (not_f c1508)
          refine VC.cond_t rfl ?_
          refine VC.seq ?_
          refine VC.region ?_
          refine VL.va (op_assign rfl (ltn rfl)) rfl ?_
          refine VL.done ?_
          refine VN.then ?_
          refine VC.ret ?_
          refine VR.block ?_
          refine VR.then ?_
          refine VR.then ?_
          refine VR.block ?_
          refine VR.then ?_
          obtain rfl := Option.some.inj h
          exact VR.fn (rs := [.tmp 4]) [] [] [] rfl (.tmp rfl .nil) ⟨rfl, rfl, rfl⟩ trivial rfl (by decide)
      · rw [if_neg c1504] at h; cases h
    · rw [if_neg c1498] at h
      obtain rfl : b1496 = false := hb1496.symm.trans (decide_eq_false c1498)
      refine VC.cond_f rfl ?_
      refine VC.exit ?_
      refine VX.then ?_
      refine VX.then ?_
      refine VX.hit ?_
      refine VN.then ?_
      refine VC.seq ?_
      refine VC.region ?_
      refine VL.va (op_assign rfl (ltn rfl)) rfl ?_
      refine VL.done ?_
      refine VN.then ?_
      refine VC.ret ?_
      obtain rfl := Option.some.inj h
      exact VR.fn (rs := [.tmp 4]) [] [] [] rfl (.tmp rfl .nil) ⟨rfl, rfl, rfl⟩ trivial rfl (by decide)
  · rw [if_neg c1428] at h
    obtain rfl : b1427 = true := hb1427.symm.trans (bne_iff_ne.2 c1428)
    refine VC.cond_t rfl ?_
    refine VC.seq ?_
    refine VC.region ?_
    refine VL.va (op_assign rfl (ltn rfl)) rfl ?_
    refine VL.done ?_
    refine VN.then ?_
    refine VC.ret ?_
    refine VR.then ?_
    obtain rfl := Option.some.inj h
    exact VR.fn (rs := [.tmp 4]) [] [] [] rfl (.tmp rfl .nil) ⟨rfl, rfl, rfl⟩ trivial rfl (by decide)
set_option maxHeartbeats 4000000 in
set_option maxRecDepth 100000 in
theorem timer_Next.ok (k : Nat) (l0 : List S23) (v0 : Value) (r1 : Int) (r2 : Int) (h : timer_Next.f k l0 = some (r1, r2)) :
    VCalls Try.prog 13 [v0] [.row v0 3 (l0.map enc23)] (fun v G own => v = .tuple #[.int .i64 r1, .int .i64 r2] ∧ G = [] ∧ own = []) := by
  refine VCalls.intro Try.func13 rfl (len rfl) fun E hC => ?_
  unfold timer_Next.f at h
  refine VC.seq ?_
  refine VC.region ?_
  refine VL.va (op_assign rfl (ltn rfl)) rfl ?_
  refine VL.va (op_assign rfl (ltn rfl)) rfl ?_
  refine VL.done ?_
  refine VN.then ?_
  refine VC.seq ?_
  refine VC.block ?_
  refine VC.seq ?_
  refine VC.region ?_
  refine VL.va (op_move rfl (ltn rfl)) rfl ?_
  replace h := Option.bind_eq_some_iff.1 h
  obtain ⟨t1607, hA1608, h⟩ := h
  refine VL.sC (o_call0 FO11 (timer_Right.ok k l0 v0 t1607 hA1608) rfl rfl (ltn rfl) (All_of (.cons (List.mem_of_getElem? (i := 0) rfl) .nil))) rfl ?_
  rintro _ _ _ ⟨rfl, rfl, rfl⟩
  by_cases c1609 : t1607 = true
  · rw [if_pos c1609] at h
    obtain rfl := c1609
    refine VL.va (op_not rfl rfl (ltn rfl)) rfl ?_
    refine VL.va (op_assign rfl (ltn rfl)) rfl ?_
    refine VL.done ?_
    refine VN.then ?_
    refine VC.cond_f rfl ?_
    refine VC.seq ?_
    refine VC.region ?_
    refine VL.va (op_move rfl (ltn rfl)) rfl ?_
    refine VL.va (op_len (m := l0.length) 0 lenm Try.underlying22 rfl rfl (ltn rfl)) rfl ?_
    refine VL.letter (((l0.length : Int) == 0)) fun b1610 hb1610 => ?_
    refine VL.va (op_cmp rfl rfl (congrArg some hb1610) (ltn rfl)) rfl ?_
    refine VL.va (op_assign rfl (ltn rfl)) rfl ?_
    refine VL.done ?_
    refine VN.then ?_
    by_cases c1611 : (l0.length : Int) = 0
    · rw [if_pos c1611] at h
      obtain rfl : b1610 = true := hb1610.symm.trans (beq_iff_eq.2 c1611)
      refine VC.cond_t rfl ?_
      refine VC.seq ?_
      refine VC.region ?_
      refine VL.va (op_assign rfl (ltn rfl)) rfl ?_
      refine VL.va (op_assign rfl (ltn rfl)) rfl ?_
      refine VL.done ?_
      refine VN.then ?_
      refine VC.ret ?_
      refine VR.block ?_
      refine VR.then ?_
      simp only [Option.some.injEq, Prod.mk.injEq] at h
      obtain ⟨rfl, rfl⟩ := h
      exact VR.fn (rs := [.tmp 2, .tmp 3]) [] [] [] rfl (.tmp rfl (.tmp rfl .nil)) ⟨rfl, rfl, rfl⟩ trivial rfl (by decide)
    · rw [if_neg c1611] at h
      obtain rfl : b1610 = false := hb1610.symm.trans (beq_eq_false_iff_ne.2 c1611)
      refine VC.cond_f rfl ?_
      refine VC.skip ?_
      refine VN.block ?_
      refine VN.then ?_
      refine VC.seq ?_
      refine VC.region ?_
      refine VL.va (op_move rfl (ltn rfl)) rfl ?_
      replace h := Option.bind_eq_some_iff.1 h
      obtain ⟨x1612, hx1612, h⟩ := h
      refine VL.open (m := l0.length) 0 lenm rfl (pos_get hx1612) ?_
      rintro ad1613 n1614 rfl
      refine VL.va (op_indexAddr Try.underlying22 TI24 rfl rfl (by decide) (lt_get (by decide) hx1612) rfl (ltn rfl)) rfl ?_
      refine VL.va (op_fieldAddr FI24_0 rfl (add_add _ _ _) (ltn rfl)) rfl ?_
      refine VL.va (op_load_row (o := 0) 0 0 1 rfl rfl (get_map hx1612) TI3 rfl (by decide) (ltn rfl)) rfl ?_
      refine VL.va (op_assign rfl (ltn rfl)) rfl ?_
      refine VL.va (op_assign rfl (ltn rfl)) rfl ?_
      refine VL.done ?_
      refine VN.then ?_
      refine VC.ret ?_
      simp only [Option.some.injEq, Prod.mk.injEq] at h
      obtain ⟨rfl, rfl⟩ := h
      exact VR.fn (rs := [.tmp 2, .tmp 3]) [] [] [] rfl (.tmp rfl (.tmp rfl .nil)) ⟨rfl, rfl, rfl⟩ trivial rfl (by decide)
  · rw [if_neg c1609] at h
    obtain rfl := Bool.eq_false_iff.2 c1609
    refine VL.va (op_not rfl rfl (ltn rfl)) rfl ?_
    refine VL.va (op_assign rfl (ltn rfl)) rfl ?_
    refine VL.done ?_
    refine VN.then ?_
    refine VC.cond_t rfl ?_
    refine VC.seq ?_
    refine VC.region ?_
    refine VL.va (op_assign rfl (ltn rfl)) rfl ?_
    refine VL.va (op_assign rfl (ltn rfl)) rfl ?_
    refine VL.done ?_
    refine VN.then ?_
    refine VC.ret ?_
    refine VR.block ?_
    refine VR.then ?_
    simp only [Option.some.injEq, Prod.mk.injEq] at h
    obtain ⟨rfl, rfl⟩ := h
    exact VR.fn (rs := [.tmp 2, .tmp 3]) [] [] [] rfl (.tmp rfl (.tmp rfl .nil)) ⟨rfl, rfl, rfl⟩ trivial rfl (by decide)

end Go.Proofs.Ytmcfgahjchkgaaa.PTimerPasses
