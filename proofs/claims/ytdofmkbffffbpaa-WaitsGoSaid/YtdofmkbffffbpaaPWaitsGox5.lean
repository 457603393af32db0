/- Written by a program of this repo: what the program's functions do, each as a Lean function, shown of the loaded code; or a statement's row over that; no condition of its own. -/
import Derived.Test.YtdofmkbffffbpaaPWaitsGox4
namespace Go.Proofs.Ytdofmkbffffbpaa.PWaitsGo
open Go Go.RowKit Go.Proofs.YtdofmkbffffbpaaV
set_option linter.unusedVariables false
set_option linter.unusedSimpArgs false

set_option maxHeartbeats 4000000 in
set_option maxRecDepth 100000 in
theorem slices_Clone_api_Line_api_Line.ok (l0 : List S25) (v0 : Value) (r1 : List S25) (h : slices_Clone_api_Line_api_Line.f l0 = some r1) :
    VCalls Try.prog 30 [v0] [.row v0 4 (l0.map enc25)] (fun v G own => ∃ w0 : Value, v = w0 ∧ G = [] ∧ own = [(w0, 26, 4, r1.map enc25)]) := by
  unfold slices_Clone_api_Line_api_Line.f at h
  by_cases hc : ¬ (l0.length * 40 ≤ 140737488355328)
  · rw [if_neg hc] at h; cases h
  replace hc := Decidable.not_not.1 hc
  rw [if_pos hc] at h
  obtain rfl := Option.some.inj h
  clear h
  refine VCalls.intro Try.func30 rfl (len rfl) fun E hC hW hD hU => ?_
  refine VC.formF 0 rfl fun A cap hv h1 h2 h3 => ?_
  rw [lenm] at hv h1 h3
  subst hv
  refine VC.seq (VC.region ?_)
  refine VL.va (op_assign rfl (ltn rfl)) rfl ?_
  refine VL.done (VN.then ?_)
  refine VC.seq ?_
  refine VC.seq (VC.region ?_)
  refine VL.va (op_move rfl (ltn rfl)) rfl ?_
  refine VL.va (op_isnil Try.underlying22 rfl rfl (ltn rfl)) rfl ?_
  refine VL.done (VN.then ?_)
  cases A with
  | none =>
    have e : l0 = [] := List.eq_nil_of_length_eq_zero (h3 rfl)
    subst e
    refine VC.cond_t rfl ?_
    refine VC.seq (VC.region ?_)
    refine VL.va (op_assign rfl (ltn rfl)) rfl ?_
    refine VL.done (VN.then ?_)
    refine VC.ret (VR.then ?_)
    refine VR.nilRow' 26 4 ?_
    exact VR.fn (rs := [.tmp 2]) [] [(.slice none 0 0, 26, 4, [])] [0] rfl (.tmp rfl .nil) ⟨_, rfl, rfl, rfl⟩ trivial rfl (by decide)
  | some ad =>
    refine VC.cond_f rfl (VC.skip (VN.then ?_))
    refine VC.seq (VC.region ?_)
    refine VL.sG (o_buildSlice (vals := []) (cells := #[]) (es := List.map enc25 ([] : List S25)) Try.underlying22 TI26 Z26 rfl (by decide) (by decide) (by kernel_rfl) rfl rfl (flat_map enc25_ok _) (ltn rfl)) rfl ?_
    intro v1
    refine VL.va (op_move rfl (ltn rfl)) rfl ?_
    refine VL.sG (o_append (es3 := l0.map enc25) 0 rfl Try.underlying22 EI26 rfl rfl rfl (.inl ⟨0, rfl⟩) (by rw [lenm, lenm]; simpa using hc) (ltn rfl)) rfl ?_
    intro v2
    refine VL.va (op_assign rfl (ltn rfl)) rfl ?_
    refine VL.done (VN.then ?_)
    refine VC.ret ?_
    exact VR.fn (rs := [.tmp 2]) [] [(v2, 26, 4, l0.map enc25)] [0] rfl (.tmp rfl .nil) ⟨_, rfl, rfl, rfl⟩ trivial rfl (by decide)
set_option maxHeartbeats 4000000 in
set_option maxRecDepth 100000 in
theorem slices_Delete_api_Line_api_Line.ok (l0 : List S25) (a1 : Int) (a2 : Int) (v0 : Value) (r1 : List S25) (h : slices_Delete_api_Line_api_Line.f l0 a1 a2 = some r1) :
    VOwn Try.prog 43 [v0, .int .i64 a1, .int .i64 a2] (v0, 26, 4, l0.map enc25) [] (fun q x' => x' = (q, 26, 4, r1.map enc25)) := by
  unfold slices_Delete_api_Line_api_Line.f at h
  by_cases hc : ¬ (0 ≤ a1 ∧ a1 ≤ a2 ∧ a2 ≤ (l0.length : Int))
  · rw [if_neg hc] at h; cases h
  replace hc := Decidable.not_not.1 hc
  rw [if_pos hc] at h
  obtain rfl := Option.some.inj h
  obtain ⟨h0, h12, h2n⟩ := hc
  clear h
  obtain ⟨i, rfl⟩ : ∃ i : Nat, a1 = (i : Int) := ⟨a1.toNat, by omega⟩
  obtain ⟨j, rfl⟩ : ∃ j : Nat, a2 = (j : Int) := ⟨a2.toNat, by omega⟩
  have hij : i ≤ j := by omega
  have hjn : j ≤ l0.length := by omega
  simp only [Int.toNat_natCast]
  refine VOwn.intro Try.func43 rfl (len rfl) fun E fr hW hD hU => ?_
  refine VC.formR 0 rfl fun A cap hv hcap => ?_
  rw [lenm] at hv hcap
  subst hv
  refine VC.seq (VC.region ?_)
  refine VL.va (op_assign rfl (ltn rfl)) rfl ?_
  refine VL.done (VN.then ?_)
  refine VC.seq (VC.region ?_)
  refine VL.va (op_move rfl (ltn rfl)) rfl ?_
  refine VL.va (op_move rfl (ltn rfl)) rfl ?_
  refine VL.va (op_move rfl (ltn rfl)) rfl ?_
  refine VL.va (op_move rfl (ltn rfl)) rfl ?_
  refine VL.va (op_lenV Try.underlying22 rfl (ltn rfl)) rfl ?_
  refine VL.va (op_slice3 Try.underlying22 TI26 rfl rfl rfl rfl hij hjn hcap (ltn rfl)) rfl ?_
  refine VL.done (VN.then ?_)
  refine VC.seq ?_
  refine VC.seq (VC.region ?_)
  refine VL.va (op_move rfl (ltn rfl)) rfl ?_
  refine VL.va (op_move rfl (ltn rfl)) rfl ?_
  refine VL.letter ((i : Int) == (j : Int)) fun b3 hb3 => ?_
  refine VL.va (op_cmp rfl rfl (congrArg some hb3) (ltn rfl)) rfl ?_
  refine VL.done (VN.then ?_)
  by_cases c3 : i = j
  · have : b3 = true := by rw [← hb3, c3]; simp
    subst this
    clear hb3
    refine VC.cond_t rfl ?_
    refine VC.seq (VC.region ?_)
    refine VL.va (op_move rfl (ltn rfl)) rfl ?_
    refine VL.va (op_assign rfl (ltn rfl)) rfl ?_
    refine VL.done (VN.then ?_)
    refine VC.ret (VR.then ?_)
    refine VR.own (rs := [.tmp 6]) 0 [] rfl (.tmp rfl .nil) rfl ?_ rfl id
    rw [c3, List.take_append_drop]
    rfl
  have : b3 = false := by rw [← hb3]; simpa using fun e => c3 (by omega)
  subst this
  clear hb3
  have hlt : i < j := by omega
  refine VC.cond_f rfl (VC.skip (VN.then ?_))
  refine VC.openBox 0 rfl (by rw [lenm]; omega) fun g cap' cur hv hcap' hmx hlen htake hfl => ?_
  rw [lenm] at hv hcap' htake
  obtain ⟨rfl, -, rfl⟩ := Value.slice.inj hv
  clear hv hcap'
  refine VC.seq (VC.region ?_)
  refine VL.va (op_move rfl (ltn rfl)) rfl ?_
  refine VL.va (op_lenV Try.underlying22 rfl (ltn rfl)) rfl ?_
  refine VL.va (op_assign rfl (ltn rfl)) rfl ?_
  refine VL.done (VN.then ?_)
  have hd : ((cur.drop (j * 4)).take ((l0.length - j) * 4)).length = (l0.length - j) * 4 := by rw [List.length_take, List.length_drop, hlen]; omega
  have h1c : ∀ u ∈ (cur.drop (j * 4)).take ((l0.length - j) * 4), u.oneCell' = true := by
    intro u hu
    have e : (cur.drop (j * 4)).take ((l0.length - j) * 4) = (cur.take (l0.length * 4)).drop (j * 4) := by
      rw [List.drop_take]
      congr 1
      omega
    rw [e, htake] at hu
    exact flat_one hfl u (List.mem_of_mem_drop hu)
  obtain ⟨o, ho, ho2⟩ : ∃ o, cutV (some ⟨g, 0, none⟩) j l0.length cap 4 = .slice (some ⟨g, o, none⟩) (l0.length - j) (cap - j) ∧ (l0.length = j ∨ o = j * 4) := by
    rcases Nat.lt_or_ge j cap with h | h
    · exact ⟨_, cutV_at0 (.inl h), .inr rfl⟩
    · exact ⟨0, by unfold cutV; rw [if_pos (by omega)], .inl (by omega)⟩
  refine VC.seq ?_
  refine VC.draw ⟨0, [], [], [], []⟩ (by kernel_rfl) rfl (by kernel_rfl) (n := 8) (listed := LB 8 0) ?_
  refine VA.va (i := 0) (listed' := LB 8 1) rfl (op_move rfl (ltn rfl)) rfl (by kernel_rfl) (by kernel_rfl) (by kernel_rfl) (by kernel_rfl) ⟨trivial, trivial, trivial⟩ (fun _ _ _ h => h) ?_
  refine VA.va (i := 1) (listed' := LB 8 3) rfl (op_move rfl (ltn rfl)) rfl (by kernel_rfl) (by kernel_rfl) (by kernel_rfl) (by kernel_rfl) ⟨trivial, trivial, trivial⟩ (fun _ _ _ h => h) ?_
  refine VA.va (i := 2) (listed' := LB 8 7) rfl (op_cutH' 0 i (v := .slice (some ⟨g, 0, none⟩) i cap) (by rw [cutV_at0 (.inr rfl)]; simp) Try.underlying22 TI26 rfl ⟨rfl, ⟨_, _, rfl, h0, Int.toNat_natCast i⟩, Nat.zero_le _, by omega⟩ (ltn rfl)) rfl (by kernel_rfl) (by kernel_rfl) (by kernel_rfl) (by kernel_rfl) ⟨trivial, trivial, trivial⟩ (fun _ _ _ h => h) ?_
  refine VA.va (i := 3) (listed' := LB 8 15) rfl (op_move rfl (ltn rfl)) rfl (by kernel_rfl) (by kernel_rfl) (by kernel_rfl) (by kernel_rfl) ⟨trivial, trivial, trivial⟩ (fun _ _ _ h => h) ?_
  refine VA.va (i := 4) (listed' := LB 8 31) rfl (op_move rfl (ltn rfl)) rfl (by kernel_rfl) (by kernel_rfl) (by kernel_rfl) (by kernel_rfl) ⟨trivial, trivial, trivial⟩ (fun _ _ _ h => h) ?_
  refine VA.va (i := 5) (listed' := LB 8 63) rfl (op_cutV' j l0.length ho Try.underlying22 TI26 rfl ⟨⟨_, _, rfl, by omega, Int.toNat_natCast _⟩, rfl, by omega, Nat.le_refl _⟩ hcap (ltn rfl)) rfl (by kernel_rfl) (by kernel_rfl) (by kernel_rfl) (by kernel_rfl) ⟨trivial, trivial, trivial⟩ (fun _ _ _ h => h) ?_
  refine VA.one1 (i := 6) (listed' := LB 8 127) (by kernel_rfl) rfl (o_append_in (cs := (cur.drop (j * 4)).take ((l0.length - j) * 4)) 0 Try.underlying22 EI26 rfl rfl rfl hd (by omega) (by rw [hd, hlen]; omega) (fun w hm q u hu => by
    rcases ho2 with h | h
    · rw [h, Nat.sub_self, Nat.zero_mul, List.take_zero] at hu
      cases hu
    · subst h
      exact src_box (s := ⟨_, _, _, _, _⟩) ((l0.length - j) * 4) 0 rfl rfl w hm q u hu) h1c rfl (ltn rfl)) rfl (by kernel_rfl) ⟨trivial, trivial, trivial⟩ ?_
  refine VA.va (i := 7) (listed' := LB 8 255) rfl (op_assign rfl (ltn rfl)) rfl (by kernel_rfl) (by kernel_rfl) (by kernel_rfl) (by kernel_rfl) ⟨trivial, trivial, trivial⟩ (fun _ _ _ h => h) ?_
  refine VA.done (by kernel_rfl) (VN.then ?_)
  have hcur1 : (upd cur (i * 4) ((cur.drop (j * 4)).take ((l0.length - j) * 4))).length = cap * 4 := by rw [upd_len, hlen]; rw [hd, hlen]; omega
  refine VC.seq (VC.region ?_)
  refine VL.va (op_move rfl (ltn rfl)) rfl ?_
  refine VL.va (op_move rfl (ltn rfl)) rfl ?_
  refine VL.va (op_lenV Try.underlying22 rfl (ltn rfl)) rfl ?_
  refine VL.va (op_move rfl (ltn rfl)) rfl ?_
  refine VL.va (op_cutH' (i + (l0.length - j)) l0.length (cutV_at0 (by omega)) Try.underlying22 TI26 rfl ⟨⟨_, _, rfl, by omega, Int.toNat_natCast _⟩, ⟨_, _, rfl, by omega, Int.toNat_natCast _⟩, by omega, by omega⟩ (ltn rfl)) rfl ?_
  refine VL.clear (sz := 4) 0 Try.underlying22 Z26 rfl (by decide) rfl rfl rfl (by rw [hcur1]; omega) rfl fun us hus => ?_
  refine VL.done (VN.then ?_)
  refine VC.seq (VC.region ?_)
  refine VL.va (op_move rfl (ltn rfl)) rfl ?_
  refine VL.va (op_assign rfl (ltn rfl)) rfl ?_
  refine VL.done (VN.then ?_)
  refine VC.ret ?_
  have hfll : (l0.take i ++ l0.drop j).length = i + (l0.length - j) := by simp only [List.length_append, List.length_take, List.length_drop]; omega
  have hfin : ((l0.take i ++ l0.drop j).map enc25).flatten = (cur.take (l0.length * 4)).take (i * 4) ++ (cur.take (l0.length * 4)).drop (j * 4) := by
    rw [htake, List.map_append, List.flatten_append, List.map_take, List.map_drop, flat_take i hfl, flat_drop j hfl]
  refine VR.closeBox 0 cap 4 ((l0.take i ++ l0.drop j).map enc25) rfl (by rw [lenm, hfll]; omega) hmx (by rw [upd_len, hcur1]; rw [hus, hcur1]; omega) ?_ (flat_map enc25_ok _) ?_
  · rw [lenm, hfll, hfin, Nat.add_mul, Nat.sub_mul]
    exact del_is (by rw [hlen]; omega) (by omega) (by omega) (by rw [← Nat.sub_mul])
  rw [lenm, hfll]
  exact VR.own (rs := [.tmp 6]) 0 [] rfl (.tmp rfl .nil) rfl rfl rfl (fun _ => rfl)
set_option maxHeartbeats 4000000 in
set_option maxRecDepth 100000 in
theorem waits_Drop.ok (k : Nat) (l0 : List S25) (a1 : Int) (v0 : Value) (r1 : List S25) (r2 : Int) (h : waits_Drop.f k l0 a1 = some (r1, r2)) :
    VCalls Try.prog 24 [v0, .int .i64 a1] [.row v0 4 (l0.map enc25)] (fun v G own => ∃ w0 : Value, v = .tuple #[w0, .int .i64 r2] ∧ G = [] ∧ own = [(w0, 26, 4, r1.map enc25)]) := by
  refine VCalls.intro Try.func24 rfl (len rfl) fun E hC hW hD hU => ?_
  unfold waits_Drop.f at h
  refine VC.seq ?_
  refine VC.region ?_
  refine VL.va (op_assign rfl (ltn rfl)) rfl ?_
  refine VL.va (op_assign rfl (ltn rfl)) rfl ?_
  refine VL.done ?_
  refine VN.then ?_
  refine VC.seq ?_
  refine VC.region ?_
  refine VL.va (op_move rfl (ltn rfl)) rfl ?_
  refine VL.va (op_move rfl (ltn rfl)) rfl ?_
  replace h := Option.bind_eq_some_iff.1 h
  obtain ⟨⟨t2321, t2322⟩, hA2323, h⟩ := h
  dsimp only at h
  refine VL.sC (o_call0 FO41 (waits_at.ok k l0 a1 v0 t2321 t2322 hA2323) rfl rfl (ltn rfl) (All_of (.cons (List.mem_of_getElem? (i := 0) rfl) .nil))) rfl ?_
  rintro _ _ _ ⟨rfl, rfl, rfl⟩
  refine VL.va (op_move rfl (ltn rfl)) rfl ?_
  refine VL.va (op_extract rfl rfl (ltn rfl)) rfl ?_
  refine VL.va (op_extract rfl rfl (ltn rfl)) rfl ?_
  refine VL.va (op_assign rfl (ltn rfl)) rfl ?_
  refine VL.va (op_assign rfl (ltn rfl)) rfl ?_
  refine VL.done ?_
  refine VN.then ?_
  refine VC.seq ?_
  refine VC.seq ?_
  refine VC.region ?_
  refine VL.va (op_move rfl (ltn rfl)) rfl ?_
  refine VL.letter ((t2322 != 0)) fun b2327 hb2327 => ?_
  refine VL.va (op_cmp rfl rfl (congrArg some hb2327) (ltn rfl)) rfl ?_
  refine VL.done ?_
  refine VN.then ?_
  by_cases c2328 : t2322 = 0
  · rw [if_pos c2328] at h
    obtain rfl : b2327 = false := hb2327.symm.trans (bne_eq_false_iff_eq.2 c2328)
    refine VC.cond_f rfl ?_
    refine VC.skip ?_
    refine VN.then ?_
    refine VC.seq ?_
    refine VC.region ?_
    refine VL.va (op_move rfl (ltn rfl)) rfl ?_
    replace h := Option.bind_eq_some_iff.1 h
    obtain ⟨r2329, hA2330, h⟩ := h
    refine VL.sC (o_call_b0 FO30 (slices_Clone_api_Line_api_Line.ok l0 v0 r2329 hA2330) rfl rfl (ltn rfl) (All_of (.cons (.inl (List.mem_of_getElem? (i := 0) rfl)) .nil)) (by rintro _ _ _ ⟨_, rfl, rfl, rfl⟩; rfl)) rfl ?_
    rintro v2332 _ _ ⟨_, rfl, rfl, rfl⟩
    refine VL.va (op_move rfl (ltn rfl)) rfl ?_
    refine VL.va (op_move rfl (ltn rfl)) rfl ?_
    refine VL.va (op_ari64 rfl rfl rfl (ltn rfl)) rfl ?_
    replace h := Option.bind_eq_some_iff.1 h
    obtain ⟨r2333, hA2334, h⟩ := h
    refine VL.sG (o_call_own0 (vals := [v2332, .int .i64 t2321, .int .i64 (wrap64 (t2321 + 1))]) 0 rfl FO43 (slices_Delete_api_Line_api_Line.ok r2329 t2321 (wrap64 (t2321 + 1)) v2332 r2333 hA2334) rfl rfl (ltn rfl) (by simp)) rfl ?_
    intro v2335
    refine VL.va (op_assign rfl (ltn rfl)) rfl ?_
    refine VL.va (op_assign rfl (ltn rfl)) rfl ?_
    refine VL.done ?_
    refine VN.then ?_
    refine VC.ret ?_
    simp only [Option.some.injEq, Prod.mk.injEq] at h
    obtain ⟨rfl, rfl⟩ := h
    exact VR.fn (rs := [.tmp 4, .tmp 5]) [] [(v2335, 26, 4, r2333.map enc25)] [0] rfl (.tmp rfl (.tmp rfl .nil)) ⟨v2335, rfl, rfl, rfl⟩ trivial rfl (by decide)
  · rw [if_neg c2328] at h
    obtain rfl : b2327 = true := hb2327.symm.trans (bne_iff_ne.2 c2328)
    refine VC.cond_t rfl ?_
    refine VC.seq ?_
    refine VC.region ?_
    refine VL.va (op_move rfl (ltn rfl)) rfl ?_
    refine VL.va (op_assign rfl (ltn rfl)) rfl ?_
    refine VL.va (op_assign rfl (ltn rfl)) rfl ?_
    refine VL.done ?_
    refine VN.then ?_
    refine VC.ret ?_
    refine VR.then ?_
    simp only [Option.some.injEq, Prod.mk.injEq] at h
    obtain ⟨rfl, rfl⟩ := h
    refine VR.nilRow' 26 4 ?_
    exact VR.fn (rs := [.tmp 4, .tmp 5]) [] [((.slice none 0 0), 26, 4, ([] : List S25).map enc25)] [0] rfl (.tmp rfl (.tmp rfl .nil)) ⟨(.slice none 0 0), rfl, rfl, rfl⟩ trivial rfl (by decide)
theorem flat_get {α : Type} [Inhabited α] {enc : α → List Value} {k : Nat} (hk : ∀ x, (enc x).length = k) : ∀ (l : List α) (t : Nat), t < l.length * k → (l.map enc).flatten[t]? = some ((enc l[t / k]!)[t % k]!)
  | [], t, h => by simp at h
  | x :: l, t, h => by
    rw [List.map_cons, List.flatten_cons]
    have h0 : 0 < k := by
      rcases Nat.eq_zero_or_pos k with h1 | h1
      · subst h1
        simp at h
      · exact h1
    rcases Nat.lt_or_ge t k with h1 | h1
    · rw [List.getElem?_append_left (by rw [hk]; exact h1), Nat.div_eq_of_lt h1, Nat.mod_eq_of_lt h1]
      have h2 : t < (enc x).length := by rw [hk]; exact h1
      show (enc x)[t]? = some ((enc x)[t]!)
      rw [List.getElem?_eq_getElem h2, getElem!_pos (enc x) t h2]
    · have h2 : t - k < l.length * k := by
        rw [List.length_cons, Nat.succ_mul] at h
        omega
      rw [List.getElem?_append_right (by rw [hk]; exact h1), hk, flat_get hk l (t - k) h2]
      have e1 : t / k = (t - k) / k + 1 := by
        rw [← Nat.add_div_right _ h0, Nat.sub_add_cancel h1]
      have e2 : t % k = (t - k) % k := by rw [← Nat.mod_eq_sub_mod h1]
      rw [e1, e2]
      rfl
theorem flatK_is {α : Type} [Inhabited α] {enc : α → List Value} {k : Nat} (hk : ∀ x, (enc x).length = k) (l : List α) : Go.Sort.flatK enc k l.toArray = ((l.map enc).flatten).toArray := by
  apply Array.ext_getElem?
  intro t
  unfold Go.Sort.flatK
  rw [Array.getElem?_map]
  rcases Nat.lt_or_ge t (l.length * k) with h | h
  · have hr : (Array.range (l.toArray.size * k))[t]? = some t := by
      rw [Array.getElem?_eq_getElem (by simpa using h)]
      simp
    rw [hr, List.getElem?_toArray, flat_get hk l t h]
    simp
  · rw [Array.getElem?_eq_none (by simpa using h), List.getElem?_toArray, List.getElem?_eq_none]
    · rfl
    · have h3 : ∀ l : List α, (l.map enc).flatten.length = l.length * k := by
        intro l
        induction l with
        | nil => simp
        | cons x l ih => rw [List.map_cons, List.flatten_cons, List.length_append, ih, hk, List.length_cons, Nat.succ_mul, Nat.add_comm]
      rw [h3]
      exact h
theorem heap_sorted {F : Array Value} {w : World} {blk m : Nat} {os : Array Obj} (j : Nat) (hj : j < w.heap.size) (hne : j ≠ blk) : (Go.Sort.grow (Go.Sort.putRow id (Go.Sort.ahead w m) blk 0 F) os).heap[j]? = w.heap[j]? := by
  unfold Go.Sort.grow Go.Sort.putRow Go.Sort.mapBlock Go.Sort.ahead
  simp only
  rw [Array.getElem?_append_left (by simpa using hj), Array.getElem?_modify, if_neg (fun e => hne e.symm)]
theorem heap_sorted_at {F : Array Value} {w : World} {blk m : Nat} {os : Array Obj} {cur : Array Value} {e : TypeId} {z : Nat × Nat} (hb : w.heap[blk]? = some (.cells cur e z)) : (Go.Sort.grow (Go.Sort.putRow id (Go.Sort.ahead w m) blk 0 F) os).heap[blk]? = some (.cells (Go.Sort.putCells id 0 F cur) e z) := by
  have hj := (Array.getElem?_eq_some_iff.1 hb).1
  unfold Go.Sort.grow Go.Sort.putRow Go.Sort.mapBlock Go.Sort.ahead
  simp only
  rw [Array.getElem?_append_left (by simpa using hj), Array.getElem?_modify, if_pos rfl, hb]
  rfl
theorem take_putCells {F cur : Array Value} (h : F.size ≤ cur.size) : (Go.Sort.putCells id 0 F cur).toList.take F.size = F.toList := by
  apply List.ext_getElem?
  intro t
  rw [List.getElem?_take]
  split
  · rename_i ht
    unfold Go.Sort.putCells
    rw [Array.getElem?_toList, Array.getElem?_mapIdx, Array.getElem?_eq_getElem (by omega), Array.getElem?_toList, Array.getElem?_eq_getElem ht]
    simp only [Option.map_some]
    rw [if_pos ⟨Nat.zero_le _, by omega⟩, Nat.sub_zero, getElem!_pos F t ht]
    rfl
  · rename_i ht
    rw [List.getElem?_eq_none (by simpa using ht)]
/-- slices.SortFunc at a row of the call's own, under a function that parts whatever two elements that are not one. -/
theorem sort_own {P : Program} {rn : Go.Shelf.Ren} {α : Type} [Inhabited α] (L : Go.Proofs.SlLaysF0.n6 P rn) {e k : Nat} (hT : TI P (rn.t 24) true k) (enc : α → List Value) (hE : ∀ a, (enc a).length = k ∧ ∀ u ∈ enc a, u.oneCell' = true) (he : rn.t 24 = e)
    (p : α → α → Option Int) (htot : ∀ x y, ∃ z, p x y = some z) (hO : Go.Sort.SWO (Go.Proofs.ltOf fun x y => (p x y).getD 0)) (hP : ∀ x y, (Go.Proofs.ltOf fun x y => (p x y).getD 0) x y = false → (Go.Proofs.ltOf fun x y => (p x y).getD 0) y x = false → x = y)
    (clf : Nat) (hFO : FOk P clf) (hp : ∀ x y b, p x y = some b → VCalls P clf [Go.Proofs.YtdofmkbffffbpaaV.valOf true (enc x), Go.Proofs.YtdofmkbffffbpaaV.valOf true (enc y)] [] (fun v G own => v = .int .i64 b ∧ G = [] ∧ own = [])) (l0 : List α) (hl : l0.length < 4611686018427387904) (v0 : Value) :
    VOwn P (rn.f 6) [v0, .func (.func clf) #[] #[]] (v0, e, k, l0.map enc) [] (fun q x' => q = .tuple #[] ∧ x' = (v0, e, k, (l0.mergeSort fun x y => !(Go.Proofs.ltOf fun x y => (p x y).getD 0) y x).map enc)) := by
  subst he
  intro base w hbase hrow _
  obtain ⟨hfl, hlen, hv⟩ := hrow
  simp only at hfl hlen hv
  rcases hv with ⟨rfl, h0⟩ | ⟨g, cap, cur, rfl, hg, hb, hc1, hc2, hcs, htake⟩
  · have : l0 = [] := by simpa using h0
    subst this
    refine (Go.Proofs.AnyF.slices_SortFunc_none L none 0 (.func (.func clf) #[] #[]) w).mono ?_
    rintro e1 w1 ⟨rfl, rfl⟩
    exact ⟨_, (.slice none 0 0, rn.t 24, k, []), rfl, ⟨rfl, by simp⟩, ⟨⟨rfl, rfl, rfl, Nat.le_refl _, fun _ _ _ => rfl⟩, Nat.le_refl _⟩, ⟨hfl, hlen, .inl ⟨rfl, rfl⟩⟩, by simp [Value.ownBlock]⟩
  · have hk : ∀ x, (enc x).length = k := fun x => (hE x).1
    have hF := flatK_is hk l0
    have hlm : (l0.map enc).length = l0.length := by simp
    rw [hlm] at hlen hc1 htake
    have hblk := (Array.getElem?_eq_some_iff.1 hb).1
    have hle : l0.length * k ≤ cur.size := by rw [hcs]; exact Nat.mul_le_mul_right _ hc1
    have hsz : l0.toArray.size < 4611686018427387904 := by
      simpa using hl
    have hH : Go.Sort.HoldsK enc k w g 0 l0.toArray := by
      unfold Go.Sort.HoldsK
      rw [hF]
      intro j hj
      have hj2 : j < l0.length * k := by simpa [hlen] using hj
      constructor
      · have h1 : (l0.map enc).flatten[j]? = cur[j]? := by
          rw [← htake, List.getElem?_take, if_pos hj2, Array.getElem?_toList]
        rw [Nat.zero_add, World.cell?]
        simp only [hb]
        rw [← h1]
        have h2 : j < (l0.map enc).flatten.length := by simpa using hj
        rw [List.getElem?_eq_getElem h2, getElem!_pos _ j hj]
        rfl
      · unfold World.frozen?
        simp only [hb]
        simp
    have hcmp : Go.Proofs.CmpLays P clf #[] enc k (fun x y => (p x y).getD 0) g 0 l0.toArray.size w := by
      intro m os dk _ x y
      obtain ⟨z, hz⟩ := htot x y
      refine (hp x y z hz (fun _ => False) _ (fun _ h => h.elim) (by simp)).mono ?_
      rintro e1 w1 ⟨v, G, own, rfl, ⟨rfl, rfl, rfl⟩, _, _, _, hbel⟩
      refine ⟨by simp only [hz]; rfl, hbel.grow⟩
    have hmain := Go.Proofs.AnyQ.slices_SortFunc_total L k (run_isAgg hT) (run_size hT) enc hk (fun x => (hE x).2) (fun x y => (p x y).getD 0) hO clf #[] g 0 cap l0.toArray w (fun args w => run_enter hFO w) hcmp hH hblk hsz hP
    refine Calls.mono (by simpa using hmain) ?_
    rintro e1 w1 ⟨rfl, n, os, rfl⟩
    generalize hr : (l0.mergeSort fun x y => !(Go.Proofs.ltOf fun x y => (p x y).getD 0) y x) = r
    have hrl : r.length = l0.length := by rw [← hr]; exact List.length_mergeSort _
    unfold Go.Proofs.sortWorldK Go.Sort.putRowK
    rw [flatK_is hk r]
    have hrf : ((r.map enc).flatten).length = l0.length * k := by
      rw [flat_len (flat_map hE r)]
      simp [hrl]
    refine ⟨_, _, rfl, ⟨rfl, rfl⟩, ⟨⟨rfl, rfl, rfl, ?_, fun j hj hne => heap_sorted j hj (fun e => hne (by rw [e]; rfl))⟩, ?_⟩, ⟨flat_map hE r, by simpa [hrl] using hrf, .inr ⟨g, cap, Go.Sort.putCells id 0 ((r.map enc).flatten).toArray cur, by simp [hrl], hg, heap_sorted_at hb, by simp [hrl]; omega, hc2, by simp [Go.Sort.putCells, hcs], ?_⟩⟩, fun b hb2 => .inl hb2⟩
    · unfold Go.Sort.grow Go.Sort.putRow Go.Sort.mapBlock Go.Sort.ahead
      simp
    · show w.drawn ≤ w.drawn + n
      omega
    · have := take_putCells (F := ((r.map enc).flatten).toArray) (cur := cur) (by simpa [hrf] using hle)
      simpa [hrf, hrl] using this
theorem ope_fun {P : Program} {E : Env} {s : St} {f : FuncId} {cal : Operand} {args : List Operand} {ats : Array TypeId} {vals : List Value} {dst : Option Nat} {ty : TypeId} {pos : String} {after : Array Edge} {gd : Option (Nat × Bool)} (hF : FOk P f) (hc : s.ev cal = some (.func (.func f) #[] #[])) (ha : args.map s.ev = vals.map some) :
    OpE P E ⟨dst, .call { callee := .value cal, args := args.toArray, argTypes := ats }, ty, pos, after, gd⟩ s f vals := by
  intro a w hev hm
  have hargs : args.map a.eval = vals := evals hev ha
  have h2 := run_call (P := P) (w := w) (caps := #[]) (c := { callee := .value cal, args := args.toArray, argTypes := ats }) (t := ty) (ρ := a.eval) hF rfl (hev _ _ hc)
  have e : (args.toArray.map a.eval) ++ #[] = vals.toArray := by
    rw [List.map_toArray, hargs]
    simp
  rw [← e]
  exact h2
def lay_31_ren : Go.Shelf.Ren := ⟨fun | 6 => 31 | 15 => 45 | 14 => 44 | 28 => 63 | 29 => 64 | 20 => 55 | 21 => 56 | 22 => 57 | 23 => 58 | 24 => 59 | 25 => 60 | 26 => 61 | 27 => 62 | 46 => 78 | 47 => 79 | 48 => 80 | 49 => 81 | 50 => 82 | 57 => 93 | n => n, fun | 22 => 22 | 24 => 26 | 25 => 55 | 3 => 3 | 39 => 68 | 0 => 0 | 53 => 89 | 55 => 91 | 4 => 4 | 46 => 82 | 45 => 81 | 50 => 86 | 5 => 5 | 9 => 9 | 66 => 103 | 70 => 107 | 76 => 117 | 77 => 118 | n => n, fun | n => n⟩
theorem lay_31 : Go.Proofs.SlLaysF0.n6 Try.prog lay_31_ren where
  mixed := by kernel_rfl
  f6 := ⟨"slices.SortFunc[[]tarry/api.Line,tarry/api.Line]", by decide, Try.func31.trans (congrArg some (by kernel_rfl))⟩
  f14 := ⟨"slices.pdqsortCmpFunc[tarry/api.Line]", by decide, Try.func44.trans (congrArg some (by kernel_rfl))⟩
  f15 := Try.func45.trans (congrArg some (by kernel_rfl))
  f20 := ⟨"slices.insertionSortCmpFunc[tarry/api.Line]", by decide, Try.func55.trans (congrArg some (by kernel_rfl))⟩
  f21 := ⟨"slices.heapSortCmpFunc[tarry/api.Line]", by decide, Try.func56.trans (congrArg some (by kernel_rfl))⟩
  f22 := ⟨"slices.breakPatternsCmpFunc[tarry/api.Line]", by decide, Try.func57.trans (congrArg some (by kernel_rfl))⟩
  f23 := ⟨"slices.choosePivotCmpFunc[tarry/api.Line]", by decide, Try.func58.trans (congrArg some (by kernel_rfl))⟩
  f24 := ⟨"slices.reverseRangeCmpFunc[tarry/api.Line]", by decide, Try.func59.trans (congrArg some (by kernel_rfl))⟩
  f25 := ⟨"slices.partialInsertionSortCmpFunc[tarry/api.Line]", by decide, Try.func60.trans (congrArg some (by kernel_rfl))⟩
  f26 := ⟨"slices.partitionEqualCmpFunc[tarry/api.Line]", by decide, Try.func61.trans (congrArg some (by kernel_rfl))⟩
  f27 := ⟨"slices.partitionCmpFunc[tarry/api.Line]", by decide, Try.func62.trans (congrArg some (by kernel_rfl))⟩
  f28 := Try.func63.trans (congrArg some (by kernel_rfl))
  f29 := Try.func64.trans (congrArg some (by kernel_rfl))
  f46 := ⟨"slices.siftDownCmpFunc[tarry/api.Line]", by decide, Try.func78.trans (congrArg some (by kernel_rfl))⟩
  f47 := Try.func79.trans (congrArg some (by kernel_rfl))
  f48 := Try.func80.trans (congrArg some (by kernel_rfl))
  f49 := ⟨"slices.medianAdjacentCmpFunc[tarry/api.Line]", by decide, Try.func81.trans (congrArg some (by kernel_rfl))⟩
  f50 := ⟨"slices.medianCmpFunc[tarry/api.Line]", by decide, Try.func82.trans (congrArg some (by kernel_rfl))⟩
  f57 := ⟨"slices.order2CmpFunc[tarry/api.Line]", by decide, Try.func93.trans (congrArg some (by kernel_rfl))⟩
  t0 := Try.underlying0
  a0 := Try.isAgg0
  z0 := Try.sizeOf0
  v0 := Try.zeroValue0
  t3 := Try.underlying3
  a3 := Try.isAgg3
  z3 := Try.sizeOf3
  v3 := Try.zeroValue3
  t4 := Try.underlying4
  a4 := Try.isAgg4
  z4 := Try.sizeOf4
  v4 := Try.zeroValue4
  t5 := Try.underlying5
  a5 := Try.isAgg5
  z5 := Try.sizeOf5
  v5 := Try.zeroValue5
  t9 := Try.underlying9
  a9 := Try.isAgg9
  z9 := Try.sizeOf9
  v9 := Try.zeroValue9
  t22 := Try.underlying22
  a22 := Try.isAgg22
  z22 := Try.sizeOf22
  v22 := Try.zeroValue22
  t25 := Try.underlying55
  a25 := Try.isAgg55
  z25 := Try.sizeOf55
  v25 := Try.zeroValue55
  t39 := Try.underlying68
  a39 := Try.isAgg68
  z39 := Try.sizeOf68
  v39 := Try.zeroValue68
  t45 := Try.underlying81
  a45 := Try.isAgg81
  z45 := Try.sizeOf81
  v45 := Try.zeroValue81
  t46 := Try.underlying82
  a46 := Try.isAgg82
  z46 := Try.sizeOf82
  v46 := Try.zeroValue82
  t50 := Try.underlying86
  a50 := Try.isAgg86
  z50 := Try.sizeOf86
  v50 := Try.zeroValue86
  t53 := Try.underlying89
  a53 := Try.isAgg89
  z53 := Try.sizeOf89
  v53 := Try.zeroValue89
  t55 := Try.underlying91
  a55 := Try.isAgg91
  z55 := Try.sizeOf91
  v55 := Try.zeroValue91
  t66 := Try.underlying103
  a66 := Try.isAgg103
  z66 := Try.sizeOf103
  v66 := Try.zeroValue103
  t70 := Try.underlying107
  a70 := Try.isAgg107
  z70 := Try.sizeOf107
  v70 := Try.zeroValue107
  t76 := Try.underlying117
  a76 := Try.isAgg117
  z76 := Try.sizeOf117
  v76 := Try.zeroValue117
  t77 := Try.underlying118
  a77 := Try.isAgg118
  z77 := Try.sizeOf118
  v77 := Try.zeroValue118
/-! ### texts in order -/
theorem cb_self : ∀ l : List UInt8, Lib.compareBytes l l = 0
  | [] => rfl
  | a :: l => by
    have : ¬ a < a := by simp [UInt8.lt_iff_toNat_lt]
    rw [Lib.compareBytes, if_neg this, if_neg this]
    exact cb_self l
theorem cb_eq : ∀ (a b : List UInt8), Lib.compareBytes a b = 0 → a = b
  | [], [], _ => rfl
  | [], _ :: _, h => by rw [Lib.compareBytes] at h; omega
  | _ :: _, [], h => by rw [Lib.compareBytes] at h; omega
  | a :: xs, b :: ys, h => by
    rw [Lib.compareBytes] at h
    split at h
    · omega
    · split at h
      · omega
      · rename_i h1 h2
        have : a = b := by
          apply UInt8.toNat_inj.1
          simp only [UInt8.lt_iff_toNat_lt] at h1 h2
          omega
        rw [this, cb_eq xs ys h]
theorem cb_anti : ∀ (a b : List UInt8), Lib.compareBytes a b = - Lib.compareBytes b a
  | [], [] => rfl
  | [], _ :: _ => rfl
  | _ :: _, [] => rfl
  | a :: xs, b :: ys => by
    rw [Lib.compareBytes, Lib.compareBytes, cb_anti xs ys]
    simp only [UInt8.lt_iff_toNat_lt]
    split <;> split <;> omega
theorem cb_trans : ∀ (a b c : List UInt8), Lib.compareBytes a b < 0 → Lib.compareBytes b c < 0 → Lib.compareBytes a c < 0
  | [], [], _, h, _ => by rw [Lib.compareBytes] at h; omega
  | [], _ :: _, [], _, h => by rw [Lib.compareBytes] at h; omega
  | [], _ :: _, _ :: _, _, _ => by rw [Lib.compareBytes]; omega
  | _ :: _, [], _, h, _ => by rw [Lib.compareBytes] at h; omega
  | _ :: _, _ :: _, [], _, h => by rw [Lib.compareBytes] at h; omega
  | a :: xs, b :: ys, c :: zs, h1, h2 => by
    have ih := cb_trans xs ys zs
    rw [Lib.compareBytes] at h1 h2 ⊢
    simp only [UInt8.lt_iff_toNat_lt] at *
    split at h1
    · split at h2
      · rw [if_pos (by omega)]; omega
      · split at h2
        · omega
        · rw [if_pos (by omega)]; omega
    · split at h1
      · omega
      · split at h2
        · rw [if_pos (by omega)]; omega
        · split at h2
          · omega
          · rw [if_neg (by omega), if_neg (by omega)]
            exact ih h1 h2
def sc (a b : ByteArray) : Int := Lib.compareBytes a.data.toList b.data.toList
def sl (a b : ByteArray) : Prop := sc a b < 0
instance (a b : ByteArray) : Decidable (sl a b) := by unfold sl; exact inferInstance
theorem sl_trans {a b c : ByteArray} (h1 : sl a b) (h2 : sl b c) : sl a c := cb_trans _ _ _ h1 h2
theorem sc_self (a : ByteArray) : sc a a = 0 := cb_self _
theorem sc_anti (a b : ByteArray) : sc a b = - sc b a := cb_anti _ _
theorem sc_eq {a b : ByteArray} : sc a b = 0 ↔ a = b := by
  refine ⟨fun h => ?_, fun h => by rw [h]; exact sc_self b⟩
  have := cb_eq _ _ h
  cases a with
  | mk a =>
    cases b with
    | mk b => simpa using this
theorem sl_irr (a : ByteArray) : ¬ sl a a := by unfold sl; rw [sc_self]; decide
theorem sl_asymm {a b : ByteArray} (h : sl a b) : ¬ sl b a := by unfold sl at *; rw [sc_anti b a]; omega
theorem sl_tri {a b : ByteArray} (h : ¬ sl a b) (hne : a ≠ b) : sl b a := by
  unfold sl at *
  rw [sc_anti b a]
  have : sc a b ≠ 0 := fun e => hne (sc_eq.1 e)
  omega
theorem or_at (k : Nat) (l : List Int) (m i : Nat) (x : Int) (hx : l[i]? = some x) (hi : i < 1000) : cmp_Or_int.l1 k l (m + 1) (i : Int) = if x = 0 then cmp_Or_int.l1 k l m ((i + 1 : Nat) : Int) else some x := by
  have hl : i < l.length := (List.getElem?_eq_some_iff.1 hx).1
  have hw : wrap64 ((i : Int) + 1) = ((i + 1 : Nat) : Int) := by
    unfold wrap64
    omega
  rw [cmp_Or_int.l1, if_pos (by omega), if_pos (by omega), Int.toNat_natCast, hx, Option.bind_some, hw]
theorem or_end (k : Nat) (l : List Int) (m i : Nat) (h : l.length ≤ i) : cmp_Or_int.l1 k l (m + 1) (i : Int) = some 0 := by
  rw [cmp_Or_int.l1, if_neg (by omega)]
theorem or2_is (k : Nat) (hk : 4 ≤ k) (a b : Int) : cmp_Or_int.f k [a, b] = some (if a = 0 then b else a) := by
  obtain ⟨k, rfl⟩ : ∃ q, k = q + 4 := ⟨k - 4, by omega⟩
  unfold cmp_Or_int.f
  rw [show (0 : Int) = ((0 : Nat) : Int) from rfl, or_at _ _ _ _ a rfl (by decide), or_at _ _ _ _ b rfl (by decide), or_end _ _ _ _ (by simp)]
  repeat' split
  all_goals simp_all
theorem or3_is (k : Nat) (hk : 4 ≤ k) (a b c : Int) : cmp_Or_int.f k [a, b, c] = some (if a = 0 then (if b = 0 then c else b) else a) := by
  obtain ⟨k, rfl⟩ : ∃ q, k = q + 4 := ⟨k - 4, by omega⟩
  unfold cmp_Or_int.f
  rw [show (0 : Int) = ((0 : Nat) : Int) from rfl, or_at _ _ _ _ a rfl (by decide), or_at _ _ _ _ b rfl (by decide), or_at _ _ _ _ c rfl (by decide), or_end _ _ _ _ (by simp)]
  repeat' split
  all_goals simp_all
theorem cint_is (a b : Int) : cmp_Compare_int.f a b = some (if a < b then -1 else if a > b then 1 else 0) := by
  unfold cmp_Compare_int.f cmp_isNaN_int.f
  simp only [Option.bind_some, bne_self_eq_false, Bool.false_eq_true, if_false]
  split
  · rfl
  · split <;> rfl
/-- Which wait goes ahead. -/
def ql (a b : S25) : Prop := a.f1 < b.f1 ∨ (a.f1 = b.f1 ∧ (a.f2 < b.f2 ∨ (a.f2 = b.f2 ∧ a.f3 < b.f3)))
instance (a b : S25) : Decidable (ql a b) := by unfold ql; exact inferInstance
/-- Which line stands ahead. -/
def lt (a b : S25) : Prop := sl a.f0 b.f0 ∨ (a.f0 = b.f0 ∧ ql a b)
instance (a b : S25) : Decidable (lt a b) := by unfold lt; exact inferInstance
theorem qless_is (k : Nat) (hk : 4 ≤ k) (x y : S25) : queue_Less.f k x.f1 x.f2 x.f3 y.f1 y.f2 y.f3 = some (decide (ql x y)) := by
  unfold queue_Less.f queue_compare.f
  simp only [cint_is, Option.bind_some, or3_is k hk]
  congr 1
  rw [decide_eq_decide]
  unfold ql
  repeat' split
  all_goals omega
theorem ql_irr (a : S25) : ¬ ql a a := by unfold ql; omega
theorem ql_asymm {a b : S25} (h : ql a b) : ¬ ql b a := by unfold ql at *; omega
theorem ql_trans {a b c : S25} (h1 : ql a b) (h2 : ql b c) : ql a c := by unfold ql at *; omega
theorem scmp_is (a b : ByteArray) : strings_Compare.f a b = some (sc a b) := rfl
theorem cmp_is (k : Nat) (hk : 4 ≤ k) (x y : S25) : ∃ c, waits_compare.f k x.f0 x.f1 x.f2 x.f3 y.f0 y.f1 y.f2 y.f3 = some c ∧ (c < 0 ↔ lt x y) := by
  have w0 : wrap64 (1 - 1) = 0 := by decide +kernel
  have w1 : wrap64 (0 - 1) = -1 := by decide +kernel
  have w2 : wrap64 (1 - 0) = 1 := by decide +kernel
  have w3 : wrap64 (0 - 0) = 0 := by decide +kernel
  have he := @sc_eq x.f0 y.f0
  unfold waits_compare.f
  rw [qless_is k hk x y, qless_is k hk y x]
  simp only [Option.bind_some, scmp_is, or2_is k hk, w0, w1, w2, w3, decide_eq_true_eq]
  have h1 := @ql_asymm x y
  unfold lt sl
  rw [← he]
  generalize sc x.f0 y.f0 = s at *
  by_cases a1 : ql x y
  · have a2 := h1 a1
    simp only [if_pos a1, if_neg a2]
    refine ⟨_, rfl, ?_⟩
    split
    · rename_i h; subst h; simp [a1]
    · rename_i h; simp [h]
  · by_cases a2 : ql y x
    · simp only [if_neg a1, if_pos a2]
      refine ⟨_, rfl, ?_⟩
      split
      · rename_i h; subst h; simp [a1]
      · rename_i h; simp [h]
    · simp only [if_neg a1, if_neg a2]
      refine ⟨_, rfl, ?_⟩
      split
      · rename_i h; subst h; simp [a1]
      · rename_i h; simp [h]
theorem lt_irr (a : S25) : ¬ lt a a := by
  rintro (h | ⟨_, h⟩)
  · exact sl_irr _ h
  · exact ql_irr _ h
theorem lt_trans {a b c : S25} (h1 : lt a b) (h2 : lt b c) : lt a c := by
  unfold lt at *
  rcases h1 with h1 | ⟨e1, h1⟩ <;> rcases h2 with h2 | ⟨e2, h2⟩
  · exact .inl (sl_trans h1 h2)
  · exact .inl (e2 ▸ h1)
  · exact .inl (e1 ▸ h2)
  · exact .inr ⟨e1.trans e2, ql_trans h1 h2⟩
theorem lt_tri {a b : S25} (h1 : ¬ lt a b) (h2 : ¬ lt b a) : a = b := by
  unfold lt at *
  have e : a.f0 = b.f0 := by
    by_cases e : a.f0 = b.f0
    · exact e
    · exact absurd (sl_tri (fun h => h1 (.inl h)) e) (fun h => h2 (.inl h))
  have h3 : ¬ ql a b := fun h => h1 (.inr ⟨e, h⟩)
  have h4 : ¬ ql b a := fun h => h2 (.inr ⟨e.symm, h⟩)
  unfold ql at *
  cases a
  cases b
  simp only [S25.mk.injEq] at *
  exact ⟨e, by omega, by omega, by omega⟩
theorem lt_asymm {a b : S25} (h1 : lt a b) : ¬ lt b a := fun h2 => lt_irr a (lt_trans h1 h2)
theorem slices_SortFunc_api_Line_api_Line.is (k : Nat) (hk : 4 ≤ k) (x y : S25) : (Go.Proofs.ltOf fun x y => (slices_SortFunc_api_Line_api_Line.p k x y).getD 0) x y = decide (lt x y) := by
  obtain ⟨c, h1, h2⟩ := cmp_is k hk x y
  have e : (slices_SortFunc_api_Line_api_Line.p k x y).getD 0 = c := by
    unfold slices_SortFunc_api_Line_api_Line.p
    rw [h1, Option.getD_some]
  show decide ((slices_SortFunc_api_Line_api_Line.p k x y).getD 0 < 0) = _
  rw [decide_eq_decide, e]
  exact h2
theorem slices_SortFunc_api_Line_api_Line.total (k : Nat) (hk : 4 ≤ k) (x y : S25) : ∃ z, slices_SortFunc_api_Line_api_Line.p k x y = some z := by
  obtain ⟨c, h1, _⟩ := cmp_is k hk x y
  exact ⟨c, h1⟩
theorem slices_SortFunc_api_Line_api_Line.order (k : Nat) (hk : 4 ≤ k) : Go.Sort.SWO (Go.Proofs.ltOf fun x y => (slices_SortFunc_api_Line_api_Line.p k x y).getD 0) where
  irrefl := fun x => by rw [slices_SortFunc_api_Line_api_Line.is k hk]; exact decide_eq_false (lt_irr x)
  trans := fun x y z h1 h2 => by
    rw [slices_SortFunc_api_Line_api_Line.is k hk] at *
    exact decide_eq_true (lt_trans (of_decide_eq_true h1) (of_decide_eq_true h2))
  ntrans := fun x y z h1 h2 => by
    rw [slices_SortFunc_api_Line_api_Line.is k hk] at *
    have a1 := of_decide_eq_false h1
    have a2 := of_decide_eq_false h2
    refine decide_eq_false fun h => ?_
    by_cases b1 : lt y x
    · exact a2 (lt_trans b1 h)
    · have := lt_tri a1 b1
      subst this
      exact a2 h
theorem slices_SortFunc_api_Line_api_Line.parts (k : Nat) (hk : 4 ≤ k) (x y : S25) (h1 : (Go.Proofs.ltOf fun x y => (slices_SortFunc_api_Line_api_Line.p k x y).getD 0) x y = false) (h2 : (Go.Proofs.ltOf fun x y => (slices_SortFunc_api_Line_api_Line.p k x y).getD 0) y x = false) : x = y := by
  rw [slices_SortFunc_api_Line_api_Line.is k hk] at *
  exact lt_tri (of_decide_eq_false h1) (of_decide_eq_false h2)
instance : Inhabited S25 := ⟨⟨.empty, 0, 0, 0⟩⟩
theorem slices_SortFunc_api_Line_api_Line.ok (k : Nat) (hp : ∀ x y b, slices_SortFunc_api_Line_api_Line.p k x y = some b → VCalls Try.prog 32 [Go.Proofs.YtdofmkbffffbpaaV.valOf true (enc25 x), Go.Proofs.YtdofmkbffffbpaaV.valOf true (enc25 y)] [] (fun v G own => v = .int .i64 b ∧ G = [] ∧ own = [])) (l0 : List S25) (v0 : Value) (r1 : List S25) (h : slices_SortFunc_api_Line_api_Line.f k l0 = some r1) :
    VOwn Try.prog 31 [v0, .func (.func 32) #[] #[]] (v0, 26, 4, l0.map enc25) [] (fun q x' => q = .tuple #[] ∧ x' = (v0, 26, 4, r1.map enc25)) := by
  unfold slices_SortFunc_api_Line_api_Line.f at h
  by_cases hc : ¬ (4 ≤ k ∧ l0.length < 4611686018427387904)
  · rw [if_neg hc] at h
    cases h
  replace hc := Decidable.not_not.1 hc
  rw [if_pos hc] at h
  obtain rfl := Option.some.inj h
  exact sort_own lay_31 TI26 enc25 enc25_ok rfl (slices_SortFunc_api_Line_api_Line.p k) (slices_SortFunc_api_Line_api_Line.total k hc.1) (slices_SortFunc_api_Line_api_Line.order k hc.1) (slices_SortFunc_api_Line_api_Line.parts k hc.1) 32 FO32 hp l0 hc.2 v0
set_option maxHeartbeats 4000000 in
set_option maxRecDepth 100000 in
theorem waits_Make.ok (k : Nat) (l0 : List S25) (v0 : Value) (r1 : List S25) (r2 : Int) (h : waits_Make.f k l0 = some (r1, r2)) :
    VCalls Try.prog 9 [v0] [.row v0 4 (l0.map enc25)] (fun v G own => ∃ w0 : Value, v = .tuple #[w0, .int .i64 r2] ∧ G = [] ∧ own = [(w0, 26, 4, r1.map enc25)]) := by
  refine VCalls.intro Try.func9 rfl (len rfl) fun E hC hW hD hU => ?_
  unfold waits_Make.f at h
  refine VC.seq ?_
  refine VC.region ?_
  refine VL.va (op_assign rfl (ltn rfl)) rfl ?_
  refine VL.va (op_assign rfl (ltn rfl)) rfl ?_
  refine VL.done ?_
  refine VN.then ?_
  refine VC.seq ?_
  refine VC.seq ?_
  refine VC.region ?_
  refine VL.va (op_move rfl (ltn rfl)) rfl ?_
  replace h := Option.bind_eq_some_iff.1 h
  obtain ⟨t2391, hA2392, h⟩ := h
  refine VL.sC (o_call0 FO29 (waits_all.ok k l0 v0 t2391 hA2392) rfl rfl (ltn rfl) (All_of (.cons (List.mem_of_getElem? (i := 0) rfl) .nil))) rfl ?_
  rintro _ _ _ ⟨rfl, rfl, rfl⟩
  by_cases c2393 : t2391 = true
  · rw [if_pos c2393] at h
    obtain rfl := c2393
    refine VL.va (op_not rfl rfl (ltn rfl)) rfl ?_
    refine VL.done ?_
    refine VN.then ?_
    refine VC.cond_f rfl ?_
    refine VC.skip ?_
    refine VN.then ?_
    refine VC.seq ?_
    refine VC.region ?_
    refine VL.va (op_move rfl (ltn rfl)) rfl ?_
    replace h := Option.bind_eq_some_iff.1 h
    obtain ⟨r2394, hA2395, h⟩ := h
    refine VL.sC (o_call_b0 FO30 (slices_Clone_api_Line_api_Line.ok l0 v0 r2394 hA2395) rfl rfl (ltn rfl) (All_of (.cons (.inl (List.mem_of_getElem? (i := 0) rfl)) .nil)) (by rintro _ _ _ ⟨_, rfl, rfl, rfl⟩; rfl)) rfl ?_
    rintro v2397 _ _ ⟨_, rfl, rfl, rfl⟩
    refine VL.va (op_assign rfl (ltn rfl)) rfl ?_
    refine VL.done ?_
    refine VN.then ?_
    refine VC.seq ?_
    refine VC.region ?_
    refine VL.va (op_move rfl (ltn rfl)) rfl ?_
    replace h := Option.bind_eq_some_iff.1 h
    obtain ⟨r2398, hA2399, h⟩ := h
    refine VL.step1 (ope_ownd (vals := [v2397, .func (.func 32) #[] #[]]) 0 rfl (ope_fun FO31 rfl rfl) (slices_SortFunc_api_Line_api_Line.ok k (fun x y b hb => waits_compare.ok k x.f0 x.f1 x.f2 x.f3 y.f0 y.f1 y.f2 y.f3 b hb) r2394 v2397 r2398 hA2399) (by simp) (ltn rfl)) rfl ?_
    refine VL.done ?_
    refine VN.then ?_
    refine VC.seq ?_
    refine VC.region ?_
    refine VL.va (op_move rfl (ltn rfl)) rfl ?_
    refine VL.va (op_assign rfl (ltn rfl)) rfl ?_
    refine VL.va (op_assign rfl (ltn rfl)) rfl ?_
    refine VL.done ?_
    refine VN.then ?_
    refine VC.ret ?_
    simp only [Option.some.injEq, Prod.mk.injEq] at h
    obtain ⟨rfl, rfl⟩ := h
    exact VR.fn (rs := [.tmp 2, .tmp 3]) [] [(v2397, 26, 4, r2398.map enc25)] [0] rfl (.tmp rfl (.tmp rfl .nil)) ⟨v2397, rfl, rfl, rfl⟩ trivial rfl (by decide)
  · rw [if_neg c2393] at h
    obtain rfl := Bool.eq_false_iff.2 c2393
    refine VL.va (op_not rfl rfl (ltn rfl)) rfl ?_
    refine VL.done ?_
    refine VN.then ?_
    refine VC.cond_t rfl ?_
    refine VC.seq ?_
    refine VC.region ?_
    refine VL.va (op_assign rfl (ltn rfl)) rfl ?_
    refine VL.va (op_assign rfl (ltn rfl)) rfl ?_
    refine VL.done ?_
    refine VN.then ?_
    refine VC.ret ?_
    refine VR.then ?_
    simp only [Option.some.injEq, Prod.mk.injEq] at h
    obtain ⟨rfl, rfl⟩ := h
    refine VR.nilRow' 26 4 ?_
    exact VR.fn (rs := [.tmp 2, .tmp 3]) [] [((.slice none 0 0), 26, 4, ([] : List S25).map enc25)] [0] rfl (.tmp rfl (.tmp rfl .nil)) ⟨(.slice none 0 0), rfl, rfl, rfl⟩ trivial rfl (by decide)
set_option maxHeartbeats 4000000 in
set_option maxRecDepth 100000 in
theorem waits_Move.ok (k : Nat) (l0 : List S25) (a1 : Int) (a2 : Int) (v0 : Value) (r1 : List S25) (r2 : Int) (h : waits_Move.f k l0 a1 a2 = some (r1, r2)) :
    VCalls Try.prog 20 [v0, .int .i64 a1, .int .i64 a2] [.row v0 4 (l0.map enc25)] (fun v G own => ∃ w0 : Value, v = .tuple #[w0, .int .i64 r2] ∧ G = [] ∧ own = [(w0, 26, 4, r1.map enc25)]) := by
  refine VCalls.intro Try.func20 rfl (len rfl) fun E hC hW hD hU => ?_
  unfold waits_Move.f at h
  refine VC.seq ?_
  refine VC.region ?_
  refine VL.va (op_assign rfl (ltn rfl)) rfl ?_
  refine VL.va (op_assign rfl (ltn rfl)) rfl ?_
  refine VL.done ?_
  refine VN.then ?_
  refine VC.seq ?_
  refine VC.seq ?_
  refine VC.region ?_
  refine VL.va (op_move rfl (ltn rfl)) rfl ?_
  refine VL.letter (decide (a2 < 0)) fun b2356 hb2356 => ?_
  refine VL.va (op_cmp rfl rfl (congrArg some hb2356) (ltn rfl)) rfl ?_
  refine VL.va (op_move rfl (ltn rfl)) rfl ?_
  by_cases c2357 : a2 < 0
  · rw [if_pos c2357] at h
    obtain rfl : b2356 = true := hb2356.symm.trans (decide_eq_true c2357)
    refine VL.un rfl rfl (ltn rfl) ?_
    refine VL.un rfl rfl (ltn rfl) ?_
    refine VL.va (op_pick rfl rfl (ltn rfl)) rfl ?_
    refine VL.done ?_
    refine VN.then ?_
    refine VC.cond_t rfl ?_
    refine VC.seq ?_
    refine VC.region ?_
    refine VL.va (op_assign rfl (ltn rfl)) rfl ?_
    refine VL.va (op_assign rfl (ltn rfl)) rfl ?_
    refine VL.done ?_
    refine VN.then ?_
    refine VC.ret ?_
    refine VR.then ?_
    simp only [Option.some.injEq, Prod.mk.injEq] at h
    obtain ⟨rfl, rfl⟩ := h
    refine VR.nilRow' 26 4 ?_
    exact VR.fn (rs := [.tmp 6, .tmp 7]) [] [((.slice none 0 0), 26, 4, ([] : List S25).map enc25)] [0] rfl (.tmp rfl (.tmp rfl .nil)) ⟨(.slice none 0 0), rfl, rfl, rfl⟩ trivial rfl (by decide)
  · rw [if_neg c2357] at h
    obtain rfl : b2356 = false := hb2356.symm.trans (decide_eq_false c2357)
    refine VL.va (op_move rfl (ltn rfl)) rfl ?_
    refine VL.letter (decide (a2 ≥ 4)) fun b2359 hb2359 => ?_
    refine VL.va (op_cmp rfl rfl (congrArg some hb2359) (ltn rfl)) rfl ?_
    refine VL.va (op_pick rfl rfl (ltn rfl)) rfl ?_
    refine VL.done ?_
    refine VN.then ?_
    by_cases c2360 : a2 ≥ 4
    · rw [if_pos c2360] at h
      obtain rfl : b2359 = true := hb2359.symm.trans (decide_eq_true c2360)
      refine VC.cond_t rfl ?_
      refine VC.seq ?_
      refine VC.region ?_
      refine VL.va (op_assign rfl (ltn rfl)) rfl ?_
      refine VL.va (op_assign rfl (ltn rfl)) rfl ?_
      refine VL.done ?_
      refine VN.then ?_
      refine VC.ret ?_
      refine VR.then ?_
      simp only [Option.some.injEq, Prod.mk.injEq] at h
      obtain ⟨rfl, rfl⟩ := h
      refine VR.nilRow' 26 4 ?_
      exact VR.fn (rs := [.tmp 6, .tmp 7]) [] [((.slice none 0 0), 26, 4, ([] : List S25).map enc25)] [0] rfl (.tmp rfl (.tmp rfl .nil)) ⟨(.slice none 0 0), rfl, rfl, rfl⟩ trivial rfl (by decide)
    · rw [if_neg c2360] at h
      obtain rfl : b2359 = false := hb2359.symm.trans (decide_eq_false c2360)
      refine VC.cond_f rfl ?_
      refine VC.skip ?_
      refine VN.then ?_
      refine VC.seq ?_
      refine VC.region ?_
      refine VL.va (op_move rfl (ltn rfl)) rfl ?_
      refine VL.va (op_move rfl (ltn rfl)) rfl ?_
      replace h := Option.bind_eq_some_iff.1 h
      obtain ⟨⟨t2362, t2363⟩, hA2364, h⟩ := h
      dsimp only at h
      refine VL.sC (o_call0 FO41 (waits_at.ok k l0 a1 v0 t2362 t2363 hA2364) rfl rfl (ltn rfl) (All_of (.cons (List.mem_of_getElem? (i := 0) rfl) .nil))) rfl ?_
      rintro _ _ _ ⟨rfl, rfl, rfl⟩
      refine VL.va (op_move rfl (ltn rfl)) rfl ?_
      refine VL.va (op_extract rfl rfl (ltn rfl)) rfl ?_
      refine VL.va (op_extract rfl rfl (ltn rfl)) rfl ?_
      refine VL.va (op_assign rfl (ltn rfl)) rfl ?_
      refine VL.va (op_assign rfl (ltn rfl)) rfl ?_
      refine VL.done ?_
      refine VN.then ?_
      refine VC.seq ?_
      refine VC.seq ?_
      refine VC.region ?_
      refine VL.va (op_move rfl (ltn rfl)) rfl ?_
      refine VL.letter ((t2363 != 0)) fun b2368 hb2368 => ?_
      refine VL.va (op_cmp rfl rfl (congrArg some hb2368) (ltn rfl)) rfl ?_
      refine VL.done ?_
      refine VN.then ?_
      by_cases c2369 : t2363 = 0
      · rw [if_pos c2369] at h
        obtain rfl : b2368 = false := hb2368.symm.trans (bne_eq_false_iff_eq.2 c2369)
        refine VC.cond_f rfl ?_
        refine VC.skip ?_
        refine VN.then ?_
        refine VC.seq ?_
        refine VC.region ?_
        refine VL.va (op_move rfl (ltn rfl)) rfl ?_
        replace h := Option.bind_eq_some_iff.1 h
        obtain ⟨r2370, hA2371, h⟩ := h
        refine VL.sC (o_call_b0 FO30 (slices_Clone_api_Line_api_Line.ok l0 v0 r2370 hA2371) rfl rfl (ltn rfl) (All_of (.cons (.inl (List.mem_of_getElem? (i := 0) rfl)) .nil)) (by rintro _ _ _ ⟨_, rfl, rfl, rfl⟩; rfl)) rfl ?_
        rintro v2373 _ _ ⟨_, rfl, rfl, rfl⟩
        refine VL.va (op_assign rfl (ltn rfl)) rfl ?_
        refine VL.done ?_
        refine VN.then ?_
        refine VC.seq ?_
        refine VC.region ?_
        refine VL.va (op_move rfl (ltn rfl)) rfl ?_
        refine VL.va (op_move rfl (ltn rfl)) rfl ?_
        refine VL.va (op_move rfl (ltn rfl)) rfl ?_
        by_cases c2374 : 0 ≤ t2362
        · rw [if_pos c2374] at h
          replace h := Option.bind_eq_some_iff.1 h
          obtain ⟨x2375, hx2375, h⟩ := h
          refine VL.openR (m := r2370.length) 0 lenm rfl (pos_get hx2375) ?_
          rintro g2376 n2377 rfl
          refine VL.va (op_indexAddr Try.underlying22 TI26 rfl rfl c2374 (lt_get c2374 hx2375) (add_zero_at _ _) (ltn rfl)) rfl ?_
          refine VL.va (op_fieldAddr FI26_1 rfl (add_at _ _ _) (ltn rfl)) rfl ?_
          refine VL.va (op_fieldAddr FI24_0 rfl (add_at _ _ _) (ltn rfl)) rfl ?_
          refine VL.step1 (o_store_own (sz := 4) (o := 1) (es3 := List.map enc25 (r2370.set t2362.toNat (⟨x2375.f0, a2, x2375.f2, x2375.f3⟩ : S25))) 0 t2362.toNat 1 lenm (setm rfl) rfl rfl rfl (get_map hx2375) TI3 (.c rfl) rfl (len rfl)) rfl ?_
          refine VL.done ?_
          refine VN.then ?_
          refine VC.seq ?_
          refine VC.region ?_
          refine VL.va (op_move rfl (ltn rfl)) rfl ?_
          replace h := Option.bind_eq_some_iff.1 h
          obtain ⟨⟨r2402, t2403⟩, hA2404, h⟩ := h
          dsimp only at h
          refine VL.sC (o_call_b0 FO9 (waits_Make.ok k (r2370.set t2362.toNat (⟨x2375.f0, a2, x2375.f2, x2375.f3⟩ : S25)) (.slice (some ⟨g2376, 0, none⟩) r2370.length n2377) r2402 t2403 hA2404) rfl rfl (ltn rfl) (All_of (.cons (.inr (.inl ⟨_, List.mem_of_getElem? (i := 0) rfl, rfl⟩)) .nil)) (by rintro _ _ _ ⟨v2406, rfl, rfl, rfl⟩; rfl)) rfl ?_
          rintro _ _ _ ⟨v2406, rfl, rfl, rfl⟩
          refine VL.va (op_extract rfl rfl (ltn rfl)) rfl ?_
          refine VL.va (op_extract rfl rfl (ltn rfl)) rfl ?_
          refine VL.va (op_assign rfl (ltn rfl)) rfl ?_
          refine VL.va (op_assign rfl (ltn rfl)) rfl ?_
          refine VL.done ?_
          refine VN.then ?_
          refine VC.ret ?_
          simp only [Option.some.injEq, Prod.mk.injEq] at h
          obtain ⟨rfl, rfl⟩ := h
          exact VR.fn (rs := [.tmp 6, .tmp 7]) [] [(v2406, 26, 4, r2402.map enc25)] [0] rfl (.tmp rfl (.tmp rfl .nil)) ⟨v2406, rfl, rfl, rfl⟩ trivial rfl (by decide)
        · rw [if_neg c2374] at h; cases h
      · rw [if_neg c2369] at h
        obtain rfl : b2368 = true := hb2368.symm.trans (bne_iff_ne.2 c2369)
        refine VC.cond_t rfl ?_
        refine VC.seq ?_
        refine VC.region ?_
        refine VL.va (op_move rfl (ltn rfl)) rfl ?_
        refine VL.va (op_assign rfl (ltn rfl)) rfl ?_
        refine VL.va (op_assign rfl (ltn rfl)) rfl ?_
        refine VL.done ?_
        refine VN.then ?_
        refine VC.ret ?_
        refine VR.then ?_
        simp only [Option.some.injEq, Prod.mk.injEq] at h
        obtain ⟨rfl, rfl⟩ := h
        refine VR.nilRow' 26 4 ?_
        exact VR.fn (rs := [.tmp 6, .tmp 7]) [] [((.slice none 0 0), 26, 4, ([] : List S25).map enc25)] [0] rfl (.tmp rfl (.tmp rfl .nil)) ⟨(.slice none 0 0), rfl, rfl, rfl⟩ trivial rfl (by decide)
set_option maxHeartbeats 4000000 in
set_option maxRecDepth 100000 in
theorem waits_Find.ok (k : Nat) (l0 : List S25) (a1 : Int) (v0 : Value) (r1 : ByteArray) (r2 : Int) (r3 : Int) (r4 : Int) (r5 : Int) (h : waits_Find.f k l0 a1 = some (r1, r2, r3, r4, r5)) :
    VCalls Try.prog 21 [v0, .int .i64 a1] [.row v0 4 (l0.map enc25)] (fun v G own => v = .tuple #[.agg #[.string r1, .int .i64 r2, .int .i64 r3, .int .i64 r4], .int .i64 r5] ∧ G = [] ∧ own = []) := by
  refine VCalls.intro Try.func21 rfl (len rfl) fun E hC hW hD hU => ?_
  unfold waits_Find.f at h
  refine VC.seq ?_
  refine VC.region ?_
  refine VL.sG (o_alloc Z26 ZL26 (ltn rfl)) rfl ?_
  intro g2414
  refine VL.va (op_assign rfl (ltn rfl)) rfl ?_
  refine VL.done ?_
  refine VN.then ?_
  refine VC.seq ?_
  refine VC.region ?_
  refine VL.va (op_move rfl (ltn rfl)) rfl ?_
  refine VL.va (op_move rfl (ltn rfl)) rfl ?_
  replace h := Option.bind_eq_some_iff.1 h
  obtain ⟨⟨t2415, t2416⟩, hA2417, h⟩ := h
  dsimp only at h
  refine VL.sC (o_call0 FO41 (waits_at.ok k l0 a1 v0 t2415 t2416 hA2417) rfl rfl (ltn rfl) (All_of (.cons (List.mem_of_getElem? (i := 0) rfl) .nil))) rfl ?_
  rintro _ _ _ ⟨rfl, rfl, rfl⟩
  refine VL.va (op_move rfl (ltn rfl)) rfl ?_
  refine VL.va (op_extract rfl rfl (ltn rfl)) rfl ?_
  refine VL.va (op_extract rfl rfl (ltn rfl)) rfl ?_
  refine VL.va (op_assign rfl (ltn rfl)) rfl ?_
  refine VL.va (op_assign rfl (ltn rfl)) rfl ?_
  refine VL.done ?_
  refine VN.then ?_
  refine VC.seq ?_
  refine VC.seq ?_
  refine VC.region ?_
  refine VL.va (op_move rfl (ltn rfl)) rfl ?_
  refine VL.letter ((t2416 != 0)) fun b2420 hb2420 => ?_
  refine VL.va (op_cmp rfl rfl (congrArg some hb2420) (ltn rfl)) rfl ?_
  refine VL.done ?_
  refine VN.then ?_
  by_cases c2421 : t2416 = 0
  · rw [if_pos c2421] at h
    obtain rfl : b2420 = false := hb2420.symm.trans (bne_eq_false_iff_eq.2 c2421)
    refine VC.cond_f rfl ?_
    refine VC.skip ?_
    refine VN.then ?_
    refine VC.seq ?_
    refine VC.region ?_
    refine VL.va (op_move rfl (ltn rfl)) rfl ?_
    refine VL.va (op_move rfl (ltn rfl)) rfl ?_
    by_cases c2422 : 0 ≤ t2415
    · rw [if_pos c2422] at h
      replace h := Option.bind_eq_some_iff.1 h
      obtain ⟨x2423, hx2423, h⟩ := h
      refine VL.open (m := l0.length) 0 lenm rfl (pos_get hx2423) ?_
      rintro ad2424 n2425 rfl
      refine VL.va (op_indexAddr Try.underlying22 TI26 rfl rfl c2422 (lt_get c2422 hx2423) rfl (ltn rfl)) rfl ?_
      refine VL.va (op_load_row (sz := 4) (o := 0) 0 t2415.toNat 4 rfl rfl (get_map hx2423) TI26 rfl (fun h => absurd h (by decide)) (ltn rfl)) rfl ?_
      refine VL.step1 (o_store 0 4 rfl rfl rfl TI26 (.agg (.of rfl)) rfl (len rfl)) rfl ?_
      refine VL.va (op_assign rfl (ltn rfl)) rfl ?_
      refine VL.done ?_
      refine VN.then ?_
      refine VC.ret ?_
      simp only [Option.some.injEq, Prod.mk.injEq] at h
      obtain ⟨rfl, rfl, rfl, rfl, rfl⟩ := h
      exact VR.fn (rs := [.cell 4 26, .tmp 5]) [] [] [] rfl (.cell 0 rfl rfl TI26 (fun h => absurd h (by decide)) (.tmp rfl .nil)) ⟨rfl, rfl, rfl⟩ trivial rfl (by decide)
    · rw [if_neg c2422] at h; cases h
  · rw [if_neg c2421] at h
    obtain rfl : b2420 = true := hb2420.symm.trans (bne_iff_ne.2 c2421)
    refine VC.cond_t rfl ?_
    refine VC.seq ?_
    refine VC.region ?_
    refine VL.va (op_build (vals := []) (vcs := []) (cells := [.string (⟨#[]⟩ : ByteArray), .int .i64 0, .int .i64 0, .int .i64 0]) SI26 rfl .nil (by kernel_rfl) (ltn rfl)) rfl ?_
    refine VL.va (op_move rfl (ltn rfl)) rfl ?_
    refine VL.step1 (o_store 0 4 rfl rfl rfl TI26 (.agg (.of rfl)) rfl (len rfl)) rfl ?_
    refine VL.va (op_assign rfl (ltn rfl)) rfl ?_
    refine VL.done ?_
    refine VN.then ?_
    refine VC.ret ?_
    refine VR.then ?_
    simp only [Option.some.injEq, Prod.mk.injEq] at h
    obtain ⟨rfl, rfl, rfl, rfl, rfl⟩ := h
    exact VR.fn (rs := [.cell 4 26, .tmp 5]) [] [] [] rfl (.cell 0 rfl rfl TI26 (fun h => absurd h (by decide)) (.tmp rfl .nil)) ⟨rfl, rfl, rfl⟩ trivial rfl (by decide)

end Go.Proofs.Ytdofmkbffffbpaa.PWaitsGo
