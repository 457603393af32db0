/- Written by a program of this repo: what the program's functions do, each as a Lean function, shown of the loaded code; or a statement's row over that; no condition of its own. -/
import Derived.Test.YtipeglbeongfmaaPJournalLivesx0
namespace Go.Proofs.Ytipeglbeongfmaa.PJournalLives
open Go Go.RowKit Go.Proofs.YtipeglbeongfmaaV
set_option linter.unusedVariables false
set_option linter.unusedSimpArgs false
set_option maxHeartbeats 4000000
set_option maxRecDepth 100000

def lay_70_ren : Go.Shelf.Ren := ⟨fun | 105 => 70 | 212 => 83 | 99 => 84 | 165 => 57 | 166 => 58 | 170 => 85 | 169 => 59 | 263 => 95 | 264 => 96 | 206 => 97 | 240 => 77 | 241 => 78 | 276 => 91 | 277 => 92 | n => n, fun | 9 => 9 | 3 => 3 | 4 => 4 | 20 => 20 | 0 => 0 | 46 => 125 | 109 => 126 | 5 => 5 | 72 => 96 | 76 => 100 | 51 => 108 | 146 => 138 | 53 => 47 | 148 => 140 | 70 => 94 | 37 => 41 | 75 => 99 | 127 => 119 | 164 => 133 | 80 => 76 | n => n, fun | n => n⟩
theorem lay_70 : Go.Proofs.Lays.n105 Try.prog lay_70_ren where
  mixed := by kernel_rfl
  f99 := Try.func84.trans (congrArg some (by kernel_rfl))
  f105 := Try.func70.trans (congrArg some (by kernel_rfl))
  f165 := Try.func57.trans (congrArg some (by kernel_rfl))
  f166 := Try.func58.trans (congrArg some (by kernel_rfl))
  f169 := Try.func59.trans (congrArg some (by kernel_rfl))
  f170 := Try.func85.trans (congrArg some (by kernel_rfl))
  f206 := Try.func97.trans (congrArg some (by kernel_rfl))
  f212 := Try.func83.trans (congrArg some (by kernel_rfl))
  f240 := Try.func77.trans (congrArg some (by kernel_rfl))
  f241 := Try.func78.trans (congrArg some (by kernel_rfl))
  f263 := Try.func95.trans (congrArg some (by kernel_rfl))
  f264 := Try.func96.trans (congrArg some (by kernel_rfl))
  f276 := Try.func91.trans (congrArg some (by kernel_rfl))
  f277 := Try.func92.trans (congrArg some (by kernel_rfl))
  t0 := Try.underlying0
  a0 := Try.isAgg0
  z0 := Try.sizeOf0
  v0 := Try.zeroValue0
  t3 := Try.underlying3
  a3 := Try.isAgg3
  z3 := Try.sizeOf3
  v3 := Try.zeroValue3
  t4 := Try.underlying4
  a4 := Try.isAgg4
  z4 := Try.sizeOf4
  v4 := Try.zeroValue4
  t5 := Try.underlying5
  a5 := Try.isAgg5
  z5 := Try.sizeOf5
  v5 := Try.zeroValue5
  t9 := Try.underlying9
  a9 := Try.isAgg9
  z9 := Try.sizeOf9
  v9 := Try.zeroValue9
  t20 := Try.underlying20
  a20 := Try.isAgg20
  z20 := Try.sizeOf20
  v20 := Try.zeroValue20
  t37 := Try.underlying41
  a37 := Try.isAgg41
  z37 := Try.sizeOf41
  v37 := Try.zeroValue41
  t46 := Try.underlying125
  a46 := Try.isAgg125
  z46 := Try.sizeOf125
  v46 := Try.zeroValue125
  t51 := Try.underlying108
  a51 := Try.isAgg108
  z51 := Try.sizeOf108
  v51 := Try.zeroValue108
  t53 := Try.underlying47
  a53 := Try.isAgg47
  z53 := Try.sizeOf47
  v53 := Try.zeroValue47
  t70 := Try.underlying94
  a70 := Try.isAgg94
  z70 := Try.sizeOf94
  v70 := Try.zeroValue94
  t72 := Try.underlying96
  a72 := Try.isAgg96
  z72 := Try.sizeOf96
  v72 := Try.zeroValue96
  t75 := Try.underlying99
  a75 := Try.isAgg99
  z75 := Try.sizeOf99
  v75 := Try.zeroValue99
  t76 := Try.underlying100
  a76 := Try.isAgg100
  z76 := Try.sizeOf100
  v76 := Try.zeroValue100
  t109 := Try.underlying126
  a109 := Try.isAgg126
  z109 := Try.sizeOf126
  v109 := Try.zeroValue126
  t127 := Try.underlying119
  a127 := Try.isAgg119
  z127 := Try.sizeOf119
  v127 := Try.zeroValue119
  t146 := Try.underlying138
  a146 := Try.isAgg138
  z146 := Try.sizeOf138
  v146 := Try.zeroValue138
  t148 := Try.underlying140
  a148 := Try.isAgg140
  z148 := Try.sizeOf140
  v148 := Try.zeroValue140
  t164 := Try.underlying133
  a164 := Try.isAgg133
  z164 := Try.sizeOf133
  v164 := Try.zeroValue133
theorem lay_70x : Go.Proofs.Builder.Extra Try.prog lay_70_ren where
  sizeBuilder := by kernel_rfl
  liesBuilder := by kernel_rfl
  t5 := Try.underlying5
  a5 := Try.isAgg5
  z5 := Try.sizeOf5
  v5 := Try.zeroValue5
  infoByte := by kernel_rfl
  cellsByte := by kernel_rfl
  sizeByte := by kernel_rfl
  neB5 := by decide

theorem strings_Repeat.ok (s : ByteArray) (c : Int) (r1 : ByteArray) (h : strings_Repeat.f s c = some r1) :
    VCalls Try.prog 70 [.string s, .int .i64 c] [] (fun v G own => v = .string r1 ∧ G = [] ∧ own = []) := by
  unfold strings_Repeat.f at h
  by_cases hc : ¬ (0 ≤ c ∧ c ≤ 9223372036854775807 ∧ s.size * c.toNat ≤ 140737488355328)
  · rw [if_neg hc] at h; cases h
  replace hc := Decidable.not_not.1 hc
  rw [if_pos hc] at h
  obtain rfl := Option.some.inj h
  obtain ⟨n, rfl⟩ : ∃ n : Nat, c = (n : Int) := ⟨c.toNat, by omega⟩
  exact VCalls.of fun w => Go.Proofs.Any.strings_Repeat lay_70 lay_70x s n w (by omega) (by simpa using hc.2.2)

def lay_83_ren : Go.Shelf.Ren := ⟨fun | 212 => 83 | 263 => 95 | 264 => 96 | n => n, fun | 46 => 125 | 51 => 108 | 146 => 138 | 53 => 47 | 148 => 140 | n => n, fun | n => n⟩
theorem lay_83 : Go.Proofs.Lays.n212 Try.prog lay_83_ren where
  mixed := by kernel_rfl
  f212 := Try.func83.trans (congrArg some (by kernel_rfl))
  f263 := Try.func95.trans (congrArg some (by kernel_rfl))
  f264 := Try.func96.trans (congrArg some (by kernel_rfl))
  t46 := Try.underlying125
  a46 := Try.isAgg125
  z46 := Try.sizeOf125
  v46 := Try.zeroValue125
  t51 := Try.underlying108
  a51 := Try.isAgg108
  z51 := Try.sizeOf108
  v51 := Try.zeroValue108
  t53 := Try.underlying47
  a53 := Try.isAgg47
  z53 := Try.sizeOf47
  v53 := Try.zeroValue47
  t146 := Try.underlying138
  a146 := Try.isAgg138
  z146 := Try.sizeOf138
  v146 := Try.zeroValue138
  t148 := Try.underlying140
  a148 := Try.isAgg140
  z148 := Try.sizeOf140
  v148 := Try.zeroValue140
theorem slices_Repeat_string_string.mul (x y : Nat) (hx : x * y < 18446744073709551616) (hx1 : x < 18446744073709551616) (hy : y < 18446744073709551616) : VCalls Try.prog 83 [.int .u64 x, .int .u64 y] [] (fun v G own => v = .tuple [.int .u64 0, .int .u64 ((x * y : Nat) : Int)].toArray ∧ G = [] ∧ own = []) := by
  refine VCalls.of fun w => (Go.Proofs.Any.bits_Mul lay_83 x y hx1 hy w).mono ?_
  rintro e w' ⟨he, hw⟩
  rw [Nat.div_eq_of_lt hx, Nat.mod_eq_of_lt hx] at he
  exact ⟨he, hw ▸ Below.refl _ _⟩
theorem slices_Repeat_string_string.ok (l0 : List ByteArray) (a1 : Int) (v0 : Value) (r1 : List ByteArray) (h : slices_Repeat_string_string.f l0 a1 = some r1) :
    VCalls Try.prog 69 [v0, .int .i64 a1] [.row v0 1 (l0.map enc_str)] (fun v G own => ∃ w0 : Value, v = w0 ∧ G = [] ∧ own = [(w0, 9, 1, r1.map enc_str)]) := by
  unfold slices_Repeat_string_string.f at h
  by_cases hc : ¬ (0 < l0.length ∧ 0 < a1 ∧ l0.length * a1.toNat * 16 ≤ 140737488355328)
  · rw [if_neg hc] at h; cases h
  replace hc := Decidable.not_not.1 hc
  rw [if_pos hc] at h
  obtain rfl := Option.some.inj h
  clear h
  obtain ⟨hl0, ha1, hbig⟩ := hc
  obtain ⟨n, rfl⟩ : ∃ n : Nat, a1 = (n : Int) := ⟨a1.toNat, by omega⟩
  have hn0 : 0 < n := by omega
  clear ha1
  simp only [Int.toNat_natCast] at hbig ⊢
  obtain ⟨N, hN⟩ : ∃ N, l0.length * n = N := ⟨_, rfl⟩
  have hNp : 0 < N := by rw [← hN]; exact Nat.mul_pos hl0 hn0
  have hpN : l0.length ≤ N := by rw [← hN]; exact Nat.le_mul_of_pos_right _ hn0
  have hnN : n ≤ N := by rw [← hN]; exact Nat.le_mul_of_pos_left _ hl0
  rw [hN] at hbig
  have hNs : N ≤ 140737488355328 := by omega
  have hRl : (repl l0 n).length = N := by rw [repl_len, hN]
  have hRf : flatOk 1 ((repl l0 n).map enc_str) := flat_map enc_str_ok _
  have hLf : flatOk 1 (l0.map enc_str) := flat_map enc_str_ok _
  have hsh : ∀ j m, l0.length ∣ j → j + m ≤ N → (((repl l0 n).map enc_str).flatten.drop (j * 1)).take (m * 1) = ((repl l0 n).map enc_str).flatten.take (m * 1) := by
    rintro j m ⟨q, rfl⟩ hjm
    have hq : q ≤ n := by
      rcases Nat.lt_or_ge n q with h | h
      · have := Nat.mul_lt_mul_of_pos_left h hl0
        omega
      · exact h
    have e := repl_shift l0 n q hq
    rw [← flat_drop _ hRf, ← List.map_drop, e, List.map_take, flat_take _ hRf, List.take_take, Nat.min_eq_left (Nat.mul_le_mul_right _ (by omega))]
  have hRF : ((repl l0 n).map enc_str).flatten.length = N * 1 := by rw [flat_len hRf, lenm, hRl]
  have hR1 : ((repl l0 n).map enc_str).flatten.take (l0.length * 1) = (l0.map enc_str).flatten := by
    obtain ⟨k, rfl⟩ : ∃ k, n = k + 1 := ⟨n - 1, by omega⟩
    rw [repl, List.map_append, List.flatten_append, ← lenm (f := enc_str) (xs := l0), ← flat_len hLf, List.take_left]
  have hone : ∀ k, ∀ u ∈ ((repl l0 n).map enc_str).flatten.take k, u.oneCell' = true := fun k u hu => flat_one hRf u (List.mem_of_mem_take hu)
  generalize hRR : ((repl l0 n).map enc_str).flatten = R at *
  refine VCalls.intro Try.func69 rfl (len rfl) fun E hC hW hD hU => ?_
  refine VC.formF 0 rfl fun A cap hv h1 h2 h3 => ?_
  rw [lenm] at hv h1 h3
  subst hv
  cases A with
  | none => exact absurd (h3 rfl) (by omega)
  | some ad =>
  clear h3
  refine VC.seq (VC.region ?_)
  refine VL.va (op_assign rfl (ltn rfl)) rfl ?_
  refine VL.done (VN.then ?_)
  refine VC.seq ?_
  refine VC.seq (VC.region ?_)
  refine VL.va (op_move rfl (ltn rfl)) rfl ?_
  refine VL.letter (decide ((n : Int) < 0)) fun b1 hb1 => ?_
  refine VL.va (op_cmp rfl rfl (congrArg some hb1) (ltn rfl)) rfl ?_
  refine VL.done (VN.then ?_)
  obtain rfl : b1 = false := hb1.symm.trans (decide_eq_false (by omega))
  clear hb1
  refine VC.cond_f rfl (VC.skip (VN.then ?_))
  refine VC.seq (VC.region ?_)
  refine VL.va (op_move rfl (ltn rfl)) rfl ?_
  refine VL.va (op_len (m := l0.length) 0 lenm Try.underlying22 rfl rfl (ltn rfl)) rfl ?_
  refine VL.va (op_conv (q := (l0.length : Int)) Try.underlying3 Try.underlying125 rfl (by rw [IntKind.wrap_u64]; omega) (ltn rfl)) rfl ?_
  refine VL.va (op_move rfl (ltn rfl)) rfl ?_
  refine VL.va (op_conv (q := (n : Int)) Try.underlying3 Try.underlying125 rfl (by rw [IntKind.wrap_u64]; omega) (ltn rfl)) rfl ?_
  refine VL.sC (o_call0 FO83 (slices_Repeat_string_string.mul l0.length n (by rw [hN]; omega) (by omega) (by omega)) rfl rfl (ltn rfl) (All_of .nil)) rfl ?_
  rintro _ _ _ ⟨rfl, rfl, rfl⟩
  rw [hN]
  refine VL.va (op_move rfl (ltn rfl)) rfl ?_
  refine VL.va (op_extract rfl rfl (ltn rfl)) rfl ?_
  refine VL.va (op_extract rfl rfl (ltn rfl)) rfl ?_
  refine VL.va (op_assign rfl (ltn rfl)) rfl ?_
  refine VL.va (op_assign rfl (ltn rfl)) rfl ?_
  refine VL.done (VN.then ?_)
  refine VC.seq ?_
  refine VC.seq (VC.region ?_)
  refine VL.va (op_move rfl (ltn rfl)) rfl ?_
  refine VL.va (op_cmp (b := false) rfl rfl rfl (ltn rfl)) rfl ?_
  refine VL.va (op_move rfl (ltn rfl)) rfl ?_
  refine VL.va (op_move rfl (ltn rfl)) rfl ?_
  refine VL.letter (decide ((N : Int) > 9223372036854775807)) fun b2 hb2 => ?_
  refine VL.va (op_cmp rfl rfl (congrArg some hb2) (ltn rfl)) rfl ?_
  refine VL.va (op_pick rfl rfl (ltn rfl)) rfl ?_
  refine VL.done (VN.then ?_)
  obtain rfl : b2 = false := hb2.symm.trans (decide_eq_false (by omega))
  clear hb2
  refine VC.cond_f rfl (VC.skip (VN.then ?_))
  refine VC.seq (VC.region ?_)
  refine VL.va (op_move rfl (ltn rfl)) rfl ?_
  refine VL.va (op_conv (q := (N : Int)) Try.underlying125 Try.underlying3 rfl (by rw [IntKind.wrap_i64]; omega) (ltn rfl)) rfl ?_
  refine o_makeSlice Try.underlying22 EI9 rfl rfl hbig (ltn rfl) rfl fun g cur hcur => ?_
  refine VL.va (op_assign rfl (ltn rfl)) rfl ?_
  refine VL.done (VN.then ?_)
  refine VC.seq (VC.region ?_)
  refine VL.va (op_move rfl (ltn rfl)) rfl ?_
  refine VL.va (op_move rfl (ltn rfl)) rfl ?_
  have hLl : (l0.map enc_str).flatten.length = l0.length * 1 := by rw [flat_len hLf, lenm]
  refine VL.step1 (o_copy (m := l0.length) (cs := (l0.map enc_str).flatten) 0 Try.underlying22 TI9 rfl rfl rfl (Nat.min_eq_left hpN) hLl (by rw [hLl, hcur, Nat.zero_add]; exact Nat.mul_le_mul_right _ hpN) (src_row 0 rfl) (flat_one hLf) rfl (ltn rfl)) rfl ?_
  refine VL.va (op_assign rfl (ltn rfl)) rfl ?_
  refine VL.done (VN.then ?_)
  have hc1 : (upd cur 0 (l0.map enc_str).flatten).length = N * 1 := by rw [upd_len, hcur]; rw [hLl, hcur, Nat.zero_add]; exact Nat.mul_le_mul_right _ hpN
  have hc2 : (upd cur 0 (l0.map enc_str).flatten).take (l0.length * 1) = R.take (l0.length * 1) := by
    rw [hR1, upd, List.take_zero, List.nil_append, ← hLl, List.take_left]
  generalize upd cur 0 (l0.map enc_str).flatten = cur1 at hc1 hc2 ⊢
  clear hcur
  refine VC.seq (VC.block ?_)
  refine VC.loop2 (fun (j : Nat) (cs : List Value) => ⟨48, [(7, .slice (some ⟨g, 0, none⟩) N N), (8, .int .i64 j)], [.row (.slice (some ad) l0.length cap) 1 (l0.map enc_str)], [(g, 9, cs)], []⟩)
    (fun k j cs => N < k + j ∧ 0 < j ∧ j ≤ N ∧ cs.length = N * 1 ∧ cs.take (j * 1) = R.take (j * 1) ∧ (l0.length ∣ j ∨ j = N))
    (N + 1) l0.length cur1 [0] [] ⟨by omega, hl0, hpN, hc1, hc2, .inl (Nat.dvd_refl _)⟩ ⟨rfl, ⟨rfl, rfl, trivial⟩, SubF.of (fun _ h => h), rfl, by decide, rfl, by decide⟩ (by rintro j cs ⟨h, _, h2, _⟩; omega) ?_
  clear hc1 hc2 cur1
  rintro k ih j cs ⟨hk, hj0, hjN, hcl, hct, hdv⟩
  refine VC.seq ?_
  refine VC.seq (VC.region ?_)
  refine VL.va (op_move rfl (ltn rfl)) rfl ?_
  refine VL.va (op_move rfl (ltn rfl)) rfl ?_
  refine VL.va (op_lenV Try.underlying22 rfl (ltn rfl)) rfl ?_
  refine VL.letter (decide ((j : Int) < (N : Int))) fun b3 hb3 => ?_
  refine VL.va (op_cmp rfl rfl (congrArg some hb3) (ltn rfl)) rfl ?_
  refine VL.done (VN.then ?_)
  by_cases c3 : j < N
  · obtain rfl : b3 = true := hb3.symm.trans (decide_eq_true (by omega))
    clear hb3
    refine VC.cond_t rfl (VC.skip (VN.then ?_))
    have hdv2 := hdv.resolve_right (by omega)
    obtain ⟨m, hm⟩ : ∃ m, min j (N - j) = m := ⟨_, rfl⟩
    have hm1 : m ≤ j := by omega
    have hm2 : m ≤ N - j := by omega
    have hm0 : 0 < m := by omega
    have hjm : j * 1 + m * 1 ≤ N * 1 := by rw [← Nat.add_mul]; exact Nat.mul_le_mul_right _ (by omega)
    have hmj : m * 1 ≤ j * 1 := Nat.mul_le_mul_right _ hm1
    have hcs : (cs.drop 0).take (m * 1) = R.take (m * 1) := by
      have := congrArg (List.take (m * 1)) hct
      rw [List.take_take, List.take_take, Nat.min_eq_left hmj] at this
      rw [List.drop_zero]
      exact this
    have hcsl : (R.take (m * 1)).length = m * 1 := by rw [List.length_take, hRF]; omega
    refine VC.block ?_
    refine VC.draw ⟨0, [], [], [], []⟩ (by kernel_rfl) rfl (by kernel_rfl) (n := 10) (listed := LB 10 0) ?_
    refine VA.va (i := 0) (listed' := LB 10 1) rfl (op_move rfl (ltn rfl)) rfl (by kernel_rfl) (by kernel_rfl) (by kernel_rfl) (by kernel_rfl) ⟨trivial, trivial, trivial⟩ (fun _ _ _ h => h) ?_
    refine VA.va (i := 1) (listed' := LB 10 3) rfl (op_move rfl (ltn rfl)) rfl (by kernel_rfl) (by kernel_rfl) (by kernel_rfl) (by kernel_rfl) ⟨trivial, trivial, trivial⟩ (fun _ _ _ h => h) ?_
    refine VA.va (i := 2) (listed' := LB 10 7) rfl (op_move rfl (ltn rfl)) rfl (by kernel_rfl) (by kernel_rfl) (by kernel_rfl) (by kernel_rfl) ⟨trivial, trivial, trivial⟩ (fun _ _ _ h => h) ?_
    refine VA.va (i := 3) (listed' := LB 10 15) rfl (op_cutV' j N (cutV_at0 (.inl c3)) Try.underlying22 TI9 rfl ⟨⟨_, _, rfl, Int.natCast_nonneg j, Int.toNat_natCast _⟩, rfl, by omega, Nat.le_refl _⟩ (Nat.le_refl _) (ltn rfl)) rfl (by kernel_rfl) (by kernel_rfl) (by kernel_rfl) (by kernel_rfl) ⟨trivial, trivial, trivial⟩ (fun _ _ _ h => h) ?_
    refine VA.va (i := 4) (listed' := LB 10 31) rfl (op_move rfl (ltn rfl)) rfl (by kernel_rfl) (by kernel_rfl) (by kernel_rfl) (by kernel_rfl) ⟨trivial, trivial, trivial⟩ (fun _ _ _ h => h) ?_
    refine VA.va (i := 5) (listed' := LB 10 63) rfl (op_move rfl (ltn rfl)) rfl (by kernel_rfl) (by kernel_rfl) (by kernel_rfl) (by kernel_rfl) ⟨trivial, trivial, trivial⟩ (fun _ _ _ h => h) ?_
    refine VA.va (i := 6) (listed' := LB 10 127) rfl (op_cutH' 0 j (v := .slice (some ⟨g, 0, none⟩) j N) (by rw [cutV_at0 (.inr rfl)]; simp) Try.underlying22 TI9 rfl ⟨rfl, ⟨_, _, rfl, Int.natCast_nonneg j, Int.toNat_natCast j⟩, Nat.zero_le _, by omega⟩ (ltn rfl)) rfl (by kernel_rfl) (by kernel_rfl) (by kernel_rfl) (by kernel_rfl) ⟨trivial, trivial, trivial⟩ (fun _ _ _ h => h) ?_
    refine VA.one1 (i := 7) (listed' := LB 10 255) (by kernel_rfl) rfl (o_copy (m := m) (cs := R.take (m * 1)) 0 Try.underlying22 TI9 rfl rfl rfl hm hcsl (by rw [hcsl, hcl]; exact hjm) (src_box (m * 1) 0 rfl hcs.symm) (hone _) rfl (ltn rfl)) rfl (by kernel_rfl) ⟨trivial, trivial, trivial⟩ ?_
    refine VA.va (i := 8) (listed' := LB 10 511) rfl (op_ari64 (q := ((j + m : Nat) : Int)) rfl rfl (congrArg some (by show wrap64 ((j : Int) + (m : Int)) = _; exact w64 (by omega) (by omega))) (ltn rfl)) rfl (by kernel_rfl) (by kernel_rfl) (by kernel_rfl) (by kernel_rfl) ⟨trivial, trivial, trivial⟩ (fun _ _ _ h => h) ?_
    refine VA.va (i := 9) (listed' := LB 10 1023) rfl (op_assign rfl (ltn rfl)) rfl (by kernel_rfl) (by kernel_rfl) (by kernel_rfl) (by kernel_rfl) ⟨trivial, trivial, trivial⟩ (fun _ _ _ h => h) ?_
    refine VA.done (by kernel_rfl) (VN.block ?_)
    refine VN.again [0] [] (ih (j + m) (upd cs (j * 1) (R.take (m * 1))) ⟨by omega, by omega, by omega, ?_, ?_, ?_⟩) ⟨rfl, ⟨rfl, rfl, trivial⟩, SubF.of (fun _ h => h), rfl, by decide, rfl, by decide⟩
    · rw [upd_len, hcl]
      rw [hcsl, hcl]
      exact hjm
    · have h1 : (R.take (j * 1)).length = j * 1 := by rw [List.length_take, hRF]; omega
      have h2 : (R.take (j * 1) ++ R.take (m * 1)).length = (j + m) * 1 := by rw [List.length_append, h1, hcsl, Nat.add_mul]
      unfold upd
      rw [hct, ← h2, List.take_left, h2, Nat.add_mul, List.take_add, hsh j m hdv2 (by omega)]
    · rcases Nat.lt_or_ge (N - j) j with h | h
      · exact .inr (by omega)
      · have : m = j := by omega
        subst this
        exact .inl (by obtain ⟨q, hq⟩ := hdv2; exact ⟨q + q, by rw [Nat.mul_add, ← hq]⟩)
  obtain rfl : b3 = false := hb3.symm.trans (decide_eq_false (by omega))
  clear hb3
  obtain rfl : j = N := by omega
  refine VC.cond_f rfl ?_
  refine VC.exit (VX.then (VX.then (VX.hit (VN.then ?_))))
  refine VC.seq (VC.region ?_)
  refine VL.va (op_move rfl (ltn rfl)) rfl ?_
  refine VL.va (op_assign rfl (ltn rfl)) rfl ?_
  refine VL.done (VN.then ?_)
  refine VC.ret ?_
  refine VR.closeBox 0 j 1 ((repl l0 n).map enc_str) rfl (by rw [lenm, hRl]; exact Nat.le_refl _) (by simp only [maxLen]; omega) hcl ?_ hRf ?_
  · rw [lenm, hRl, hct, hRR, ← hRF, List.take_length]
  rw [lenm, hRl]
  exact VR.fn (rs := [.tmp 4]) [] [(.slice (some ⟨g, 0, none⟩) j j, 9, 1, (repl l0 n).map enc_str)] [0] rfl (.tmp rfl .nil) ⟨_, rfl, rfl, rfl⟩ trivial rfl (by decide)

theorem disk_New.ok (a0 : Int)  (r1 : List ByteArray) (r2 : List S55) (r3 : Int) (h : disk_New.f a0 = some (r1, r2, r3)) :
    VCalls Try.prog 37 [.int .i64 a0] [] (fun v G own => ∃ w0 w1 : Value, v = .tuple #[.agg #[w0, w1], .int .i64 r3] ∧ G = [] ∧ own = [(w0, 9, 1, r1.map enc_str), (w1, 56, 2, r2.map enc55)]) := by
  refine VCalls.intro Try.func37 rfl (len rfl) fun E hC hW hD hU => ?_
  unfold disk_New.f at h
  refine sr <| sG (o_alloc Z25 ZL25) fun g15 => vs rfl <| ds <| sr <| vm rfl <| VL.letter (decide (a0 < 1)) fun b30 hb30 => va (op_cmp rfl rfl (congrArg some hb30)) <| vm rfl <| ?_
  replace h := iC h
  rcases h with ⟨c31, h⟩ | ⟨c31, h⟩
  · cases lT c31 hb30
    refine un rfl <| un rfl <| va (op_pick rfl rfl) <| dt <| ct <| sr <| va (op_build (vals := []) (vcs := []) (cells := [.slice none 0 0, .slice none 0 0]) SI25 rfl .nil (by kernel_rfl)) <| s1 (o_store 0 2 rfl rfl rfl TI25 (.agg (.of rfl)) rfl (len rfl)) <| vs rfl <| dt <| VC.ret <| VR.then <| ?_
    simp only [Option.some.injEq, Prod.mk.injEq] at h
    obtain ⟨rfl, rfl, rfl⟩ := h
    exact VR.nilRow' 9 1 <| VR.nilRow' 56 2 <| VR.fn (rs := [.cell 2 25, .tmp 3]) [] [((.slice none 0 0), 9, 1, ([] : List ByteArray).map enc_str), ((.slice none 0 0), 56, 2, ([] : List S55).map enc55)] [1, 0] rfl (.cell 0 rfl rfl TI25 (fun h => absurd h (by decide)) (.tmp rfl .nil)) ⟨(.slice none 0 0), (.slice none 0 0), rfl, rfl, rfl⟩ trivial rfl (by decide)
  cases lF c31 hb30
  refine vm rfl <| VL.letter (decide (a0 > 512)) fun b34 hb34 => va (op_cmp rfl rfl (congrArg some hb34)) <| va (op_pick rfl rfl) <| dt <| ?_
  replace h := iC h
  rcases h with ⟨c35, h⟩ | ⟨c35, h⟩
  · cases lT c35 hb34
    refine ct <| sr <| va (op_build (vals := []) (vcs := []) (cells := [.slice none 0 0, .slice none 0 0]) SI25 rfl .nil (by kernel_rfl)) <| s1 (o_store 0 2 rfl rfl rfl TI25 (.agg (.of rfl)) rfl (len rfl)) <| vs rfl <| dt <| VC.ret <| VR.then <| ?_
    simp only [Option.some.injEq, Prod.mk.injEq] at h
    obtain ⟨rfl, rfl, rfl⟩ := h
    exact VR.nilRow' 9 1 <| VR.nilRow' 56 2 <| VR.fn (rs := [.cell 2 25, .tmp 3]) [] [((.slice none 0 0), 9, 1, ([] : List ByteArray).map enc_str), ((.slice none 0 0), 56, 2, ([] : List S55).map enc55)] [1, 0] rfl (.cell 0 rfl rfl TI25 (fun h => absurd h (by decide)) (.tmp rfl .nil)) ⟨(.slice none 0 0), (.slice none 0 0), rfl, rfl, rfl⟩ trivial rfl (by decide)
  cases lF c35 hb34
  refine cf <| sk <| sr <| ?_
  replace h := bd h
  obtain ⟨r38, hA39, h⟩ := h
  refine sC (o_call0 FO70 (strings_Repeat.ok (⟨#[0]⟩ : ByteArray) 64 r38 hA39) rfl rfl (ltn rfl) (All_of .nil)) <| ?_
  rintro _ _ _ ⟨rfl, rfl, rfl⟩
  refine sG (o_buildSlice (vals := [(0, .string r38)]) (cells := #[.string r38]) (es := List.map enc_str ([r38] : List ByteArray)) Try.underlying22 TI9 Z9 rfl (by decide) (by decide) (by kernel_rfl) (by kernel_rfl) rfl (flat_map enc_str_ok _)) fun v41 => vm rfl <| ?_
  replace h := bd h
  obtain ⟨r42, hA43, h⟩ := h
  refine sC (o_call_b0 FO69 (slices_Repeat_string_string.ok ([r38] : List ByteArray) a0 v41 r42 hA43) rfl rfl (ltn rfl) (All_of (.cons (.inr (.inl ⟨_, mG 0 rfl, rfl⟩)) .nil)) (by rintro _ _ _ ⟨_, rfl, rfl, rfl⟩; rfl)) <| ?_
  rintro v45 _ _ ⟨_, rfl, rfl, rfl⟩
  refine va (op_build (vals := [(0, v45)]) (vcs := [(0, [v45])]) (cells := [v45, .slice none 0 0]) SI25 rfl (.cons ⟨rfl, (.r 0 rfl)⟩ .nil) (by kernel_rfl)) <| s1 (o_store 0 2 rfl rfl rfl TI25 (.agg (.r 0 rfl (.c rfl .nil))) rfl (len rfl)) <| vs rfl <| dt <| VC.ret <| ?_
  simp only [Option.some.injEq, Prod.mk.injEq] at h
  obtain ⟨rfl, rfl, rfl⟩ := h
  exact VR.nilRow' 56 2 <| VR.fn (rs := [.cell 2 25, .tmp 3]) [] [(v45, 9, 1, r42.map enc_str), ((.slice none 0 0), 56, 2, ([] : List S55).map enc55)] [1, 0] rfl (.cell 0 rfl rfl TI25 (fun h => absurd h (by decide)) (.tmp rfl .nil)) ⟨v45, (.slice none 0 0), rfl, rfl, rfl⟩ trivial rfl (by decide)

theorem journal_headOf.ok (k : Nat) (a0 : Int) (a1 : Int) (a2 : Int)  (r1 : List Int) (h : journal_headOf.f k a0 a1 a2 = some r1) :
    VCalls Try.prog 39 [.int .i64 a0, .int .i64 a1, .int .i64 a2] [] (fun v G own => v = .agg (ints .u8 r1).toArray ∧ G = [] ∧ own = []) := by
  refine VCalls.intro Try.func39 rfl (len rfl) fun E hC hW hD hU => ?_
  unfold journal_headOf.f at h
  refine sr <| sG (o_alloc Z74 ZL74) fun g64 => nx <| sG (o_alloc Z74 ZL74) fun g65 => nx <| va (op_sliceB Try.underlying74 TI5 rfl) <| ?_
  replace h := iN h
  obtain ⟨c66, h⟩ := h
  refine s1 (o_copyS0 0 Try.underlying41 TI5 rfl rfl rfl c66 rfl) <| vs rfl <| nx <| vm rfl <| vm rfl <| va (op_conv Try.underlying3 Try.underlying5 rfl rfl) <| ?_
  replace h := iN h
  obtain ⟨c67, h⟩ := h
  replace h := iN h
  obtain ⟨c68, h⟩ := h
  refine va (op_indexAddrA Try.underlying74 TI5 rfl rfl c67 c68) <| ?_
  replace h := iN h
  obtain ⟨c69, h⟩ := h
  refine s1 (o_storeE 0 rfl rfl rfl TI5 c69) <| ds <| sr <| vm rfl <| dt <| VC.block <|
   VC.loop2 (fun (i94 : Int) (l95 : List Int) => ⟨46, [(0, .int .i64 a0), (2, .int .i64 a2), (6, .pointer (some ⟨g64, 0, none⟩)), (7, .pointer (some ⟨g65, 0, none⟩)), (8, .int .i64 ((min (⟨#[116, 97, 114, 114, 121]⟩ : ByteArray).size 32) : Int)), (17, .int .i64 i94)], [], [(g65, 74, ints .u8 l95), (g64, 74, ints .u8 (List.replicate 32 (0 : Int)))], []⟩) (fun (ml1 : Nat) (i94 : Int) (l95 : List Int) => journal_headOf.l1 k a0 a2 ml1 i94 l95 = some r1) k 0 (((byI (⟨#[116, 97, 114, 114, 121]⟩ : ByteArray)).take (min (⟨#[116, 97, 114, 114, 121]⟩ : ByteArray).size 32) ++ (List.replicate 32 (0 : Int)).drop (min (⟨#[116, 97, 114, 114, 121]⟩ : ByteArray).size 32)).set ((min (⟨#[116, 97, 114, 114, 121]⟩ : ByteArray).size 32) : Int).toNat (IntKind.u8.wrap a1)) [0, 1] [] h ⟨rfl, ⟨rfl, rfl, rfl, rfl, rfl, rfl, trivial⟩, trivial, rfl, by decide, rfl, by decide⟩ (by intros; simp [journal_headOf.l1]) <|
   ?_
  clear h
  intro ml1 ihl1 i94 l95 h
  simp only [journal_headOf.l1] at h
  refine sr <| VL.letter (decide (i94 < 8)) fun b103 hb103 => va (op_cmp rfl rfl (congrArg some hb103)) <| ds <| ?_
  replace h := iC h
  rcases h with ⟨c147, h⟩ | ⟨c147, h⟩
  · cases lT c147 hb103
    refine ct <| sk <| sq <| VC.block <| sr <| vm rfl <| vs rfl <| dr <| vm rfl <| va (op_ari64 rfl rfl rfl) <| vm rfl <| va (op_ari64 rfl rfl rfl) <| vm rfl <| vm rfl <| va (op_ari64 rfl rfl rfl) <| ?_
    replace h := iN h
    obtain ⟨c148, h⟩ := h
    refine va (op_shr rfl rfl c148 rfl) <| va (op_conv Try.underlying3 Try.underlying5 rfl rfl) <| ?_
    replace h := iN h
    obtain ⟨c149, h⟩ := h
    replace h := iN h
    obtain ⟨c150, h⟩ := h
    refine va (op_indexAddrA Try.underlying74 TI5 rfl rfl c149 c150) <| ?_
    replace h := iN h
    obtain ⟨c151, h⟩ := h
    refine s1 (o_storeE 0 rfl rfl rfl TI5 c151) <| dn <| VN.block <| tr <| va (op_ari64 rfl rfl rfl) <| vm rfl <| dn <|
     VN.again [0, 1] [] (ihl1 (wrap64 (i94 + 1)) (l95.set (wrap64 ((wrap64 (((min (⟨#[116, 97, 114, 114, 121]⟩ : ByteArray).size 32) : Int) + 1)) + i94)).toNat (IntKind.u8.wrap (a0.fdiv (2 ^ min (wrap64 (8 * i94)).toNat IntKind.i64.bits)))) h) ⟨rfl, ⟨rfl, rfl, rfl, rfl, rfl, rfl, trivial⟩, trivial, rfl, by decide, rfl, by decide⟩
  cases lF c147 hb103
  refine cf <| VC.exit <| VX.then <| VX.then <| VX.hit <| ts <| sr <| vm rfl <| dt <| VC.block <|
   VC.loop2 (fun (i176 : Int) (l177 : List Int) => ⟨46, [(2, .int .i64 a2), (6, .pointer (some ⟨g64, 0, none⟩)), (7, .pointer (some ⟨g65, 0, none⟩)), (8, .int .i64 ((min (⟨#[116, 97, 114, 114, 121]⟩ : ByteArray).size 32) : Int)), (31, .int .i64 i176)], [], [(g65, 74, ints .u8 l177), (g64, 74, ints .u8 (List.replicate 32 (0 : Int)))], []⟩) (fun (ml5 : Nat) (i176 : Int) (l177 : List Int) => journal_headOf.l5 k a2 ml5 i176 l177 = some r1) k 0 l95 [0, 1] [] h ⟨rfl, ⟨rfl, rfl, rfl, rfl, rfl, trivial⟩, trivial, rfl, by decide, rfl, by decide⟩ (by intros; simp [journal_headOf.l5]) <|
   ?_
  clear h
  intro ml5 ihl5 i176 l177 h
  simp only [journal_headOf.l5] at h
  refine sr <| VL.letter (decide (i176 < 4)) fun b185 hb185 => va (op_cmp rfl rfl (congrArg some hb185)) <| ds <| ?_
  replace h := iC h
  rcases h with ⟨c188, h⟩ | ⟨c188, h⟩
  · cases lT c188 hb185
    refine ct <| sk <| sq <| VC.block <| sr <| vm rfl <| vs rfl <| dr <| vm rfl <| va (op_ari64 rfl rfl rfl) <| vm rfl <| va (op_ari64 rfl rfl rfl) <| vm rfl <| vm rfl <| va (op_ari64 rfl rfl rfl) <| ?_
    replace h := iN h
    obtain ⟨c189, h⟩ := h
    refine va (op_shr rfl rfl c189 rfl) <| va (op_conv Try.underlying3 Try.underlying5 rfl rfl) <| ?_
    replace h := iN h
    obtain ⟨c190, h⟩ := h
    replace h := iN h
    obtain ⟨c191, h⟩ := h
    refine va (op_indexAddrA Try.underlying74 TI5 rfl rfl c190 c191) <| ?_
    replace h := iN h
    obtain ⟨c192, h⟩ := h
    refine s1 (o_storeE 0 rfl rfl rfl TI5 c192) <| dn <| VN.block <| tr <| va (op_ari64 rfl rfl rfl) <| vm rfl <| dn <|
     VN.again [0, 1] [] (ihl5 (wrap64 (i176 + 1)) (l177.set (wrap64 ((wrap64 (((min (⟨#[116, 97, 114, 114, 121]⟩ : ByteArray).size 32) : Int) + 9)) + i176)).toNat (IntKind.u8.wrap (a2.fdiv (2 ^ min (wrap64 (8 * i176)).toNat IntKind.i64.bits)))) h) ⟨rfl, ⟨rfl, rfl, rfl, rfl, rfl, trivial⟩, trivial, rfl, by decide, rfl, by decide⟩
  cases lF c188 hb185
  refine cf <| VC.exit <| VX.then <| VX.then <| VX.hit <| tx <| ?_
  replace h := iN h
  obtain ⟨c193, h⟩ := h
  refine va (op_loadA 0 rfl rfl TI74 c193) <| s1 (o_storeA 1 rfl rfl rfl TI74 c193 c66) <| dt <| VC.ret <| ?_
  obtain rfl := Option.some.inj h
  exact VR.fn (rs := [.cell 6 74]) [] [] [] rfl (.cellA 1 rfl rfl TI74 c193 .nil) ⟨rfl, rfl, rfl⟩ trivial rfl (by decide)

theorem journal_head_sector.ok (a0_0 : List Int)  (r1 : ByteArray) (h : journal_head_sector.f a0_0 = some r1) :
    VCalls Try.prog 40 [.agg (ints .u8 a0_0).toArray] [] (fun v G own => v = .string r1 ∧ G = [] ∧ own = []) := by
  refine VCalls.intro Try.func40 rfl (len rfl) fun E hC hW hD hU => ?_
  unfold journal_head_sector.f at h
  refine sr <| sG (o_box rfl cells_ints) fun g196 => vs rfl <| dt <| ?_
  replace h := iN h
  obtain ⟨c197, h⟩ := h
  replace h := iN h
  obtain ⟨c202, h⟩ := h
  refine VC.freeze' 0 rfl <| VC.join0 (⟨8, [(2, .string ((strOfNums a0_0) ++ (strOfNums a0_0)))], [], [], []⟩) (True) ?_ ?_
  · refine VC.draw ⟨0, [], [.at_ ⟨g196, 0, none⟩ (ints .u8 a0_0)], [], []⟩ (by kernel_rfl) rfl (by kernel_rfl) (n := 6) (listed := LB 6 0) <| VA.all [0, 2] (by kernel_rfl) (by simp) <|
     VAll.consG (listed' := LB 6 1) rfl (o_sliceA (es := List.map enc_intu8 a0_0) 0 Try.underlying74 TI5 rfl rfl c197 rfl (by decide)) rfl (by kernel_rfl) (fun _ => ⟨⟨⟨1, rfl⟩, trivial⟩, trivial, trivial⟩) ?_ ?_
    · intro v199
      exact VA.more ⟨0, [], [.at_ ⟨g196, 0, none⟩ (ints .u8 a0_0), .row v199 1 (a0_0.map enc_intu8)], [], []⟩ ⟨⟨⟨0, rfl⟩, trivial⟩, trivial, trivial⟩ <|
       aw 1 3 rfl (op_bytesStr (xs := a0_0) 1 rfl rfl Try.underlying41 Try.underlying9 Try.underlying5 rfl rfl) ⟨⟨⟨1, rfl⟩, ⟨0, rfl⟩, trivial⟩, trivial, trivial⟩ <|
       VA.oneG (i := 2) (listed' := LB 6 7) (by kernel_rfl) rfl (o_sliceA (es := List.map enc_intu8 a0_0) 1 Try.underlying74 TI5 rfl rfl c197 rfl (by decide)) rfl (by kernel_rfl) (fun _ => ⟨⟨⟨2, rfl⟩, ⟨1, rfl⟩, trivial⟩, trivial, trivial⟩) fun v201 => VA.more ⟨0, [], [.at_ ⟨g196, 0, none⟩ (ints .u8 a0_0), .row v199 1 (a0_0.map enc_intu8), .row v201 1 (a0_0.map enc_intu8)], [], []⟩ ⟨⟨⟨0, rfl⟩, ⟨1, rfl⟩, trivial⟩, trivial, trivial⟩ <|
       aw 3 15 rfl (op_bytesStr (xs := a0_0) 2 rfl rfl Try.underlying41 Try.underlying9 Try.underlying5 rfl rfl) ⟨⟨⟨2, rfl⟩, ⟨1, rfl⟩, ⟨0, rfl⟩, trivial⟩, trivial, trivial⟩ <| aw 4 31 rfl (op_adds rfl rfl rfl c202) ⟨⟨⟨2, rfl⟩, ⟨1, rfl⟩, ⟨0, rfl⟩, trivial⟩, trivial, trivial⟩ <|
       aw 5 63 rfl (ag rfl) ⟨⟨⟨2, rfl⟩, ⟨1, rfl⟩, ⟨0, rfl⟩, trivial⟩, trivial, trivial⟩ <| VA.done (by kernel_rfl) <| VN.meet0  [] [] trivial ⟨rfl, ⟨rfl, trivial⟩, trivial, rfl, by decide, rfl, by decide⟩
    refine VAll.consG (listed' := LB 6 4) rfl (o_sliceA (es := List.map enc_intu8 a0_0) 0 Try.underlying74 TI5 rfl rfl c197 rfl (by decide)) rfl (by kernel_rfl) (fun _ => ⟨⟨⟨1, rfl⟩, trivial⟩, trivial, trivial⟩) ?_ VAll.nil
    intro v201
    exact VA.more ⟨0, [], [.at_ ⟨g196, 0, none⟩ (ints .u8 a0_0), .row v201 1 (a0_0.map enc_intu8)], [], []⟩ ⟨⟨⟨0, rfl⟩, trivial⟩, trivial, trivial⟩ <|
     aw 3 12 rfl (op_bytesStr (xs := a0_0) 1 rfl rfl Try.underlying41 Try.underlying9 Try.underlying5 rfl rfl) ⟨⟨⟨1, rfl⟩, ⟨0, rfl⟩, trivial⟩, trivial, trivial⟩ <|
     VA.oneG (i := 0) (listed' := LB 6 13) (by kernel_rfl) rfl (o_sliceA (es := List.map enc_intu8 a0_0) 1 Try.underlying74 TI5 rfl rfl c197 rfl (by decide)) rfl (by kernel_rfl) (fun _ => ⟨⟨⟨2, rfl⟩, ⟨1, rfl⟩, trivial⟩, trivial, trivial⟩) fun v199 => VA.more ⟨0, [], [.at_ ⟨g196, 0, none⟩ (ints .u8 a0_0), .row v201 1 (a0_0.map enc_intu8), .row v199 1 (a0_0.map enc_intu8)], [], []⟩ ⟨⟨⟨0, rfl⟩, ⟨1, rfl⟩, trivial⟩, trivial, trivial⟩ <|
     aw 1 15 rfl (op_bytesStr (xs := a0_0) 2 rfl rfl Try.underlying41 Try.underlying9 Try.underlying5 rfl rfl) ⟨⟨⟨2, rfl⟩, ⟨1, rfl⟩, ⟨0, rfl⟩, trivial⟩, trivial, trivial⟩ <| aw 4 31 rfl (op_adds rfl rfl rfl c202) ⟨⟨⟨2, rfl⟩, ⟨1, rfl⟩, ⟨0, rfl⟩, trivial⟩, trivial, trivial⟩ <|
     aw 5 63 rfl (ag rfl) ⟨⟨⟨2, rfl⟩, ⟨1, rfl⟩, ⟨0, rfl⟩, trivial⟩, trivial, trivial⟩ <| VA.done (by kernel_rfl) <| VN.meet0  [] [] trivial ⟨rfl, ⟨rfl, trivial⟩, trivial, rfl, by decide, rfl, by decide⟩
  intro _
  refine VC.ret <| ?_
  obtain rfl := Option.some.inj h
  exact VR.fn (rs := [.tmp 2]) [] [] [] rfl (.tmp rfl .nil) ⟨rfl, rfl, rfl⟩ trivial rfl (by decide)

theorem disk_Right_1.ok (a0 : ByteArray)  (r1 : Bool) (h : disk_Right_1.f a0 = some r1) :
    VCalls Try.prog 51 [.string a0] [] (fun v G own => v = .bool r1 ∧ G = [] ∧ own = []) := by
  refine VCalls.intro Try.func51 rfl (len rfl) fun E hC hW hD hU => ?_
  unfold disk_Right_1.f at h
  refine sr <| vs rfl <| nx <| vm rfl <| va (op_lens Try.underlying9 rfl) <| VL.letter (((a0.size : Int) != 64)) fun b228 hb228 => va (op_cmp rfl rfl (congrArg some hb228)) <| vs rfl <| dt <| VC.ret <| ?_
  obtain rfl := Option.some.inj h
  subst hb228
  exact VR.fn (rs := [.tmp 2]) [] [] [] rfl (.tmp rfl .nil) ⟨rfl, rfl, rfl⟩ trivial rfl (by decide)

theorem slices_IndexFunc_string_string.ok (k : Nat) (l0 : List ByteArray) (v0 : Value) (r1 : Int) (h : slices_IndexFunc_string_string.f k l0 = some r1) :
    VCalls Try.prog 74 [v0, (.func (.func 51) #[] #[])] [.row v0 1 (l0.map enc_str)] (fun v G own => v = .int .i64 r1 ∧ G = [] ∧ own = []) := by
  refine VCalls.intro Try.func74 rfl (len rfl) fun E hC hW hD hU => ?_
  unfold slices_IndexFunc_string_string.f at h
  refine sr <| vs rfl <| ds <| sr <| vm rfl <| va (op_len (m := l0.length) 0 lenm Try.underlying22 rfl rfl) <| vm rfl <| dt <| VC.block <|
   VC.loop1 (fun (i288 : Int) => ⟨19, [(0, v0), (1, (.func (.func 51) #[] #[])), (4, .int .i64 0), (7, .int .i64 (l0.length : Int)), (8, .int .i64 i288)], [.row v0 1 (l0.map enc_str)], [], []⟩) (fun (ml1 : Nat) (i288 : Int) => slices_IndexFunc_string_string.l1 k l0 ml1 i288 = some r1) k 0 [] [] h ⟨rfl, ⟨rfl, rfl, rfl, rfl, rfl, trivial⟩, ⟨⟨0, rfl⟩, trivial⟩, rfl, by decide, rfl, by decide⟩ (by intros; simp [slices_IndexFunc_string_string.l1]) <|
   ?_
  clear h
  intro ml1 ihl1 i288 h
  simp only [slices_IndexFunc_string_string.l1] at h
  refine sr <| VL.letter (decide (i288 < (l0.length : Int))) fun b306 hb306 => va (op_cmp rfl rfl (congrArg some hb306)) <| ds <| ?_
  replace h := iC h
  rcases h with ⟨c308, h⟩ | ⟨c308, h⟩
  · cases lT c308 hb306
    refine ct <| sk <| sq <| VC.block <| sr <| vm rfl <| vs rfl <| nx <| vm rfl <| vm rfl <| vm rfl <| ?_
    replace h := iN h
    obtain ⟨c316, h⟩ := h
    replace h := bd h
    obtain ⟨x317, hx317, h⟩ := h
    refine VL.open (m := l0.length) 0 lenm rfl (pos_get hx317) <| ?_
    rintro ad318 n319 rfl
    refine va (op_indexAddr Try.underlying22 TI9 rfl rfl c316 (lt_get c316 hx317) rfl) <| va (op_load_row (sz := 1) (o := 0) 0 i288.toNat 1 rfl rfl (get_map hx317) TI9 rfl (by decide)) <| ?_
    replace h := bd h
    obtain ⟨t320, hA321, h⟩ := h
    refine sC (o_call0 FO51 (disk_Right_1.ok x317 t320 hA321) rfl rfl (ltn rfl) (All_of .nil)) <| ?_
    rintro _ _ _ ⟨rfl, rfl, rfl⟩
    refine dt <| ?_
    replace h := iC h
    rcases h with ⟨c322, h⟩ | ⟨c322, h⟩
    · obtain rfl := c322
      refine ct <| sr <| vm rfl <| vs rfl <| dt <| VC.ret <| VR.block <| VR.then <| VR.then <| VR.block <| VR.then <| ?_
      obtain rfl := Option.some.inj h
      exact VR.fn (rs := [.tmp 4]) [] [] [] rfl (.tmp rfl .nil) ⟨rfl, rfl, rfl⟩ trivial rfl (by decide)
    obtain rfl := Bool.eq_false_iff.2 c322
    refine cf <| VC.skip <| VN.block <| tr <| va (op_ari64 rfl rfl rfl) <| vm rfl <| dn <| VN.again [] [] (ihl1 (wrap64 (i288 + 1)) h) ⟨rfl, ⟨rfl, rfl, rfl, rfl, rfl, trivial⟩, ⟨⟨0, rfl⟩, trivial⟩, rfl, by decide, rfl, by decide⟩
  cases lF c308 hb306
  refine cf <| VC.exit <| VX.then <| VX.then <| VX.hit <| tx <| vs rfl <| dt <| VC.ret <| ?_
  obtain rfl := Option.some.inj h
  exact VR.fn (rs := [.tmp 4]) [] [] [] rfl (.tmp rfl .nil) ⟨rfl, rfl, rfl⟩ trivial rfl (by decide)

theorem slices_ContainsFunc_string_string.ok (k : Nat) (l0 : List ByteArray) (v0 : Value) (r1 : Bool) (h : slices_ContainsFunc_string_string.f k l0 = some r1) :
    VCalls Try.prog 53 [v0, (.func (.func 51) #[] #[])] [.row v0 1 (l0.map enc_str)] (fun v G own => v = .bool r1 ∧ G = [] ∧ own = []) := by
  refine VCalls.intro Try.func53 rfl (len rfl) fun E hC hW hD hU => ?_
  unfold slices_ContainsFunc_string_string.f at h
  refine sr <| vs rfl <| nx <| vm rfl <| vm rfl <| ?_
  replace h := bd h
  obtain ⟨t323, hA324, h⟩ := h
  refine sC (o_call0 FO74 (slices_IndexFunc_string_string.ok k l0 v0 t323 hA324) rfl rfl (ltn rfl) (All_of (.cons (mG 0 rfl) .nil))) <| ?_
  rintro _ _ _ ⟨rfl, rfl, rfl⟩
  refine VL.letter (decide (t323 ≥ 0)) fun b325 hb325 => va (op_cmp rfl rfl (congrArg some hb325)) <| vs rfl <| dt <| VC.ret <| ?_
  obtain rfl := Option.some.inj h
  subst hb325
  exact VR.fn (rs := [.tmp 4]) [] [] [] rfl (.tmp rfl .nil) ⟨rfl, rfl, rfl⟩ trivial rfl (by decide)

theorem disk_Right_2.ok (a0_0 : Int) (a0_1 : ByteArray) (a1_0 : Int) (p1 : Nat) (p2 : Nat) (r1 : Bool) (h : disk_Right_2.f a0_0 a0_1 a1_0 = some r1) :
    VCalls Try.prog 52 [.agg #[.int .i64 a0_0, .string a0_1], .pointer (some ⟨p1, 0, none⟩), .pointer (some ⟨p2, 0, none⟩)] [.at_ ⟨p1, 0, none⟩ [.int .i64 a1_0], .at_ ⟨p2, 0, none⟩ [(.func (.func 51) #[] #[])]] (fun v G own => v = .bool r1 ∧ G = [] ∧ own = []) := by
  refine VCalls.intro Try.func52 rfl (len rfl) fun E hC hW hD hU => ?_
  unfold disk_Right_2.f at h
  refine sr <| sG (o_box rfl (.agg (.of rfl))) fun g337 => vs rfl <| nx <| va (op_fieldAddr FI56_0 rfl (add_at _ _ _)) <| va (op_load 0 1 rfl rfl TI3 rfl (by decide)) <| VL.letter (decide (a0_0 < 0)) fun b344 hb344 => va (op_cmp rfl rfl (congrArg some hb344)) <| vm rfl <| ?_
  replace h := iC h
  rcases h with ⟨c345, h⟩ | ⟨c345, h⟩
  · cases lT c345 hb344
    refine un rfl <| un rfl <| un rfl <| un rfl <| va (op_pick rfl rfl) <| vm rfl <| un rfl <| un rfl <| un rfl <| un rfl <| va (op_pick rfl rfl) <| vs rfl <| dt <| VC.ret <| ?_
    obtain rfl := Option.some.inj h
    exact VR.fn (rs := [.tmp 4]) [] [] [] rfl (.tmp rfl .nil) ⟨rfl, rfl, rfl⟩ trivial rfl (by decide)
  cases lF c345 hb344
  refine va (op_fieldAddr FI56_0 rfl (add_at _ _ _)) <| va (op_load 0 1 rfl rfl TI3 rfl (by decide)) <| va (op_load_at (ad := ⟨p1, 0, none⟩) 0 0 1 (by first | rfl | exact congrArg (fun a => some (Value.pointer (some a))) (add_at _ 0 _).symm) rfl TI3 rfl (by decide)) <|
   VL.letter (decide (a0_0 ≥ a1_0)) fun b346 hb346 => va (op_cmp rfl rfl (congrArg some hb346)) <| va (op_pick rfl rfl) <| vm rfl <| ?_
  replace h := iC h
  rcases h with ⟨c347, h⟩ | ⟨c347, h⟩
  · cases lT c347 hb346
    refine un rfl <| un rfl <| un rfl <| un rfl <| va (op_pick rfl rfl) <| vs rfl <| dt <| VC.ret <| ?_
    obtain rfl := Option.some.inj h
    exact VR.fn (rs := [.tmp 4]) [] [] [] rfl (.tmp rfl .nil) ⟨rfl, rfl, rfl⟩ trivial rfl (by decide)
  cases lF c347 hb346
  refine va (op_load_at (ad := ⟨p2, 0, none⟩) 1 0 1 (by first | rfl | exact congrArg (fun a => some (Value.pointer (some a))) (add_at _ 0 _).symm) rfl TI87 rfl (by decide)) <| va (op_fieldAddr FI56_1 rfl (add_at _ _ _)) <| va (op_load 0 1 rfl rfl TI9 rfl (by decide)) <| ?_
  replace h := bd h
  obtain ⟨t348, hA349, h⟩ := h
  refine sC (o_call0 FO51 (disk_Right_1.ok a0_1 t348 hA349) rfl rfl (ltn rfl) (All_of .nil)) <| ?_
  rintro _ _ _ ⟨rfl, rfl, rfl⟩
  refine va (op_pick rfl rfl) <| vs rfl <| dt <| VC.ret <| ?_
  obtain rfl := Option.some.inj h
  exact VR.fn (rs := [.tmp 4]) [] [] [] rfl (.tmp rfl .nil) ⟨rfl, rfl, rfl⟩ trivial rfl (by decide)

theorem slices_IndexFunc_api_Write_api_Write.ok (k : Nat) (l0 : List S55) (a1_0_0 : Int) (v0 : Value) (p1_0 : Nat) (p1_1 : Nat) (r1 : Int) (h : slices_IndexFunc_api_Write_api_Write.f k l0 a1_0_0 = some r1) :
    VCalls Try.prog 75 [v0, (.func (.func 52) #[] #[.pointer (some ⟨p1_0, 0, none⟩), .pointer (some ⟨p1_1, 0, none⟩)])] [.row v0 2 (l0.map enc55), .at_ ⟨p1_0, 0, none⟩ [.int .i64 a1_0_0], .at_ ⟨p1_1, 0, none⟩ [(.func (.func 51) #[] #[])]] (fun v G own => v = .int .i64 r1 ∧ G = [] ∧ own = []) := by
  refine VCalls.intro Try.func75 rfl (len rfl) fun E hC hW hD hU => ?_
  unfold slices_IndexFunc_api_Write_api_Write.f at h
  refine sr <| vs rfl <| ds <| sr <| vm rfl <| va (op_len (m := l0.length) 0 lenm Try.underlying23 rfl rfl) <| vm rfl <| dt <| VC.block <|
   VC.loop1 (fun (i409 : Int) => ⟨19, [(0, v0), (1, (.func (.func 52) #[] #[.pointer (some ⟨p1_0, 0, none⟩), .pointer (some ⟨p1_1, 0, none⟩)])), (4, .int .i64 0), (7, .int .i64 (l0.length : Int)), (8, .int .i64 i409)], [.at_ ⟨p1_0, 0, none⟩ [.int .i64 a1_0_0], .at_ ⟨p1_1, 0, none⟩ [(.func (.func 51) #[] #[])], .row v0 2 (l0.map enc55)], [], []⟩) (fun (ml1 : Nat) (i409 : Int) => slices_IndexFunc_api_Write_api_Write.l1 k a1_0_0 l0 ml1 i409 = some r1) k 0 [] [] h ⟨rfl, ⟨rfl, rfl, rfl, rfl, rfl, trivial⟩, ⟨⟨1, rfl⟩, ⟨2, rfl⟩, ⟨0, rfl⟩, trivial⟩, rfl, by decide, rfl, by decide⟩ (by intros; simp [slices_IndexFunc_api_Write_api_Write.l1]) <|
   ?_
  clear h
  intro ml1 ihl1 i409 h
  simp only [slices_IndexFunc_api_Write_api_Write.l1] at h
  refine sr <| VL.letter (decide (i409 < (l0.length : Int))) fun b427 hb427 => va (op_cmp rfl rfl (congrArg some hb427)) <| ds <| ?_
  replace h := iC h
  rcases h with ⟨c429, h⟩ | ⟨c429, h⟩
  · cases lT c429 hb427
    refine ct <| sk <| sq <| VC.block <| sr <| vm rfl <| vs rfl <| nx <| vm rfl <| vm rfl <| vm rfl <| ?_
    replace h := iN h
    obtain ⟨c437, h⟩ := h
    replace h := bd h
    obtain ⟨x438, hx438, h⟩ := h
    refine VL.open (m := l0.length) 2 lenm rfl (pos_get hx438) <| ?_
    rintro ad439 n440 rfl
    refine va (op_indexAddr Try.underlying23 TI56 rfl rfl c437 (lt_get c437 hx438) rfl) <| va (op_load_row (sz := 2) (o := 0) 2 i409.toNat 2 rfl rfl (get_map hx438) TI56 rfl (fun h => absurd h (by decide))) <| ?_
    replace h := bd h
    obtain ⟨t441, hA442, h⟩ := h
    refine sC (o_call (vals := [.agg #[.int .i64 x438.f0, .string x438.f1]]) (caps := [.pointer (some ⟨p1_0, 0, none⟩), .pointer (some ⟨p1_1, 0, none⟩)]) FO52 (disk_Right_2.ok x438.f0 x438.f1 a1_0_0 p1_0 p1_1 t441 hA442) rfl rfl (ltn rfl) (All_of (.cons (mG 0 rfl) (.cons (mG 1 rfl) .nil)))) <| ?_
    rintro _ _ _ ⟨rfl, rfl, rfl⟩
    refine dt <| ?_
    replace h := iC h
    rcases h with ⟨c443, h⟩ | ⟨c443, h⟩
    · obtain rfl := c443
      refine ct <| sr <| vm rfl <| vs rfl <| dt <| VC.ret <| VR.block <| VR.then <| VR.then <| VR.block <| VR.then <| ?_
      obtain rfl := Option.some.inj h
      exact VR.fn (rs := [.tmp 4]) [] [] [] rfl (.tmp rfl .nil) ⟨rfl, rfl, rfl⟩ trivial rfl (by decide)
    obtain rfl := Bool.eq_false_iff.2 c443
    refine cf <| VC.skip <| VN.block <| tr <| va (op_ari64 rfl rfl rfl) <| vm rfl <| dn <| VN.again [] [] (ihl1 (wrap64 (i409 + 1)) h) ⟨rfl, ⟨rfl, rfl, rfl, rfl, rfl, trivial⟩, ⟨⟨0, rfl⟩, ⟨1, rfl⟩, ⟨2, rfl⟩, trivial⟩, rfl, by decide, rfl, by decide⟩
  cases lF c429 hb427
  refine cf <| VC.exit <| VX.then <| VX.then <| VX.hit <| tx <| vs rfl <| dt <| VC.ret <| ?_
  obtain rfl := Option.some.inj h
  exact VR.fn (rs := [.tmp 4]) [] [] [] rfl (.tmp rfl .nil) ⟨rfl, rfl, rfl⟩ trivial rfl (by decide)

end Go.Proofs.Ytipeglbeongfmaa.PJournalLives
