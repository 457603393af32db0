/- Written by a program of this repo over the kit's print program: what the program's functions do, each as a Lean function, shown of the loaded code; or a statement's row over that; no condition of its own. -/
import Derived.Test.YtjghhdnecilcfaaPNetTurnsx0
namespace Go.Proofs.Ytjghhdnecilcfaa.PNetTurns
open Go.RowKit Go.Proofs.YtjghhdnecilcfaaW.PrintWords Go.Proofs.YtjghhdnecilcfaaW.PrintLast Go.Proofs.YtjghhdnecilcfaaW.PrintMore
attribute [local go_sem] max2_int min2_int max_two min_two max_three min_three max_four min_four   -- for this text's walks alone
set_option linter.unusedVariables false
set_option linter.unusedSimpArgs false

/-! ### something appended to a slice that is full -/
open Kd in
theorem clip_cells {α : Type} (d : Kd α) {w : World} {A : Option Addr} {n : Nat} {xs : List α} (h : d.C w A n xs) :
    ∃ cs, Reps (d.K w) d.sz xs cs ∧ ∀ b, A = some b → ∀ j u, cs[j]? = some u → w.cell? (b.add j) = some u := by
  cases A with
  | some b =>
    obtain ⟨cs, h1, h2⟩ := ReadsRow.inner_ h
    exact ⟨cs, h1, fun b' e => by injection e with e; subst e; exact h2⟩
  | none =>
    have hz : n = 0 := by
      rcases Nat.eq_zero_or_pos n with h0 | h0
      · exact h0
      · obtain ⟨ad, e, _⟩ := h.2.2 h0
        cases e
    have hx : xs = [] := List.eq_nil_of_length_eq_zero (by rw [h.1, hz])
    subst hx
    exact ⟨[], Reps.none _ _, fun b e => by cases e⟩
section
variable {P : Program} {ops : Array Oper} {rest : List Oper} {o : Oper} {a : Act} {Q : Exit → Act → World → Prop}
theorem run_append_none (w : World) (t ty e : TypeId) (i : TypeInfo) (ht : P.underlying t = some (.slice e)) (hi : P.info? e = some i) (A A1 : Option Addr) (n cap c : Nat) (hn : n ≤ cap) (hA : A = none → n = 0) :
    (Builtin.append_ #[t, t] ty #[.slice A n cap, .slice A1 0 c]).run P w = .ok (.slice A n cap) w := by
  cases A with
  | none =>
    obtain rfl := hA rfl
    cases A1 <;> simp [Builtin.append_, run_underlying ht, sizeOf, typeInfo, hi, Builtin.lenOf, Builtin.firstCells, loadCells, loadCellsFrom, storeCells, hn]
  | some b => cases A1 <;> simp [Builtin.append_, run_underlying ht, sizeOf, typeInfo, hi, Builtin.lenOf, Builtin.firstCells, loadCells, loadCellsFrom, storeCells, hn]
/-- Something appended to a slice that is full (cut to its own length): the world below stays. -/
theorem wpList_clip_append {α : Type} (d : Kd α) (hKM : ∀ {w x cs}, d.K w x cs → ∀ W base ok, d.M W base ok x cs) (hsz : 0 < d.sz) (w : World) (hg : o.guard = none) (s x : Operand) (t : TypeId)
    (hop : o.op = Op.call { callee := Callee.builtin Builtin.append, args := #[s, x], argTypes := #[t, t] })
    (e : TypeId) (z : Value) (bytes : Nat) (h1 : P.underlying t = some (.slice e)) (hinfo : (P.info? e).map (fun i => (i.zero, i.size, i.bytes)) = some (some z, d.sz, bytes)) (hz : z.cells.size = d.sz)
    (A0 A1 : Option Addr) (l0 l1 : List α) (c1 base : Nat) (ok : Nat → Prop) (hs : a.eval s = .slice A0 l0.length l0.length) (hx : a.eval x = .slice A1 l1.length c1)
    (hF : Kd.F d w ok A0 l0.length l0) (hr1 : d.C w A1 l1.length l1) (b2 : (l0.length + l1.length) * bytes ≤ 140737488355328) (b1 : l0.length + l1.length ≤ 9223372036854775807)
    (hN : ∀ v' w', Below w.heap.size w w' → d.V e w' base (fun k => ok k ∨ w.heap.size ≤ k) v' (l0 ++ l1) → wpList P ops Q rest (a.put o.dst v') w') :
    wpList P ops Q (o :: rest) a w := by
  obtain ⟨i0, hi, hzz⟩ := Option.map_eq_some_iff.1 hinfo
  simp only [Prod.mk.injEq] at hzz
  obtain ⟨hz0, hz1, hz2⟩ := hzz
  have hC := Kd.F_now hF
  by_cases hl : l1 = []
  · subst hl
    refine wpList_plain hg fun K hK' => ?_
    have hA : A0 = none → l0.length = 0 := by
      intro e
      subst e
      rcases Nat.eq_zero_or_pos l0.length with h0 | h0
      · exact h0
      · obtain ⟨ad, e, _⟩ := hC.2.2 h0
        cases e
    have hrun := run_append_none (P := P) w t o.type e i0 h1 hi A0 A1 l0.length l0.length c1 (Nat.le_refl _) hA
    unfold Oper.wp
    simp only [List.length_nil] at hx
    simp [execOp, hop, resolve, invoke, builtin, hs, hx, hrun, Result.andThen]
    refine hK' _ _ (hN _ _ (Below.refl _ _) ?_)
    rw [List.append_nil]
    exact Kd.V_mono (Kd.V_mk (Nat.le_refl _) hF) (fun k hk => .inl hk)
  · have hpos : 0 < l1.length := List.length_pos_iff.2 hl
    obtain ⟨ad, rfl, _⟩ := hr1.2.2 hpos
    obtain ⟨olds, ho1, ho2⟩ := clip_cells d hC
    obtain ⟨news, hn1, hn2⟩ := clip_cells d hr1
    refine wpList_append_grows w hg s x t hop e i0 z d.sz bytes h1 hi hz0 hz1 hz2 hz hsz A0 l0.length l0.length olds hs ?_ ho1.1 ho2 ad l1.length c1 news hx hn1.1 (hn2 ad rfl) (Kd.reps_one hn1 hsz (fun p c h u hu => d.K_one h u hu)) (by omega) (by simp only [maxLen]; omega) b2 ?_
    · intro e
      subst e
      rcases Nat.eq_zero_or_pos l0.length with h0 | h0
      · exact ⟨h0, h0⟩
      · obtain ⟨ad, e, _⟩ := hC.2.2 h0
        cases e
    · intro v' w' hown hgr
      have hb : Below w.heap.size w w' := Below.grown (Below.refl _ _) hgr (Nat.le_refl _) (fun k hk => by cases hk)
      have hlen : (l0 ++ l1).length = l0.length + l1.length := List.length_append
      have hR : d.R e w' w.heap.size (fun k => w.heap.size ≤ k) v' (l0 ++ l1) :=
        ⟨fun k hk => own_base hown k hk, olds ++ news, by rw [hlen]; exact hown, Kd.reps_append (ho1.imp_ (fun p c h => hKM h _ _ _)) (hn1.imp_ (fun p c h => hKM h _ _ _))⟩
      obtain ⟨A, c, rfl, hc, _⟩ := Kd.R_reads hR
      exact hN _ _ hb (Kd.V_mono (Kd.V_mk hc (Kd.R_F hR)) (fun k hk => .inr hk))
end
/-! ### net_behind (by hand: a slice cut to its own length, appended to) -/
def net_behind.f (l0 : List S26) (l1 : List S26) : Option (List S26) := if (l0.length + l1.length) * 48 ≤ 140737488355328 then some (l0 ++ l1) else none
theorem net_behind.KM {w : World} {x : S26} {cs : List Value} (h : k26.K w x cs) (W : World) (base : Nat) (ok : Nat → Prop) : k26.M W base ok x cs := by
  rw [k26_open h]
  exact k26_mkM W base ok x
set_option maxHeartbeats 1000000 in
set_option maxRecDepth 100000 in
theorem net_behind.calls (P0_ : Nat → Prop) (A0 : Option Addr) (c0 : Nat) (l0 : List S26) (A1 : Option Addr) (c1 : Nat) (l1 : List S26) (r : List S26) (w : World)
    (hs0 : Kd.V k26 26 w w.heap.size (fun k_ => P0_ k_) (.slice A0 l0.length c0) l0) (hr1 : Kd.C k26 w A1 l1.length l1) (hc1 : l1.length ≤ c1) (h : net_behind.f l0 l1 = some r) :
    Calls Try.prog 17 #[.slice A0 l0.length c0, .slice A1 l1.length c1] w fun e w' => ∃ v0_ : Value, e = .returned v0_ ∧ Kd.V k26 26 w' w.heap.size (fun k_ => (P0_ k_ ∨ w.heap.size ≤ k_)) v0_ r ∧ Below w.heap.size w w' := by
  unfold net_behind.f at h
  by_cases hb : (l0.length + l1.length) * 48 ≤ 140737488355328
  · rw [if_pos hb] at h
    obtain rfl := Option.some.inj h
    obtain ⟨_, hc0, hF⟩ := Kd.V_at hs0
    have hn : l0.length ≤ 9223372036854775807 := by omega
    have HF := Aside0.mk hF
    have HR := Aside0.mk hr1
    have HB := Aside0.mk hb
    clear hF hr1 hs0 h hb
    go_enter Try.func17, Try.ntmps17
    go_wp2_with (at_builtin; refine wpList_clip_append k26 net_behind.KM (by decide) _ rfl _ _ 22 rfl 26 _ 48 Try.underlying22 info26 rfl A0 A1 l0 l1 c1 w.heap.size _ rfl rfl HF.out HR.out HB.out (by have := HB.out; omega) ?_; intro v' w' hb' hv'; have HV := Aside0.mk hv'; clear hv')
    go_ret
    exact ⟨_, rfl, HV.out, hb'⟩
  · rw [if_neg hb] at h
    exact absurd h (by simp)

end Go.Proofs.Ytjghhdnecilcfaa.PNetTurns
