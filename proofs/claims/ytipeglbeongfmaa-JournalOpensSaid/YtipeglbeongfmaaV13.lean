/- Callees that are walked in place, with the caller's memory; no condition of its own. -/
import Derived.Test.YtipeglbeongfmaaV12
namespace Go.Proofs.YtipeglbeongfmaaV
open Go Go.RowKit
set_option linter.unusedVariables false
set_option linter.unusedSimpArgs false
section
variable {P : Program} {E : Env} {w w' : World} {s s' : St} {a : Act} {o : Oper} {ops : Array Oper} {rest : List Oper} {Q : Exit → Act → World → Prop} {d : Nat} {v u : Value} {x y z : Operand}
variable {ty : TypeId} {pos : String} {after : Array Edge} {gd : Option (Nat × Bool)}
  {n0 : Nat} {t0 : List (Nat × Value)} {f0 : List Fact} {b0 : List (Nat × TypeId × List Value)} {r0 : List (Value × TypeId × Nat × List (List Value))}

/-- What is kept of a row. -/
def keepM {α : Type} (p : α → Option Bool) : List α → Option (List α)
  | [] => some []
  | x :: xs => (p x).bind fun b => (keepM p xs).bind fun r => some (if b = true then r else x :: r)
theorem SubF.of : ∀ {l : List Fact}, (∀ x ∈ l, x ∈ s.f) → SubF s l
  | [], _ => trivial
  | x :: l, h => by
    obtain ⟨i, hi⟩ := List.getElem?_of_mem (h x (by simp))
    exact ⟨⟨i, hi⟩, SubF.of fun y hy => h y (by simp [hy])⟩
theorem VC.lenR {c : Code} {e sz : Nat} {es : List (List Value)} (i : Nat) (hr : r0[i]? = some (v, e, sz, es)) (h : es.length ≤ 9223372036854775807 → VC P E c Q ⟨n0, t0, f0, b0, r0⟩) : VC P E c Q ⟨n0, t0, f0, b0, r0⟩ := fun a w hi => by
  obtain ⟨_, _, h3⟩ := hi.rows _ (List.mem_of_getElem? hr)
  rcases h3 with ⟨_, h4⟩ | ⟨_, _, _, _, _, _, h4, h5, _⟩
  · exact h (by simp only at h4; omega) a w hi
  · exact h (by simp only [maxLen] at h4 h5; omega) a w hi
/-- Values of one cell each, all of them at once. -/
theorem One.of : ∀ {us : List Value}, us.all (·.oneCell') = true → One s us
  | [], _ => .nil
  | u :: us, h => by
    simp only [List.all_cons, Bool.and_eq_true] at h
    exact .c h.1 (One.of h.2)
/-- One's temporaries, another's memory. -/
theorem Inv.swap {n n2 : Nat} {t t2 : List (Nat × Value)} {f f2 : List Fact} {b b2 : List (Nat × TypeId × List Value)} {r r2 : List (Value × TypeId × Nat × List (List Value))} {a a2 : Act} {w w2 : World} (h : Inv E ⟨n, t, f, b, r⟩ a w) (h2 : Inv E ⟨n2, t2, f2, b2, r2⟩ a2 w2) : Inv E ⟨n, t, f2, b2, r2⟩ a w2 where
  below := h2.below
  defers := h.defers
  size := h.size
  tmps := h.tmps
  facts := h2.facts
  boxes := h2.boxes
  rows := h2.rows
  nodup := h2.nodup

def putT (d : Option Nat) (q : Value) (t : List (Nat × Value)) : List (Nat × Value) := match d with | some d => (d, q) :: t | none => t
/-- What is to be shown where a callee ends that is walked in place. -/
def InP (P : Program) (E : Env) (ops : Array Oper) (Q : Exit → Act → World → Prop) (rest : List Oper) (n : Nat) (d : Option Nat) (t : List (Nat × Value)) (e : Ending) (w' : World) : Prop :=
  ∃ q f b r n2 t2 a2, e = .returned q ∧ Inv E ⟨n2, t2, f, b, r⟩ a2 w' ∧ VL P E ops Q rest ⟨n, putT d q t, f, b, r⟩
theorem VL.inlc {f : FuncId} {fn : Func} {c : Code} {cal : Operand} {args : List Operand} {ats : Array TypeId} {caps vals : List Value} {dst : Option Nat}
    (hf : P.funcs[f]? = some fn) (hF : FOk P f) (hb : fn.body = some c) (hc : St.ev ⟨n0, t0, f0, b0, r0⟩ cal = some (.func (.func f) #[] caps.toArray)) (ha : args.map (St.ev ⟨n0, t0, f0, b0, r0⟩) = vals.map some) (hn : (vals ++ caps).length ≤ fn.ntmps) (hd : ∀ d, dst = some d → d < n0)
    (hg : guardOn ops ⟨n0, t0, f0, b0, r0⟩ ⟨dst, .call { callee := .value cal, args := args.toArray, argTypes := ats }, ty, pos, after, gd⟩ = some true)
    (h : VC P E c (bodyPost P fn (InP P E ops Q rest n0 dst t0)) ⟨fn.ntmps, argT 0 (vals ++ caps), f0, b0, r0⟩) (hR : E.R = none := by first | assumption | rfl) (hD : E.D = [] := by first | assumption | rfl) :
    VL P E ops Q (⟨dst, .call { callee := .value cal, args := args.toArray, argTypes := ats }, ty, pos, after, gd⟩ :: rest) ⟨n0, t0, f0, b0, r0⟩ := by
  intro a w hi
  refine wpListIn_step fun K hK => ?_
  rw [if_pos (guardOn_wanted hi hg)]
  have hev : (args.toArray.map a.eval) ++ caps.toArray = (vals ++ caps).toArray := by
    rw [List.map_toArray, eval_args hi ha]
    simp
  have : (execOp a.eval ⟨dst, .call { callee := .value cal, args := args.toArray, argTypes := ats }, ty, pos, after, gd⟩).run P w = .ok (.enter f (vals ++ caps).toArray) w := by
    have h2 := run_call (P := P) (w := w) (caps := caps.toArray) (c := { callee := .value cal, args := args.toArray, argTypes := ats }) (t := ty) (ρ := a.eval) hF rfl (hi.ev hc)
    rw [← hev]
    exact h2
  refine (wo_enter this ?_).1
  refine (calls_of_wp hf hb (h.wp hR _ w ⟨hi.below, hD.symm, ?_, ?_, hi.facts, hi.boxes, hi.rows, hi.nodup⟩)).mono ?_
  · simp at hn ⊢
    omega
  · intro k v hk
    obtain ⟨_, h2⟩ := argT_lookup (vals ++ caps) 0 k v hk
    have hlt := (List.getElem?_eq_some_iff.1 h2).1
    simp only [Nat.sub_zero] at h2 hlt
    simp only
    rw [Array.getElem?_append_left (by simpa using hlt)]
    simpa using h2
  · rintro e w2 ⟨q, f, b, r, n2, t2, a2, rfl, hi2, hv⟩
    have hs := hi.swap hi2
    refine hK _ _ (hv _ _ ?_)
    cases dst with
    | none => exact hs
    | some d => exact hs.put (hd d rfl) q
theorem VL.inl {f : FuncId} {fn : Func} {c : Code} {cal : Operand} {args : List Operand} {ats : Array TypeId} {caps vals : List Value}
    (hf : P.funcs[f]? = some fn) (hF : FOk P f) (hb : fn.body = some c) (hc : St.ev ⟨n0, t0, f0, b0, r0⟩ cal = some (.func (.func f) #[] caps.toArray)) (ha : args.map (St.ev ⟨n0, t0, f0, b0, r0⟩) = vals.map some) (hn : (vals ++ caps).length ≤ fn.ntmps) (hd : d < n0)
    (hg : guardOn ops ⟨n0, t0, f0, b0, r0⟩ ⟨some d, .call { callee := .value cal, args := args.toArray, argTypes := ats }, ty, pos, after, gd⟩ = some true)
    (h : VC P E c (bodyPost P fn (InP P E ops Q rest n0 (some d) t0)) ⟨fn.ntmps, argT 0 (vals ++ caps), f0, b0, r0⟩) (hR : E.R = none := by first | assumption | rfl) (hD : E.D = [] := by first | assumption | rfl) :
    VL P E ops Q (⟨some d, .call { callee := .value cal, args := args.toArray, argTypes := ats }, ty, pos, after, gd⟩ :: rest) ⟨n0, t0, f0, b0, r0⟩ := VL.inlc hf hF hb hc ha hn (fun d e => by cases e; exact hd) hg h hR hD
theorem VL.inl0 {f : FuncId} {fn : Func} {c : Code} {cal : Operand} {args : List Operand} {ats : Array TypeId} {caps vals : List Value}
    (hf : P.funcs[f]? = some fn) (hF : FOk P f) (hb : fn.body = some c) (hc : St.ev ⟨n0, t0, f0, b0, r0⟩ cal = some (.func (.func f) #[] caps.toArray)) (ha : args.map (St.ev ⟨n0, t0, f0, b0, r0⟩) = vals.map some) (hn : (vals ++ caps).length ≤ fn.ntmps)
    (hg : guardOn ops ⟨n0, t0, f0, b0, r0⟩ ⟨none, .call { callee := .value cal, args := args.toArray, argTypes := ats }, ty, pos, after, gd⟩ = some true)
    (h : VC P E c (bodyPost P fn (InP P E ops Q rest n0 none t0)) ⟨fn.ntmps, argT 0 (vals ++ caps), f0, b0, r0⟩) (hR : E.R = none := by first | assumption | rfl) (hD : E.D = [] := by first | assumption | rfl) :
    VL P E ops Q (⟨none, .call { callee := .value cal, args := args.toArray, argTypes := ats }, ty, pos, after, gd⟩ :: rest) ⟨n0, t0, f0, b0, r0⟩ := VL.inlc hf hF hb hc ha hn (fun d e => by cases e) hg h hR hD
theorem VR.inl {fn : Func} {rs : List ResultVar} {vs : List Value} {n1 : Nat} {t1 : List (Nat × Value)} (q : Value) (h : fn.results = rs.toArray) (hr : Res P ⟨n1, t1, f0, b0, r0⟩ rs vs) (hq : resVal vs = q) (hk : VL P E ops Q rest ⟨n0, (d, q) :: t0, f0, b0, r0⟩) (hD : E.D = [] := by first | assumption | rfl) :
    VR E (bodyPost P fn (InP P E ops Q rest n0 (some d) t0)) ⟨n1, t1, f0, b0, r0⟩ := fun a w hi => ⟨hi.defers.trans hD, _, hr.all h hi, _, f0, b0, r0, n1, t1, a, rfl, hi, by subst hq; exact hk⟩
theorem VR.inl0 {fn : Func} {rs : List ResultVar} {vs : List Value} {n1 : Nat} {t1 : List (Nat × Value)} (h : fn.results = rs.toArray) (hr : Res P ⟨n1, t1, f0, b0, r0⟩ rs vs) (hk : VL P E ops Q rest ⟨n0, t0, f0, b0, r0⟩) (hD : E.D = [] := by first | assumption | rfl) :
    VR E (bodyPost P fn (InP P E ops Q rest n0 none t0)) ⟨n1, t1, f0, b0, r0⟩ := fun a w hi => ⟨hi.defers.trans hD, _, hr.all h hi, _, f0, b0, r0, n1, t1, a, rfl, hi, hk⟩
theorem VN.inl {fn : Func} {rs : List ResultVar} {vs : List Value} {n1 : Nat} {t1 : List (Nat × Value)} (q : Value) (h : fn.results = rs.toArray) (hr : Res P ⟨n1, t1, f0, b0, r0⟩ rs vs) (hq : resVal vs = q) (hk : VL P E ops Q rest ⟨n0, (d, q) :: t0, f0, b0, r0⟩) (hD : E.D = [] := by first | assumption | rfl) :
    VN E (bodyPost P fn (InP P E ops Q rest n0 (some d) t0)) ⟨n1, t1, f0, b0, r0⟩ := fun a w hi => ⟨hi.defers.trans hD, _, hr.all h hi, _, f0, b0, r0, n1, t1, a, rfl, hi, by subst hq; exact hk⟩
theorem VN.inl0 {fn : Func} {rs : List ResultVar} {vs : List Value} {n1 : Nat} {t1 : List (Nat × Value)} (h : fn.results = rs.toArray) (hr : Res P ⟨n1, t1, f0, b0, r0⟩ rs vs) (hk : VL P E ops Q rest ⟨n0, t0, f0, b0, r0⟩) (hD : E.D = [] := by first | assumption | rfl) :
    VN E (bodyPost P fn (InP P E ops Q rest n0 none t0)) ⟨n1, t1, f0, b0, r0⟩ := fun a w hi => ⟨hi.defers.trans hD, _, hr.all h hi, _, f0, b0, r0, n1, t1, a, rfl, hi, hk⟩
end
end Go.Proofs.YtipeglbeongfmaaV
