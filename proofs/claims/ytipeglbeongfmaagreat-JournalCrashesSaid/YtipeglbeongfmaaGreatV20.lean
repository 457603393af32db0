/- Maps of the call's own: as lists of pairs, in the order in which they came; a range over one, in whatever order. -/
import Derived.Test.YtipeglbeongfmaaGreatV19
namespace Go.Proofs.YtipeglbeongfmaaGreatV
open Go Go.RowKit
set_option linter.unusedVariables false
set_option linter.unusedSimpArgs false
/-! ### lists of pairs -/
/-- What does not speak of a block of no cells. -/
def Fact.offB (l : Nat) : Fact → Prop
  | .loop k _ _ _ => k ≠ l
  | .blk k _ => k ≠ l
  | .dfr k => k ≠ l
  | .ob2 k k' _ => k ≠ l ∧ k' ≠ l
  | _ => True
def OffAll (l : Nat) : List Fact → Prop
  | [] => True
  | x :: xs => x.offB l ∧ OffAll l xs
theorem OffAll.all {l : Nat} : ∀ {fs : List Fact}, OffAll l fs → ∀ x ∈ fs, x.offB l
  | [], _, _, h => by cases h
  | y :: ys, h, x, hx => by
    rcases List.mem_cons.1 hx with rfl | hx
    · exact h.1
    · exact OffAll.all h.2 x hx

section
variable {P : Program} {E : Env} {w w' : World} {s s' : St} {a : Act} {o : Oper} {ops : Array Oper} {rest : List Oper} {Q : Exit → Act → World → Prop} {d : Nat} {v u : Value} {x y z : Operand}
variable {ty : TypeId} {pos : String} {after : Array Edge} {gd : Option (Nat × Bool)}
  {n0 n1 n2 : Nat} {t0 t1 t2 : List (Nat × Value)} {f0 f1 : List Fact} {b0 b1 : List (Nat × TypeId × List Value)} {r0 r1 : List (Value × TypeId × Nat × List (List Value))}

theorem ba_toList_loop (a : ByteArray) : ∀ (d i : Nat) (r : List UInt8), a.size - i = d → ByteArray.toList.loop a i r = r.reverse ++ a.data.toList.drop i := by
  intro d
  induction d with
  | zero =>
    intro i r h
    unfold ByteArray.toList.loop
    have h1 : ¬ i < a.size := by omega
    rw [if_neg h1, List.drop_eq_nil_of_le (by show a.data.toList.length ≤ i; rw [Array.length_toList]; exact Nat.le_of_not_lt h1), List.append_nil]
  | succ d ih =>
    intro i r h
    unfold ByteArray.toList.loop
    have h1 : i < a.size := by omega
    have h2 : i < a.data.toList.length := by rw [Array.length_toList]; exact h1
    rw [if_pos h1, ih (i + 1) _ (by omega), List.reverse_cons, List.append_assoc, List.drop_eq_getElem_cons h2]
    have h3 : a.get! i = a.data.toList[i] := by
      show a.data[i]! = _
      rw [getElem!_pos a.data i h1]
      rfl
    rw [h3]
    rfl
theorem ba_toList (a : ByteArray) : a.toList = a.data.toList := by
  unfold ByteArray.toList
  rw [ba_toList_loop a a.size 0 [] (by omega)]
  rfl
theorem Inv.newObj {ob : Obj} (h : Inv E s a w) (hc : ∀ cs T z, ob ≠ .cells cs T z) {p : Obj → Obj → Prop} {k : Nat} {ok' : Obj} (hk : k = w.heap.size ∨ (ok E s w k)) (hp : (w.alloc ob).heap[k]? = some ok' ∧ p ok' ob) :
    Inv E { s with f := .ob2 k w.heap.size p :: s.f } a (w.alloc ob) ∧ ∀ x ∈ s.f, x.offB w.heap.size := by
  have hs : E.w0.heap.size ≤ w.heap.size := h.below.size
  have hnew : ok E { s with f := .ob2 k w.heap.size p :: s.f } (w.alloc ob) w.heap.size := ⟨.inr hs, by simp, fun hm => by have := (h.blk_lt (k := w.heap.size) hm).1; omega⟩
  constructor
  · refine h.mem rfl rfl (h.below.alloc hs _) (fun k hk => ⟨⟨hk.1, by have := hk.2.1; simp; omega, hk.2.2⟩, heap_alloc_old w _ hk.2.1⟩) (fun x hx => ?_) (fun x hx => .inl ⟨hx, heap_alloc_old w _ (h.boxes x hx).2.lt⟩) (fun x hx => .inl ⟨hx, fun k hk => heap_alloc_old w _ ((h.rows x hx).2.lt k hk).2⟩) h.nodup
    rcases List.mem_cons.1 hx with rfl | hx
    · refine .inr ⟨⟨?_, hnew⟩, ok', ob, hp.1, World.alloc_heap_new w _, hp.2⟩
      rcases hk with rfl | hk
      · exact hnew
      · exact ⟨hk.1, by have := hk.2.1; simp; omega, hk.2.2⟩
    · exact .inl hx
  · intro x hx
    have := h.facts x hx
    cases x with
    | ob2 k k' p => exact ⟨Nat.ne_of_lt this.1.1.2.1, Nat.ne_of_lt this.1.2.2.1⟩
    | loop k L st pe => exact Nat.ne_of_lt this.1.2.1
    | blk k o => exact Nat.ne_of_lt this.1.2.1
    | dfr k => exact Nat.ne_of_lt this.1.2.1
    | _ => trivial
/-! ### a range over a map -/
end
end Go.Proofs.YtipeglbeongfmaaGreatV
