/- A walk's knowledge as one state: values of struct types compared. -/
import Derived.Test.YtipeglbeongfmaaV6
namespace Go.Proofs.YtipeglbeongfmaaV
open Go Go.RowKit
set_option linter.unusedVariables false
section
variable {P : Program} {E : Env} {s : St} {d : Nat} {ty : TypeId} {pos : String} {after : Array Edge} {gd : Option (Nat × Bool)} {x y : Operand}
theorem run_part {t : TypeId} {off k : Nat} {xs : List Value} {agg : Bool} (h3 : TI P t agg k) (hl : ((xs.drop off).take k).length = k) (h1 : agg = false → k = 1) (w : World) :
    (part t xs.toArray off).run P w = .ok (valOf agg ((xs.drop off).take k)) w := by
  unfold part
  rw [Sem.run_bind, run_isAgg h3 w, Result.andThen_ok]
  cases agg with
  | true => simp [run_size h3 w, valOf, List.extract_eq_take_drop]
  | false =>
    have hk := h1 rfl
    subst hk
    have : ((xs.drop off).take 1).length = 1 := hl
    have hlt : off < xs.length := by simp at this; omega
    have e : (xs.drop off).take 1 = [xs[off]] := by
      rw [List.drop_eq_getElem_cons hlt, List.take_succ_cons, List.take_zero]
    simp [valOf, e, hlt]
/-- Two values are compared: it answers. -/
def EqV (P : Program) (d : Nat) (t : TypeId) (u v : Value) (b : Bool) : Prop := ∀ w, (Op.equalIn d t u v).run P w = .ok b w
def EqF (P : Program) (d : Nat) (xs ys : List Value) (fs : List Field) (b : Bool) : Prop := ∀ w, (Op.eqFields d xs.toArray ys.toArray fs).run P w = .ok b w
theorem EqV.int {d : Nat} {t : TypeId} {k k' : IntKind} {a b : Int} (h : P.underlying t = some (.int k')) : EqV P (d + 1) t (.int k a) (.int k b) (a == b) := fun w => run_equalIn_int w d t k k' a b h
theorem EqV.bool {d : Nat} {t : TypeId} {a b : Bool} (h : P.underlying t = some .bool) : EqV P (d + 1) t (.bool a) (.bool b) (a == b) := fun w => run_equalIn_bool' w d t a b h
theorem EqV.string {d : Nat} {t : TypeId} {a b : ByteArray} (h : P.underlying t = some .string) : EqV P (d + 1) t (.string a) (.string b) (a == b) := fun w => by
  rw [beq_toListBytes]; exact run_equalIn_string w d t a b h
theorem EqF.nil {d : Nat} {xs ys : List Value} : EqF P d xs ys [] true := fun w => rfl
theorem EqF.cons {d : Nat} {xs ys : List Value} {f : Field} {fs : List Field} {agg b c : Bool} {k : Nat} {u v : Value} (hn : f.name ≠ "_") (hT : TI P f.type agg k) (hk : agg = false → k = 1) (hx : ((xs.drop f.offset).take k).length = k) (hy : ((ys.drop f.offset).take k).length = k) (hu : valOf agg ((xs.drop f.offset).take k) = u) (hv : valOf agg ((ys.drop f.offset).take k) = v) (he : EqV P d f.type u v b) (hf : EqF P d xs ys fs c) : EqF P d xs ys (f :: fs) (b && c) := fun w => by
  subst hu hv
  unfold Op.eqFields
  rw [if_pos hn, Sem.run_bind, run_part hT hx hk, Result.andThen_ok, Sem.run_bind, run_part hT hy hk, Result.andThen_ok, Sem.run_bind, he w, Result.andThen_ok]
  cases b with
  | true => exact hf w
  | false => rfl
theorem EqF.one {d : Nat} {xs ys : List Value} {f : Field} {agg b : Bool} {k : Nat} {u v : Value} (hn : f.name ≠ "_") (hT : TI P f.type agg k) (hk : agg = false → k = 1) (hx : ((xs.drop f.offset).take k).length = k) (hy : ((ys.drop f.offset).take k).length = k) (hu : valOf agg ((xs.drop f.offset).take k) = u) (hv : valOf agg ((ys.drop f.offset).take k) = v) (he : EqV P d f.type u v b) : EqF P d xs ys [f] b := by
  have := EqF.cons (fs := []) hn hT hk hx hy hu hv he EqF.nil
  rwa [Bool.and_true] at this
theorem EqV.struct {d : Nat} {t : TypeId} {fs : Array Field} {xs ys : List Value} {b : Bool} (ht : P.underlying t = some (.struct fs)) (hp : P.stoodInHeld t = false) (hf : EqF P d xs ys fs.toList b) : EqV P (d + 1) t (.agg xs.toArray) (.agg ys.toArray) b := fun w => by
  have e : P.fieldsOf t = fs := by unfold Program.fieldsOf; rw [ht]
  rw [run_equalIn_struct w d t _ _ (by rw [e]; exact ht) hp, e]
  exact hf w
/-- Structs compared. -/
theorem op_eqS {t t' : TypeId} {xs ys : List Value} {r r' : Bool} (hx : s.ev x = some (.agg xs.toArray)) (hy : s.ev y = some (.agg ys.toArray)) (hg : P.eqGuardType P.depth t = false) (he : EqV P 10000 t (.agg xs.toArray) (.agg ys.toArray) r) (hr : r = r') (hn : d < s.n := by exact ltn rfl) : OpV P E ⟨some d, .binOp .eql t x y t', ty, pos, after, gd⟩ s d (.bool r') :=
  op_bin hx hy (fun w => by
    subst hr
    rw [Sem.run_bind, run_eqGuard_agg w .eql t x y _ _ hg, Result.andThen_ok, run_eql_struct, he w, Result.andThen_ok]) hn
theorem op_neS {t t' : TypeId} {xs ys : List Value} {r r' : Bool} (hx : s.ev x = some (.agg xs.toArray)) (hy : s.ev y = some (.agg ys.toArray)) (hg : P.eqGuardType P.depth t = false) (he : EqV P 10000 t (.agg xs.toArray) (.agg ys.toArray) r) (hr : (!r) = r') (hn : d < s.n := by exact ltn rfl) : OpV P E ⟨some d, .binOp .neq t x y t', ty, pos, after, gd⟩ s d (.bool r') :=
  op_bin hx hy (fun w => by
    subst hr
    rw [Sem.run_bind, run_eqGuard_agg w .neq t x y _ _ hg, Result.andThen_ok, run_neq_struct, he w, Result.andThen_ok]) hn
end
end Go.Proofs.YtipeglbeongfmaaV
