/- Interface values of a known type: made, asked, called; callees walked in place by whatever call; a cut of a row of the call's own that stays its own; no condition of its own. -/
import Derived.Test.YtipeglbeongfmaaGreatV13
namespace Go.Proofs.YtipeglbeongfmaaGreatV
open Go Go.RowKit
set_option linter.unusedVariables false
set_option linter.unusedSimpArgs false
section
variable {P : Program} {E : Env} {w w' : World} {s s' : St} {a : Act} {o : Oper} {ops : Array Oper} {rest : List Oper} {Q : Exit → Act → World → Prop} {d : Nat} {v u : Value} {x y z : Operand}
variable {ty : TypeId} {pos : String} {after : Array Edge} {gd : Option (Nat × Bool)}
  {n0 : Nat} {t0 : List (Nat × Value)} {f0 : List Fact} {b0 : List (Nat × TypeId × List Value)} {r0 : List (Value × TypeId × Nat × List (List Value))}

theorem VN.own {fr : List Fact} {own x' : ORow} {fn : Func} {rs : List ResultVar} {vs : List Value} {R : Value → ORow → Prop} (i : Nat) (l : List Fact) (h : fn.results = rs.toArray) (hr : Res P s rs vs) (hx : s.r[i]? = some x') (hR : R (resVal vs) x') (hf : s.f = l ++ fr) (hs : own.1.ownBlock.isSome = true → x'.1.ownBlock.isSome = true) (hD : E.D = [] := by first | assumption | rfl) :
    VN E (bodyPost P fn (OwnP E fr own R)) s := fun a w hi => VR.own i l h hr hx hR hf hs hD a w hi
end
end Go.Proofs.YtipeglbeongfmaaGreatV
