/- Written by a program of this repo over the kit's print program: what the program's functions do, each as a Lean function, shown of the loaded code; or a statement's row over that; no condition of its own. -/
import Derived.Test.YtlkcagbkempaeaaPAskGoesx0
import Derived.Test.YtlkcagbkempaeaaPAskGoesx1
import Derived.Test.YtlkcagbkempaeaaPAskGoesx2
namespace Go.Proofs.Ytlkcagbkempaeaa.PAskGoes
open Go.RowKit Go.Proofs.YtlkcagbkempaeaaW.PrintWords Go.Proofs.YtlkcagbkempaeaaW.PrintLast Go.Proofs.YtlkcagbkempaeaaW.PrintMore
attribute [local go_sem] max2_int min2_int max_two min_two max_three min_three max_four min_four   -- for this text's walks alone
set_option linter.unusedVariables false
set_option linter.unusedSimpArgs false

attribute [local go_sem high] eqA23
/-! ### tarrylaw12_AskGoes: function 3 -/
mutual
def tarrylaw12_AskGoes.j0 : Nat → Int → Int → Bool → Int → Int → Bool → Int → Bool → Int → Int → Int → Int → Int → Int → Int → Int → Int → Int → Option (Bool)
  | 0, _, _, _, _, _, _, _, _, _, _, _, _, _, _, _, _, _, _ => none
  | k + 1, x1, x2, x3, x10, x12, x14, x15, x68, x123000, x123001, x127000, x127001, x131000, x131001, x136000, x136001, x137000, x137001 => if x68 = true then (none) else ((tarrylaw12_right.f x123000 x123001).bind fun t160 => (if t160 = true then (if x123000 = 1 then (tarrylaw12_AskGoes.j1 k x1 x2 x3 x10 x12 x14 x15 (decide (x123001 ≤ x2)) x123000 x123001 x127000 x127001 x131000 x131001 x136000 x136001 x137000 x137001 x123000 x123001) else (if x123000 = 2 then (tarrylaw12_AskGoes.j1 k x1 x2 x3 x10 x12 x14 x15 (decide (x123001 ≤ x2)) x123000 x123001 x127000 x127001 x131000 x131001 x136000 x136001 x137000 x137001 x123000 x123001) else (tarrylaw12_AskGoes.j1 k x1 x2 x3 x10 x12 x14 x15 false x123000 x123001 x127000 x127001 x131000 x131001 x136000 x136001 x137000 x137001 x123000 x123001))) else (if x10 = 1 then (if x12 = 1 then (if x15 = 1 then (if (x127000 == x137000 && (x127001 == x137001)) = true then (if (x131000 == x137000 && (x131001 == x137001)) = true then (if (x136000 == x137000 && (x136001 == x137001)) = true then (some (!x14)) else (none)) else (none)) else (none)) else (none)) else (none)) else (none))))
def tarrylaw12_AskGoes.j1 : Nat → Int → Int → Bool → Int → Int → Bool → Int → Bool → Int → Int → Int → Int → Int → Int → Int → Int → Int → Int → Int → Int → Option (Bool)
  | 0, _, _, _, _, _, _, _, _, _, _, _, _, _, _, _, _, _, _, _, _ => none
  | k + 1, x1, x2, x3, x10, x12, x14, x15, x115, x123000, x123001, x127000, x127001, x131000, x131001, x136000, x136001, x137000, x137001, x165000, x165001 => if x115 = true then (tarrylaw12_AskGoes.j2 k x1 x2 x3 x10 x12 x14 x15 x123000 x123001 x127000 x127001 x131000 x131001 x136000 x136001 x137000 x137001 3 x165001) else (tarrylaw12_AskGoes.j2 k x1 x2 x3 x10 x12 x14 x15 x123000 x123001 x127000 x127001 x131000 x131001 x136000 x136001 x137000 x137001 x165000 x165001)
def tarrylaw12_AskGoes.j2 : Nat → Int → Int → Bool → Int → Int → Bool → Int → Int → Int → Int → Int → Int → Int → Int → Int → Int → Int → Int → Int → Option (Bool)
  | 0, _, _, _, _, _, _, _, _, _, _, _, _, _, _, _, _, _, _, _ => none
  | k + 1, x1, x2, x3, x10, x12, x14, x15, x123000, x123001, x127000, x127001, x131000, x131001, x136000, x136001, x137000, x137001, x165000, x165001 => if x15 = 0 then (if (!(x136000 == x165000) || (!(x136001 == x165001))) = true then (none) else (if (x14 != (!(x165000 == x123000) || (!(x165001 == x123001)))) = true then (none) else (if x1 < 0 then (tarrylaw12_AskGoes.j3 k x1 x2 x3 x10 x12 0 true x123000 x123001 x127000 x127001 x131000 x131001 x137000 x137001) else (tarrylaw12_AskGoes.j3 k x1 x2 x3 x10 x12 0 (decide (x1 > 1099511627776)) x123000 x123001 x127000 x127001 x131000 x131001 x137000 x137001)))) else (none)
def tarrylaw12_AskGoes.j3 : Nat → Int → Int → Bool → Int → Int → Int → Bool → Int → Int → Int → Int → Int → Int → Int → Int → Option (Bool)
  | 0, _, _, _, _, _, _, _, _, _, _, _, _, _, _, _ => none
  | k + 1, x1, x2, x3, x10, x12, x18, x136, x123000, x123001, x127000, x127001, x131000, x131001, x137000, x137001 => if x136 = true then (tarrylaw12_AskGoes.j4 k x1 x2 x3 x10 x12 1 x123000 x123001 x127000 x127001 x131000 x131001 x137000 x137001) else (if x123000 = 0 then (tarrylaw12_AskGoes.j4 k x1 x2 x3 x10 x12 x18 x123000 x123001 x127000 x127001 x131000 x131001 x137000 x137001) else (tarrylaw12_AskGoes.j4 k x1 x2 x3 x10 x12 10 x123000 x123001 x127000 x127001 x131000 x131001 x137000 x137001))
def tarrylaw12_AskGoes.j4 : Nat → Int → Int → Bool → Int → Int → Int → Int → Int → Int → Int → Int → Int → Int → Int → Option (Bool)
  | 0, _, _, _, _, _, _, _, _, _, _, _, _, _, _ => none
  | k + 1, x1, x2, x3, x10, x12, x18, x123000, x123001, x127000, x127001, x131000, x131001, x137000, x137001 => if x10 = x18 then (if x18 = 0 then (tarrylaw12_AskGoes.j5 k x2 x3 x12 (!(x127000 == 1) || (!(x127001 == x1))) x123000 x123001 x131000 x131001 x137000 x137001) else (if (!(x127000 == x137000) || (!(x127001 == x137001))) = true then (none) else (tarrylaw12_AskGoes.j5 k x2 x3 x12 false x123000 x123001 x131000 x131001 x137000 x137001))) else (none)
def tarrylaw12_AskGoes.j5 : Nat → Int → Bool → Int → Bool → Int → Int → Int → Int → Int → Int → Option (Bool)
  | 0, _, _, _, _, _, _, _, _, _, _ => none
  | k + 1, x2, x3, x12, x161, x123000, x123001, x131000, x131001, x137000, x137001 => if x161 = true then (none) else (if x3 = true then (tarrylaw12_AskGoes.j6 k x2 x12 x123000 x123001 x131000 x131001 x137000 x137001 2 x123001) else (tarrylaw12_AskGoes.j6 k x2 x12 x123000 x123001 x131000 x131001 x137000 x137001 3 x123001))
def tarrylaw12_AskGoes.j6 : Nat → Int → Int → Int → Int → Int → Int → Int → Int → Int → Int → Option (Bool)
  | 0, _, _, _, _, _, _, _, _, _, _ => none
  | k + 1, x2, x12, x123000, x123001, x131000, x131001, x137000, x137001, x195000, x195001 => if x123000 = 1 then (if x123001 ≤ x2 then (if x12 = 12 then (some (x131000 == x137000 && (x131001 == x137001))) else (none)) else (if x12 = 0 then (some (x131000 == x195000 && (x131001 == x195001))) else (none))) else (if x12 = 10 then (some (x131000 == x137000 && (x131001 == x137001))) else (none))
end
def tarrylaw12_AskGoes.f (k : Nat) (a0_0 : Int) (a0_1 : Int) (a1 : Int) (a2 : Int) (a3 : Bool) : Option (Bool) := (ask_Begin.f k a0_0 a0_1 a1).bind fun bt123 => ((ask_Answer.f a0_0 a0_1 a3 a2).bind fun bt127 => ((ask_Lapse.f a0_0 a0_1 a2).bind fun bt131 => ((ask_Right.f a0_0 a0_1).bind fun t137 => ((tarrylaw12_right.f a0_0 a0_1).bind fun t138 => (if (t137 != t138) = true then (none) else ((ask_May.f a0_0 a0_1 a2).bind fun t139 => ((tarrylaw12_right.f a0_0 a0_1).bind fun t140 => (if t140 = true then (if a0_0 = 2 then (if (t139 != (decide (a0_1 > a2))) = true then (none) else ((tarrylaw12_alive.f k).bind fun t141 => (tarrylaw12_AskGoes.j0 k a1 a2 a3 bt123.2.2 bt127.2.2 bt131.2.2.1 bt131.2.2.2 (!t141) a0_0 a0_1 bt123.1 bt123.2.1 bt127.1 bt127.2.1 bt131.1 bt131.2.1 0 0))) else (if (t139 != false) = true then (none) else ((tarrylaw12_alive.f k).bind fun t142 => (tarrylaw12_AskGoes.j0 k a1 a2 a3 bt123.2.2 bt127.2.2 bt131.2.2.1 bt131.2.2.2 (!t142) a0_0 a0_1 bt123.1 bt123.2.1 bt127.1 bt127.2.1 bt131.1 bt131.2.1 0 0)))) else (if (t139 != false) = true then (none) else ((tarrylaw12_alive.f k).bind fun t143 => (tarrylaw12_AskGoes.j0 k a1 a2 a3 bt123.2.2 bt127.2.2 bt131.2.2.1 bt131.2.2.2 (!t143) a0_0 a0_1 bt123.1 bt123.2.1 bt127.1 bt127.2.1 bt131.1 bt131.2.1 0 0)))))))))))
theorem tarrylaw12_AskGoes.mono_l : ∀ k, (∀ y0 y1 y2 y3 y4 y5 y6 y7 y8 y9 y10 y11 y12 y13 y14 y15 y16 y17, LeO (tarrylaw12_AskGoes.j0 k y0 y1 y2 y3 y4 y5 y6 y7 y8 y9 y10 y11 y12 y13 y14 y15 y16 y17) (tarrylaw12_AskGoes.j0 (k + 1) y0 y1 y2 y3 y4 y5 y6 y7 y8 y9 y10 y11 y12 y13 y14 y15 y16 y17)) ∧ (∀ y0 y1 y2 y3 y4 y5 y6 y7 y8 y9 y10 y11 y12 y13 y14 y15 y16 y17 y18 y19, LeO (tarrylaw12_AskGoes.j1 k y0 y1 y2 y3 y4 y5 y6 y7 y8 y9 y10 y11 y12 y13 y14 y15 y16 y17 y18 y19) (tarrylaw12_AskGoes.j1 (k + 1) y0 y1 y2 y3 y4 y5 y6 y7 y8 y9 y10 y11 y12 y13 y14 y15 y16 y17 y18 y19)) ∧ (∀ y0 y1 y2 y3 y4 y5 y6 y7 y8 y9 y10 y11 y12 y13 y14 y15 y16 y17 y18, LeO (tarrylaw12_AskGoes.j2 k y0 y1 y2 y3 y4 y5 y6 y7 y8 y9 y10 y11 y12 y13 y14 y15 y16 y17 y18) (tarrylaw12_AskGoes.j2 (k + 1) y0 y1 y2 y3 y4 y5 y6 y7 y8 y9 y10 y11 y12 y13 y14 y15 y16 y17 y18)) ∧ (∀ y0 y1 y2 y3 y4 y5 y6 y7 y8 y9 y10 y11 y12 y13 y14, LeO (tarrylaw12_AskGoes.j3 k y0 y1 y2 y3 y4 y5 y6 y7 y8 y9 y10 y11 y12 y13 y14) (tarrylaw12_AskGoes.j3 (k + 1) y0 y1 y2 y3 y4 y5 y6 y7 y8 y9 y10 y11 y12 y13 y14)) ∧ (∀ y0 y1 y2 y3 y4 y5 y6 y7 y8 y9 y10 y11 y12 y13, LeO (tarrylaw12_AskGoes.j4 k y0 y1 y2 y3 y4 y5 y6 y7 y8 y9 y10 y11 y12 y13) (tarrylaw12_AskGoes.j4 (k + 1) y0 y1 y2 y3 y4 y5 y6 y7 y8 y9 y10 y11 y12 y13)) ∧ (∀ y0 y1 y2 y3 y4 y5 y6 y7 y8 y9, LeO (tarrylaw12_AskGoes.j5 k y0 y1 y2 y3 y4 y5 y6 y7 y8 y9) (tarrylaw12_AskGoes.j5 (k + 1) y0 y1 y2 y3 y4 y5 y6 y7 y8 y9)) ∧ (∀ y0 y1 y2 y3 y4 y5 y6 y7 y8 y9, LeO (tarrylaw12_AskGoes.j6 k y0 y1 y2 y3 y4 y5 y6 y7 y8 y9) (tarrylaw12_AskGoes.j6 (k + 1) y0 y1 y2 y3 y4 y5 y6 y7 y8 y9))
  | 0 => ⟨fun _ _ _ _ _ _ _ _ _ _ _ _ _ _ _ _ _ _ r h => by simp [tarrylaw12_AskGoes.j0] at h, fun _ _ _ _ _ _ _ _ _ _ _ _ _ _ _ _ _ _ _ _ r h => by simp [tarrylaw12_AskGoes.j1] at h, fun _ _ _ _ _ _ _ _ _ _ _ _ _ _ _ _ _ _ _ r h => by simp [tarrylaw12_AskGoes.j2] at h, fun _ _ _ _ _ _ _ _ _ _ _ _ _ _ _ r h => by simp [tarrylaw12_AskGoes.j3] at h, fun _ _ _ _ _ _ _ _ _ _ _ _ _ _ r h => by simp [tarrylaw12_AskGoes.j4] at h, fun _ _ _ _ _ _ _ _ _ _ r h => by simp [tarrylaw12_AskGoes.j5] at h, fun _ _ _ _ _ _ _ _ _ _ r h => by simp [tarrylaw12_AskGoes.j6] at h⟩
  | k + 1 => by
    obtain ⟨ih0, ih1, ih2, ih3, ih4, ih5, ih6⟩ := tarrylaw12_AskGoes.mono_l k
    refine ⟨?_, ?_, ?_, ?_, ?_, ?_, ?_⟩
    · intro y0 y1 y2 y3 y4 y5 y6 y7 y8 y9 y10 y11 y12 y13 y14 y15 y16 y17
      unfold tarrylaw12_AskGoes.j0
      repeat' first
      | (with_reducible exact ih0 _ _ _ _ _ _ _ _ _ _ _ _ _ _ _ _ _ _)
      | (with_reducible exact ih1 _ _ _ _ _ _ _ _ _ _ _ _ _ _ _ _ _ _ _ _)
      | (with_reducible exact ih2 _ _ _ _ _ _ _ _ _ _ _ _ _ _ _ _ _ _ _)
      | (with_reducible exact ih3 _ _ _ _ _ _ _ _ _ _ _ _ _ _ _)
      | (with_reducible exact ih4 _ _ _ _ _ _ _ _ _ _ _ _ _ _)
      | (with_reducible exact ih5 _ _ _ _ _ _ _ _ _ _)
      | (with_reducible exact ih6 _ _ _ _ _ _ _ _ _ _)
      | (with_reducible exact ask_Begin.mono _ _ _ _)
      | (with_reducible exact tarrylaw12_alive.mono _)
      | (with_reducible exact LeO.refl _)
      | (with_reducible exact LeO.none _)
      | (with_reducible refine LeO.ite ?_ ?_)
      | (with_reducible refine LeO.bind ?_ (fun _ => ?_))
      | exact ih0 _ _ _ _ _ _ _ _ _ _ _ _ _ _ _ _ _ _
      | exact ih1 _ _ _ _ _ _ _ _ _ _ _ _ _ _ _ _ _ _ _ _
      | exact ih2 _ _ _ _ _ _ _ _ _ _ _ _ _ _ _ _ _ _ _
      | exact ih3 _ _ _ _ _ _ _ _ _ _ _ _ _ _ _
      | exact ih4 _ _ _ _ _ _ _ _ _ _ _ _ _ _
      | exact ih5 _ _ _ _ _ _ _ _ _ _
      | exact ih6 _ _ _ _ _ _ _ _ _ _
      | exact ask_Begin.mono _ _ _ _
      | exact tarrylaw12_alive.mono _
      | exact LeO.none _
      | refine LeO.ite ?_ ?_
      | refine LeO.bind ?_ (fun _ => ?_)
    · intro y0 y1 y2 y3 y4 y5 y6 y7 y8 y9 y10 y11 y12 y13 y14 y15 y16 y17 y18 y19
      unfold tarrylaw12_AskGoes.j1
      repeat' first
      | (with_reducible exact ih0 _ _ _ _ _ _ _ _ _ _ _ _ _ _ _ _ _ _)
      | (with_reducible exact ih1 _ _ _ _ _ _ _ _ _ _ _ _ _ _ _ _ _ _ _ _)
      | (with_reducible exact ih2 _ _ _ _ _ _ _ _ _ _ _ _ _ _ _ _ _ _ _)
      | (with_reducible exact ih3 _ _ _ _ _ _ _ _ _ _ _ _ _ _ _)
      | (with_reducible exact ih4 _ _ _ _ _ _ _ _ _ _ _ _ _ _)
      | (with_reducible exact ih5 _ _ _ _ _ _ _ _ _ _)
      | (with_reducible exact ih6 _ _ _ _ _ _ _ _ _ _)
      | (with_reducible exact ask_Begin.mono _ _ _ _)
      | (with_reducible exact tarrylaw12_alive.mono _)
      | (with_reducible exact LeO.refl _)
      | (with_reducible exact LeO.none _)
      | (with_reducible refine LeO.ite ?_ ?_)
      | (with_reducible refine LeO.bind ?_ (fun _ => ?_))
      | exact ih0 _ _ _ _ _ _ _ _ _ _ _ _ _ _ _ _ _ _
      | exact ih1 _ _ _ _ _ _ _ _ _ _ _ _ _ _ _ _ _ _ _ _
      | exact ih2 _ _ _ _ _ _ _ _ _ _ _ _ _ _ _ _ _ _ _
      | exact ih3 _ _ _ _ _ _ _ _ _ _ _ _ _ _ _
      | exact ih4 _ _ _ _ _ _ _ _ _ _ _ _ _ _
      | exact ih5 _ _ _ _ _ _ _ _ _ _
      | exact ih6 _ _ _ _ _ _ _ _ _ _
      | exact ask_Begin.mono _ _ _ _
      | exact tarrylaw12_alive.mono _
      | exact LeO.none _
      | refine LeO.ite ?_ ?_
      | refine LeO.bind ?_ (fun _ => ?_)
    · intro y0 y1 y2 y3 y4 y5 y6 y7 y8 y9 y10 y11 y12 y13 y14 y15 y16 y17 y18
      unfold tarrylaw12_AskGoes.j2
      repeat' first
      | (with_reducible exact ih0 _ _ _ _ _ _ _ _ _ _ _ _ _ _ _ _ _ _)
      | (with_reducible exact ih1 _ _ _ _ _ _ _ _ _ _ _ _ _ _ _ _ _ _ _ _)
      | (with_reducible exact ih2 _ _ _ _ _ _ _ _ _ _ _ _ _ _ _ _ _ _ _)
      | (with_reducible exact ih3 _ _ _ _ _ _ _ _ _ _ _ _ _ _ _)
      | (with_reducible exact ih4 _ _ _ _ _ _ _ _ _ _ _ _ _ _)
      | (with_reducible exact ih5 _ _ _ _ _ _ _ _ _ _)
      | (with_reducible exact ih6 _ _ _ _ _ _ _ _ _ _)
      | (with_reducible exact ask_Begin.mono _ _ _ _)
      | (with_reducible exact tarrylaw12_alive.mono _)
      | (with_reducible exact LeO.refl _)
      | (with_reducible exact LeO.none _)
      | (with_reducible refine LeO.ite ?_ ?_)
      | (with_reducible refine LeO.bind ?_ (fun _ => ?_))
      | exact ih0 _ _ _ _ _ _ _ _ _ _ _ _ _ _ _ _ _ _
      | exact ih1 _ _ _ _ _ _ _ _ _ _ _ _ _ _ _ _ _ _ _ _
      | exact ih2 _ _ _ _ _ _ _ _ _ _ _ _ _ _ _ _ _ _ _
      | exact ih3 _ _ _ _ _ _ _ _ _ _ _ _ _ _ _
      | exact ih4 _ _ _ _ _ _ _ _ _ _ _ _ _ _
      | exact ih5 _ _ _ _ _ _ _ _ _ _
      | exact ih6 _ _ _ _ _ _ _ _ _ _
      | exact ask_Begin.mono _ _ _ _
      | exact tarrylaw12_alive.mono _
      | exact LeO.none _
      | refine LeO.ite ?_ ?_
      | refine LeO.bind ?_ (fun _ => ?_)
    · intro y0 y1 y2 y3 y4 y5 y6 y7 y8 y9 y10 y11 y12 y13 y14
      unfold tarrylaw12_AskGoes.j3
      repeat' first
      | (with_reducible exact ih0 _ _ _ _ _ _ _ _ _ _ _ _ _ _ _ _ _ _)
      | (with_reducible exact ih1 _ _ _ _ _ _ _ _ _ _ _ _ _ _ _ _ _ _ _ _)
      | (with_reducible exact ih2 _ _ _ _ _ _ _ _ _ _ _ _ _ _ _ _ _ _ _)
      | (with_reducible exact ih3 _ _ _ _ _ _ _ _ _ _ _ _ _ _ _)
      | (with_reducible exact ih4 _ _ _ _ _ _ _ _ _ _ _ _ _ _)
      | (with_reducible exact ih5 _ _ _ _ _ _ _ _ _ _)
      | (with_reducible exact ih6 _ _ _ _ _ _ _ _ _ _)
      | (with_reducible exact ask_Begin.mono _ _ _ _)
      | (with_reducible exact tarrylaw12_alive.mono _)
      | (with_reducible exact LeO.refl _)
      | (with_reducible exact LeO.none _)
      | (with_reducible refine LeO.ite ?_ ?_)
      | (with_reducible refine LeO.bind ?_ (fun _ => ?_))
      | exact ih0 _ _ _ _ _ _ _ _ _ _ _ _ _ _ _ _ _ _
      | exact ih1 _ _ _ _ _ _ _ _ _ _ _ _ _ _ _ _ _ _ _ _
      | exact ih2 _ _ _ _ _ _ _ _ _ _ _ _ _ _ _ _ _ _ _
      | exact ih3 _ _ _ _ _ _ _ _ _ _ _ _ _ _ _
      | exact ih4 _ _ _ _ _ _ _ _ _ _ _ _ _ _
      | exact ih5 _ _ _ _ _ _ _ _ _ _
      | exact ih6 _ _ _ _ _ _ _ _ _ _
      | exact ask_Begin.mono _ _ _ _
      | exact tarrylaw12_alive.mono _
      | exact LeO.none _
      | refine LeO.ite ?_ ?_
      | refine LeO.bind ?_ (fun _ => ?_)
    · intro y0 y1 y2 y3 y4 y5 y6 y7 y8 y9 y10 y11 y12 y13
      unfold tarrylaw12_AskGoes.j4
      repeat' first
      | (with_reducible exact ih0 _ _ _ _ _ _ _ _ _ _ _ _ _ _ _ _ _ _)
      | (with_reducible exact ih1 _ _ _ _ _ _ _ _ _ _ _ _ _ _ _ _ _ _ _ _)
      | (with_reducible exact ih2 _ _ _ _ _ _ _ _ _ _ _ _ _ _ _ _ _ _ _)
      | (with_reducible exact ih3 _ _ _ _ _ _ _ _ _ _ _ _ _ _ _)
      | (with_reducible exact ih4 _ _ _ _ _ _ _ _ _ _ _ _ _ _)
      | (with_reducible exact ih5 _ _ _ _ _ _ _ _ _ _)
      | (with_reducible exact ih6 _ _ _ _ _ _ _ _ _ _)
      | (with_reducible exact ask_Begin.mono _ _ _ _)
      | (with_reducible exact tarrylaw12_alive.mono _)
      | (with_reducible exact LeO.refl _)
      | (with_reducible exact LeO.none _)
      | (with_reducible refine LeO.ite ?_ ?_)
      | (with_reducible refine LeO.bind ?_ (fun _ => ?_))
      | exact ih0 _ _ _ _ _ _ _ _ _ _ _ _ _ _ _ _ _ _
      | exact ih1 _ _ _ _ _ _ _ _ _ _ _ _ _ _ _ _ _ _ _ _
      | exact ih2 _ _ _ _ _ _ _ _ _ _ _ _ _ _ _ _ _ _ _
      | exact ih3 _ _ _ _ _ _ _ _ _ _ _ _ _ _ _
      | exact ih4 _ _ _ _ _ _ _ _ _ _ _ _ _ _
      | exact ih5 _ _ _ _ _ _ _ _ _ _
      | exact ih6 _ _ _ _ _ _ _ _ _ _
      | exact ask_Begin.mono _ _ _ _
      | exact tarrylaw12_alive.mono _
      | exact LeO.none _
      | refine LeO.ite ?_ ?_
      | refine LeO.bind ?_ (fun _ => ?_)
    · intro y0 y1 y2 y3 y4 y5 y6 y7 y8 y9
      unfold tarrylaw12_AskGoes.j5
      repeat' first
      | (with_reducible exact ih0 _ _ _ _ _ _ _ _ _ _ _ _ _ _ _ _ _ _)
      | (with_reducible exact ih1 _ _ _ _ _ _ _ _ _ _ _ _ _ _ _ _ _ _ _ _)
      | (with_reducible exact ih2 _ _ _ _ _ _ _ _ _ _ _ _ _ _ _ _ _ _ _)
      | (with_reducible exact ih3 _ _ _ _ _ _ _ _ _ _ _ _ _ _ _)
      | (with_reducible exact ih4 _ _ _ _ _ _ _ _ _ _ _ _ _ _)
      | (with_reducible exact ih5 _ _ _ _ _ _ _ _ _ _)
      | (with_reducible exact ih6 _ _ _ _ _ _ _ _ _ _)
      | (with_reducible exact ask_Begin.mono _ _ _ _)
      | (with_reducible exact tarrylaw12_alive.mono _)
      | (with_reducible exact LeO.refl _)
      | (with_reducible exact LeO.none _)
      | (with_reducible refine LeO.ite ?_ ?_)
      | (with_reducible refine LeO.bind ?_ (fun _ => ?_))
      | exact ih0 _ _ _ _ _ _ _ _ _ _ _ _ _ _ _ _ _ _
      | exact ih1 _ _ _ _ _ _ _ _ _ _ _ _ _ _ _ _ _ _ _ _
      | exact ih2 _ _ _ _ _ _ _ _ _ _ _ _ _ _ _ _ _ _ _
      | exact ih3 _ _ _ _ _ _ _ _ _ _ _ _ _ _ _
      | exact ih4 _ _ _ _ _ _ _ _ _ _ _ _ _ _
      | exact ih5 _ _ _ _ _ _ _ _ _ _
      | exact ih6 _ _ _ _ _ _ _ _ _ _
      | exact ask_Begin.mono _ _ _ _
      | exact tarrylaw12_alive.mono _
      | exact LeO.none _
      | refine LeO.ite ?_ ?_
      | refine LeO.bind ?_ (fun _ => ?_)
    · intro y0 y1 y2 y3 y4 y5 y6 y7 y8 y9
      unfold tarrylaw12_AskGoes.j6
      repeat' first
      | (with_reducible exact ih0 _ _ _ _ _ _ _ _ _ _ _ _ _ _ _ _ _ _)
      | (with_reducible exact ih1 _ _ _ _ _ _ _ _ _ _ _ _ _ _ _ _ _ _ _ _)
      | (with_reducible exact ih2 _ _ _ _ _ _ _ _ _ _ _ _ _ _ _ _ _ _ _)
      | (with_reducible exact ih3 _ _ _ _ _ _ _ _ _ _ _ _ _ _ _)
      | (with_reducible exact ih4 _ _ _ _ _ _ _ _ _ _ _ _ _ _)
      | (with_reducible exact ih5 _ _ _ _ _ _ _ _ _ _)
      | (with_reducible exact ih6 _ _ _ _ _ _ _ _ _ _)
      | (with_reducible exact ask_Begin.mono _ _ _ _)
      | (with_reducible exact tarrylaw12_alive.mono _)
      | (with_reducible exact LeO.refl _)
      | (with_reducible exact LeO.none _)
      | (with_reducible refine LeO.ite ?_ ?_)
      | (with_reducible refine LeO.bind ?_ (fun _ => ?_))
      | exact ih0 _ _ _ _ _ _ _ _ _ _ _ _ _ _ _ _ _ _
      | exact ih1 _ _ _ _ _ _ _ _ _ _ _ _ _ _ _ _ _ _ _ _
      | exact ih2 _ _ _ _ _ _ _ _ _ _ _ _ _ _ _ _ _ _ _
      | exact ih3 _ _ _ _ _ _ _ _ _ _ _ _ _ _ _
      | exact ih4 _ _ _ _ _ _ _ _ _ _ _ _ _ _
      | exact ih5 _ _ _ _ _ _ _ _ _ _
      | exact ih6 _ _ _ _ _ _ _ _ _ _
      | exact ask_Begin.mono _ _ _ _
      | exact tarrylaw12_alive.mono _
      | exact LeO.none _
      | refine LeO.ite ?_ ?_
      | refine LeO.bind ?_ (fun _ => ?_)
theorem tarrylaw12_AskGoes.mono : ∀ a0 a1 a2 a3 a4 k, LeO (tarrylaw12_AskGoes.f k a0 a1 a2 a3 a4) (tarrylaw12_AskGoes.f (k + 1) a0 a1 a2 a3 a4) := by
  intro a0 a1 a2 a3 a4 k
  obtain ⟨ih0, ih1, ih2, ih3, ih4, ih5, ih6⟩ := tarrylaw12_AskGoes.mono_l k
  unfold tarrylaw12_AskGoes.f
  repeat' first
      | (with_reducible exact ih0 _ _ _ _ _ _ _ _ _ _ _ _ _ _ _ _ _ _)
      | (with_reducible exact ih1 _ _ _ _ _ _ _ _ _ _ _ _ _ _ _ _ _ _ _ _)
      | (with_reducible exact ih2 _ _ _ _ _ _ _ _ _ _ _ _ _ _ _ _ _ _ _)
      | (with_reducible exact ih3 _ _ _ _ _ _ _ _ _ _ _ _ _ _ _)
      | (with_reducible exact ih4 _ _ _ _ _ _ _ _ _ _ _ _ _ _)
      | (with_reducible exact ih5 _ _ _ _ _ _ _ _ _ _)
      | (with_reducible exact ih6 _ _ _ _ _ _ _ _ _ _)
      | (with_reducible exact ask_Begin.mono _ _ _ _)
      | (with_reducible exact tarrylaw12_alive.mono _)
      | (with_reducible exact LeO.refl _)
      | (with_reducible exact LeO.none _)
      | (with_reducible refine LeO.ite ?_ ?_)
      | (with_reducible refine LeO.bind ?_ (fun _ => ?_))
      | exact ih0 _ _ _ _ _ _ _ _ _ _ _ _ _ _ _ _ _ _
      | exact ih1 _ _ _ _ _ _ _ _ _ _ _ _ _ _ _ _ _ _ _ _
      | exact ih2 _ _ _ _ _ _ _ _ _ _ _ _ _ _ _ _ _ _ _
      | exact ih3 _ _ _ _ _ _ _ _ _ _ _ _ _ _ _
      | exact ih4 _ _ _ _ _ _ _ _ _ _ _ _ _ _
      | exact ih5 _ _ _ _ _ _ _ _ _ _
      | exact ih6 _ _ _ _ _ _ _ _ _ _
      | exact ask_Begin.mono _ _ _ _
      | exact tarrylaw12_alive.mono _
      | exact LeO.none _
      | refine LeO.ite ?_ ?_
      | refine LeO.bind ?_ (fun _ => ?_)

end Go.Proofs.Ytlkcagbkempaeaa.PAskGoes
