/- Written by a program of this repo: what the program's functions do, each as a Lean function, shown of the loaded code; or a statement's row over that; no condition of its own. -/
import Derived.Test.YthgoagnennjagaaProg
import Derived.Test.YthgoagnennjagaaV14
namespace Go.Proofs.Ythgoagnennjagaa.PQueueTop
open Go Go.RowKit Go.Proofs.YthgoagnennjagaaV
set_option linter.unusedVariables false
set_option linter.unusedSimpArgs false

structure S23 where
  f0 : Int
  f1 : Int
  f2 : Int
def enc23 (x : S23) : List Value := [.int .i64 x.f0, .int .i64 x.f1, .int .i64 x.f2]
theorem enc23_ok (a : S23) : (enc23 a).length = 3 ∧ ∀ u ∈ enc23 a, u.oneCell' = true := ⟨rfl, by intro u hu; simp only [enc23, List.mem_cons, List.not_mem_nil, or_false] at hu; rcases hu with rfl | rfl | rfl <;> rfl⟩
def ok23 (x : S23) : Prop := (Lit.int .i64 x.f0).wf = true ∧ (Lit.int .i64 x.f1).wf = true ∧ (Lit.int .i64 x.f2).wf = true
def enc_inti64 (x : Int) : List Value := [.int .i64 x]
theorem enc_inti64_ok (a : Int) : (enc_inti64 a).length = 1 ∧ ∀ u ∈ enc_inti64 a, u.oneCell' = true := ⟨rfl, by intro u hu; simp only [enc_inti64, List.mem_cons, List.not_mem_nil, or_false] at hu; rcases hu with rfl; rfl⟩
theorem VC.join0 {E : Env} {P : Program} {Q : Exit → Act → World → Prop} {s : St}  {c1 c2 : Code} (I : St) (F : Prop) (hx : VC P E c1 (Exit.then (fun a w => F ∧ Inv E (I) a w) Q) s) (hy : F → VC P E c2 Q (I)) : VC P E (.seq c1 c2) Q s :=
  fun a w hi => wp_seq (Code.wp_mono (fun e a w h => by
    cases e <;> first | exact h | (obtain ⟨hf, hi⟩ := h; exact hy  hf a w hi)) (hx a w hi))
theorem VN.meet0 {E : Env} {Q : Exit → Act → World → Prop} {s : St}  {I : St} {F : Prop}  (bs rs : List Nat) (hf : F) (hl : Le s (I) bs rs) : VN E (Exit.then (fun a w => F ∧ Inv E (I) a w) Q) s :=
  fun a w hi => ⟨hf, hi.le hl⟩
theorem VC.join1 {E : Env} {P : Program} {Q : Exit → Act → World → Prop} {s : St} {α0 : Type} {c1 c2 : Code} (I : α0 → St) (F : α0 → Prop) (hx : VC P E c1 (Exit.then (fun a w => ∃ (x0 : α0), F x0 ∧ Inv E (I x0) a w) Q) s) (hy : ∀ (x0 : α0), F x0 → VC P E c2 Q (I x0)) : VC P E (.seq c1 c2) Q s :=
  fun a w hi => wp_seq (Code.wp_mono (fun e a w h => by
    cases e <;> first | exact h | (obtain ⟨x0, hf, hi⟩ := h; exact hy x0 hf a w hi)) (hx a w hi))
theorem VN.meet1 {E : Env} {Q : Exit → Act → World → Prop} {s : St} {α0 : Type} {I : α0 → St} {F : α0 → Prop} (x0 : α0) (bs rs : List Nat) (hf : F x0) (hl : Le s (I x0) bs rs) : VN E (Exit.then (fun a w => ∃ (x0 : α0), F x0 ∧ Inv E (I x0) a w) Q) s :=
  fun a w hi => ⟨x0, hf, hi.le hl⟩
theorem VC.join2 {E : Env} {P : Program} {Q : Exit → Act → World → Prop} {s : St} {α0 : Type} {α1 : Type} {c1 c2 : Code} (I : α0 → α1 → St) (F : α0 → α1 → Prop) (hx : VC P E c1 (Exit.then (fun a w => ∃ (x0 : α0) (x1 : α1), F x0 x1 ∧ Inv E (I x0 x1) a w) Q) s) (hy : ∀ (x0 : α0) (x1 : α1), F x0 x1 → VC P E c2 Q (I x0 x1)) : VC P E (.seq c1 c2) Q s :=
  fun a w hi => wp_seq (Code.wp_mono (fun e a w h => by
    cases e <;> first | exact h | (obtain ⟨x0, x1, hf, hi⟩ := h; exact hy x0 x1 hf a w hi)) (hx a w hi))
theorem VN.meet2 {E : Env} {Q : Exit → Act → World → Prop} {s : St} {α0 : Type} {α1 : Type} {I : α0 → α1 → St} {F : α0 → α1 → Prop} (x0 : α0) (x1 : α1) (bs rs : List Nat) (hf : F x0 x1) (hl : Le s (I x0 x1) bs rs) : VN E (Exit.then (fun a w => ∃ (x0 : α0) (x1 : α1), F x0 x1 ∧ Inv E (I x0 x1) a w) Q) s :=
  fun a w hi => ⟨x0, x1, hf, hi.le hl⟩
theorem VC.join3 {E : Env} {P : Program} {Q : Exit → Act → World → Prop} {s : St} {α0 : Type} {α1 : Type} {α2 : Type} {c1 c2 : Code} (I : α0 → α1 → α2 → St) (F : α0 → α1 → α2 → Prop) (hx : VC P E c1 (Exit.then (fun a w => ∃ (x0 : α0) (x1 : α1) (x2 : α2), F x0 x1 x2 ∧ Inv E (I x0 x1 x2) a w) Q) s) (hy : ∀ (x0 : α0) (x1 : α1) (x2 : α2), F x0 x1 x2 → VC P E c2 Q (I x0 x1 x2)) : VC P E (.seq c1 c2) Q s :=
  fun a w hi => wp_seq (Code.wp_mono (fun e a w h => by
    cases e <;> first | exact h | (obtain ⟨x0, x1, x2, hf, hi⟩ := h; exact hy x0 x1 x2 hf a w hi)) (hx a w hi))
theorem VN.meet3 {E : Env} {Q : Exit → Act → World → Prop} {s : St} {α0 : Type} {α1 : Type} {α2 : Type} {I : α0 → α1 → α2 → St} {F : α0 → α1 → α2 → Prop} (x0 : α0) (x1 : α1) (x2 : α2) (bs rs : List Nat) (hf : F x0 x1 x2) (hl : Le s (I x0 x1 x2) bs rs) : VN E (Exit.then (fun a w => ∃ (x0 : α0) (x1 : α1) (x2 : α2), F x0 x1 x2 ∧ Inv E (I x0 x1 x2) a w) Q) s :=
  fun a w hi => ⟨x0, x1, x2, hf, hi.le hl⟩
theorem VC.join4 {E : Env} {P : Program} {Q : Exit → Act → World → Prop} {s : St} {α0 : Type} {α1 : Type} {α2 : Type} {α3 : Type} {c1 c2 : Code} (I : α0 → α1 → α2 → α3 → St) (F : α0 → α1 → α2 → α3 → Prop) (hx : VC P E c1 (Exit.then (fun a w => ∃ (x0 : α0) (x1 : α1) (x2 : α2) (x3 : α3), F x0 x1 x2 x3 ∧ Inv E (I x0 x1 x2 x3) a w) Q) s) (hy : ∀ (x0 : α0) (x1 : α1) (x2 : α2) (x3 : α3), F x0 x1 x2 x3 → VC P E c2 Q (I x0 x1 x2 x3)) : VC P E (.seq c1 c2) Q s :=
  fun a w hi => wp_seq (Code.wp_mono (fun e a w h => by
    cases e <;> first | exact h | (obtain ⟨x0, x1, x2, x3, hf, hi⟩ := h; exact hy x0 x1 x2 x3 hf a w hi)) (hx a w hi))
theorem VN.meet4 {E : Env} {Q : Exit → Act → World → Prop} {s : St} {α0 : Type} {α1 : Type} {α2 : Type} {α3 : Type} {I : α0 → α1 → α2 → α3 → St} {F : α0 → α1 → α2 → α3 → Prop} (x0 : α0) (x1 : α1) (x2 : α2) (x3 : α3) (bs rs : List Nat) (hf : F x0 x1 x2 x3) (hl : Le s (I x0 x1 x2 x3) bs rs) : VN E (Exit.then (fun a w => ∃ (x0 : α0) (x1 : α1) (x2 : α2) (x3 : α3), F x0 x1 x2 x3 ∧ Inv E (I x0 x1 x2 x3) a w) Q) s :=
  fun a w hi => ⟨x0, x1, x2, x3, hf, hi.le hl⟩
theorem VC.loop1 {E : Env} {P : Program} {Q : Exit → Act → World → Prop} {s : St} {α0 : Type} {c : Code} (I : α0 → St) (F : Nat → α0 → Prop) (k : Nat) (x0 : α0) (bs rs : List Nat) (hf : F k x0) (hl : Le s (I x0) bs rs) (hz : ∀ (x0 : α0), ¬ F 0 x0) (h : ∀ k, (∀ (x0 : α0), F k x0 → VLp P E c Q k (I x0)) → ∀ (x0 : α0), F (k + 1) x0 → VC P E c (Exit.then (Code.rounds P c Q k) Q) (I x0)) : VC P E (.loop c) Q s := by
  have key : ∀ k (x0 : α0), F k x0 → VLp P E c Q k (I x0) := by
    intro k
    induction k with
    | zero => intro x0 hf; exact absurd hf (hz x0)
    | succ k ih => intro x0 hf; exact VLp.succ (h k ih x0 hf)
  exact fun a w hi => wp_loop_rounds k (key k x0 hf a w (hi.le hl))
theorem VC.loop3 {E : Env} {P : Program} {Q : Exit → Act → World → Prop} {s : St} {α0 : Type} {α1 : Type} {α2 : Type} {c : Code} (I : α0 → α1 → α2 → St) (F : Nat → α0 → α1 → α2 → Prop) (k : Nat) (x0 : α0) (x1 : α1) (x2 : α2) (bs rs : List Nat) (hf : F k x0 x1 x2) (hl : Le s (I x0 x1 x2) bs rs) (hz : ∀ (x0 : α0) (x1 : α1) (x2 : α2), ¬ F 0 x0 x1 x2) (h : ∀ k, (∀ (x0 : α0) (x1 : α1) (x2 : α2), F k x0 x1 x2 → VLp P E c Q k (I x0 x1 x2)) → ∀ (x0 : α0) (x1 : α1) (x2 : α2), F (k + 1) x0 x1 x2 → VC P E c (Exit.then (Code.rounds P c Q k) Q) (I x0 x1 x2)) : VC P E (.loop c) Q s := by
  have key : ∀ k (x0 : α0) (x1 : α1) (x2 : α2), F k x0 x1 x2 → VLp P E c Q k (I x0 x1 x2) := by
    intro k
    induction k with
    | zero => intro x0 x1 x2 hf; exact absurd hf (hz x0 x1 x2)
    | succ k ih => intro x0 x1 x2 hf; exact VLp.succ (h k ih x0 x1 x2 hf)
  exact fun a w hi => wp_loop_rounds k (key k x0 x1 x2 hf a w (hi.le hl))
theorem VC.stop0 {E : Env} {P : Program} {Q : Exit → Act → World → Prop} {s : St}  {c1 : Code} (I : St) (F : Prop) (hx : VC P E c1 (Exit.then (fun a w => F ∧ Inv E (I) a w) Q) s) (hy : F → VN E Q (I)) : VC P E c1 Q s :=
  fun a w hi => Code.wp_mono (fun e a w h => by
    cases e <;> first | exact h | (obtain ⟨hf, hi⟩ := h; exact hy  hf a w hi)) (hx a w hi)
theorem VC.stop1 {E : Env} {P : Program} {Q : Exit → Act → World → Prop} {s : St} {α0 : Type} {c1 : Code} (I : α0 → St) (F : α0 → Prop) (hx : VC P E c1 (Exit.then (fun a w => ∃ (x0 : α0), F x0 ∧ Inv E (I x0) a w) Q) s) (hy : ∀ (x0 : α0), F x0 → VN E Q (I x0)) : VC P E c1 Q s :=
  fun a w hi => Code.wp_mono (fun e a w h => by
    cases e <;> first | exact h | (obtain ⟨x0, hf, hi⟩ := h; exact hy x0 hf a w hi)) (hx a w hi)
theorem VC.stop2 {E : Env} {P : Program} {Q : Exit → Act → World → Prop} {s : St} {α0 : Type} {α1 : Type} {c1 : Code} (I : α0 → α1 → St) (F : α0 → α1 → Prop) (hx : VC P E c1 (Exit.then (fun a w => ∃ (x0 : α0) (x1 : α1), F x0 x1 ∧ Inv E (I x0 x1) a w) Q) s) (hy : ∀ (x0 : α0) (x1 : α1), F x0 x1 → VN E Q (I x0 x1)) : VC P E c1 Q s :=
  fun a w hi => Code.wp_mono (fun e a w h => by
    cases e <;> first | exact h | (obtain ⟨x0, x1, hf, hi⟩ := h; exact hy x0 x1 hf a w hi)) (hx a w hi)
theorem VC.stop3 {E : Env} {P : Program} {Q : Exit → Act → World → Prop} {s : St} {α0 : Type} {α1 : Type} {α2 : Type} {c1 : Code} (I : α0 → α1 → α2 → St) (F : α0 → α1 → α2 → Prop) (hx : VC P E c1 (Exit.then (fun a w => ∃ (x0 : α0) (x1 : α1) (x2 : α2), F x0 x1 x2 ∧ Inv E (I x0 x1 x2) a w) Q) s) (hy : ∀ (x0 : α0) (x1 : α1) (x2 : α2), F x0 x1 x2 → VN E Q (I x0 x1 x2)) : VC P E c1 Q s :=
  fun a w hi => Code.wp_mono (fun e a w h => by
    cases e <;> first | exact h | (obtain ⟨x0, x1, x2, hf, hi⟩ := h; exact hy x0 x1 x2 hf a w hi)) (hx a w hi)
theorem VC.stop4 {E : Env} {P : Program} {Q : Exit → Act → World → Prop} {s : St} {α0 : Type} {α1 : Type} {α2 : Type} {α3 : Type} {c1 : Code} (I : α0 → α1 → α2 → α3 → St) (F : α0 → α1 → α2 → α3 → Prop) (hx : VC P E c1 (Exit.then (fun a w => ∃ (x0 : α0) (x1 : α1) (x2 : α2) (x3 : α3), F x0 x1 x2 x3 ∧ Inv E (I x0 x1 x2 x3) a w) Q) s) (hy : ∀ (x0 : α0) (x1 : α1) (x2 : α2) (x3 : α3), F x0 x1 x2 x3 → VN E Q (I x0 x1 x2 x3)) : VC P E c1 Q s :=
  fun a w hi => Code.wp_mono (fun e a w h => by
    cases e <;> first | exact h | (obtain ⟨x0, x1, x2, x3, hf, hi⟩ := h; exact hy x0 x1 x2 x3 hf a w hi)) (hx a w hi)
theorem TI24 : TI Try.prog 24 true 3 := ⟨⟨_, Try.underlying24, rfl⟩, by kernel_rfl⟩
theorem TI3 : TI Try.prog 3 false 1 := ⟨⟨_, Try.underlying3, rfl⟩, by kernel_rfl⟩
theorem FI24_0 : FI Try.prog 24 0 0 1 := ⟨_, _, _, Try.underlying24, rfl, rfl, TI3⟩
theorem FO37 : FOk Try.prog 37 := ⟨_, Try.func37, by kernel_rfl, by kernel_rfl⟩
theorem FO33 : FOk Try.prog 33 := ⟨_, Try.func33, by kernel_rfl, by kernel_rfl⟩
theorem FI24_1 : FI Try.prog 24 1 1 1 := ⟨_, _, _, Try.underlying24, rfl, rfl, TI3⟩
theorem FI24_2 : FI Try.prog 24 2 2 1 := ⟨_, _, _, Try.underlying24, rfl, rfl, TI3⟩
theorem Z3 : (Try.prog.info? 3).bind (·.zero) = some (.int .i64 0) := by kernel_rfl
theorem FO32 : FOk Try.prog 32 := ⟨_, Try.func32, by kernel_rfl, by kernel_rfl⟩
theorem FO26 : FOk Try.prog 26 := ⟨_, Try.func26, by kernel_rfl, by kernel_rfl⟩
theorem FO10 : FOk Try.prog 10 := ⟨_, Try.func10, by kernel_rfl, by kernel_rfl⟩
theorem FO34 : FOk Try.prog 34 := ⟨_, Try.func34, by kernel_rfl, by kernel_rfl⟩
theorem FO27 : FOk Try.prog 27 := ⟨_, Try.func27, by kernel_rfl, by kernel_rfl⟩
theorem FO30 : FOk Try.prog 30 := ⟨_, Try.func30, by kernel_rfl, by kernel_rfl⟩
theorem FO36 : FOk Try.prog 36 := ⟨_, Try.func36, by kernel_rfl, by kernel_rfl⟩
theorem FO29 : FOk Try.prog 29 := ⟨_, Try.func29, by kernel_rfl, by kernel_rfl⟩
theorem FO21 : FOk Try.prog 21 := ⟨_, Try.func21, by kernel_rfl, by kernel_rfl⟩
theorem FO12 : FOk Try.prog 12 := ⟨_, Try.func12, by kernel_rfl, by kernel_rfl⟩
theorem EI24 : EI Try.prog 24 3 24 := ei_of (z := .agg #[.int .i64 0, .int .i64 0, .int .i64 0]) (by kernel_rfl) rfl (by decide) (by decide)
theorem Z24 : (Try.prog.info? 24).bind (·.zero) = some (.agg #[.int .i64 0, .int .i64 0, .int .i64 0]) := by kernel_rfl
theorem FO22 : FOk Try.prog 22 := ⟨_, Try.func22, by kernel_rfl, by kernel_rfl⟩
theorem Z40 : (Try.prog.info? 40).bind (·.zero) = some (.slice none 0 0) := by kernel_rfl
theorem ZL40 : (.slice none 0 0 : Value).cells.toList = [.slice none 0 0] := rfl
theorem TI40 : TI Try.prog 40 false 1 := ⟨⟨_, Try.underlying40, rfl⟩, by kernel_rfl⟩
theorem FO28 : FOk Try.prog 28 := ⟨_, Try.func28, by kernel_rfl, by kernel_rfl⟩
theorem MI42_Push : MI Try.prog 42 "Push" 58 true := mi_of (by kernel_rfl)
theorem FO58 : FOk Try.prog 58 := ⟨_, Try.func58, by kernel_rfl, by kernel_rfl⟩
theorem ZL24 : (.agg #[.int .i64 0, .int .i64 0, .int .i64 0] : Value).cells.toList = [.int .i64 0, .int .i64 0, .int .i64 0] := rfl
theorem MI42_Len : MI Try.prog 42 "Len" 54 false := mi_of (by kernel_rfl)
theorem FO54 : FOk Try.prog 54 := ⟨_, Try.func54, by kernel_rfl, by kernel_rfl⟩
theorem FO35 : FOk Try.prog 35 := ⟨_, Try.func35, by kernel_rfl, by kernel_rfl⟩
theorem MI42_Less : MI Try.prog 42 "Less" 55 false := mi_of (by kernel_rfl)
theorem FO55 : FOk Try.prog 55 := ⟨_, Try.func55, by kernel_rfl, by kernel_rfl⟩
theorem MI42_Swap : MI Try.prog 42 "Swap" 56 false := mi_of (by kernel_rfl)
theorem FO56 : FOk Try.prog 56 := ⟨_, Try.func56, by kernel_rfl, by kernel_rfl⟩
theorem FO18 : FOk Try.prog 18 := ⟨_, Try.func18, by kernel_rfl, by kernel_rfl⟩
theorem SI24 : SI Try.prog 24 [.int .i64 0, .int .i64 0, .int .i64 0] [(0, 1), (1, 1), (2, 1)] := ⟨⟨_, Try.underlying24, (.cons ⟨rfl, _, TI3⟩ (.cons ⟨rfl, _, TI3⟩ (.cons ⟨rfl, _, TI3⟩ .nil)))⟩, Z24⟩
theorem FO23 : FOk Try.prog 23 := ⟨_, Try.func23, by kernel_rfl, by kernel_rfl⟩
theorem FO31 : FOk Try.prog 31 := ⟨_, Try.func31, by kernel_rfl, by kernel_rfl⟩
theorem FO8 : FOk Try.prog 8 := ⟨_, Try.func8, by kernel_rfl, by kernel_rfl⟩
theorem FO25 : FOk Try.prog 25 := ⟨_, Try.func25, by kernel_rfl, by kernel_rfl⟩
theorem MI42_Pop : MI Try.prog 42 "Pop" 57 true := mi_of (by kernel_rfl)
theorem FO57 : FOk Try.prog 57 := ⟨_, Try.func57, by kernel_rfl, by kernel_rfl⟩
theorem FO19 : FOk Try.prog 19 := ⟨_, Try.func19, by kernel_rfl, by kernel_rfl⟩
theorem FO14 : FOk Try.prog 14 := ⟨_, Try.func14, by kernel_rfl, by kernel_rfl⟩
theorem EQ24 (a0 : Int) (a1 : Int) (a2 : Int) (b0 : Int) (b1 : Int) (b2 : Int) : EqV Try.prog 10000 24 (.agg #[.int .i64 a0, .int .i64 a1, .int .i64 a2]) (.agg #[.int .i64 b0, .int .i64 b1, .int .i64 b2]) ((a0 == b0) && ((a1 == b1) && (a2 == b2))) := (.struct Try.underlying24 (by kernel_rfl) (.cons (by decide) TI3 (fun _ => rfl) rfl rfl rfl rfl (.int Try.underlying3) (.cons (by decide) TI3 (fun _ => rfl) rfl rfl rfl rfl (.int Try.underlying3) (.one (by decide) TI3 (fun _ => rfl) rfl rfl rfl rfl (.int Try.underlying3)))))
theorem EG24 : Try.prog.eqGuardType Try.prog.depth 24 = false := by kernel_rfl
def cmp_isNaN_int.f (a0 : Int) : Option (Bool) := (some (a0 != a0))
def cmp_Compare_int.f (a0 : Int) (a1 : Int) : Option (Int) := ((cmp_isNaN_int.f a0).bind fun t24 => ((cmp_isNaN_int.f a1).bind fun t26 => (if t24 = true then (if t26 = true then (some 0) else (some (-1))) else (if t26 = true then (some 1) else (if a0 < a1 then (some (-1)) else (if a0 > a1 then (some 1) else (some 0)))))))
def cmp_Or_int.l1 (k : Nat) (l0 : List Int) : Nat → Int → Option (Int)
  | 0, _ => none
  | ml1 + 1, i110 => (if i110 < (l0.length : Int) then (if 0 ≤ i110 then ((l0[i110.toNat]?).bind fun x136 => (if x136 = 0 then (cmp_Or_int.l1 k l0 ml1 (wrap64 (i110 + 1))) else (some x136))) else none) else (some 0))
def cmp_Or_int.f (k : Nat) (l0 : List Int) : Option (Int) := (cmp_Or_int.l1 k l0 k 0)
def queue_compare.f (k : Nat) (a0_0 : Int) (a0_1 : Int) (a0_2 : Int) (a1_0 : Int) (a1_1 : Int) (a1_2 : Int) : Option (Int) := ((cmp_Compare_int.f a0_0 a1_0).bind fun t44 => ((cmp_Compare_int.f a0_1 a1_1).bind fun t46 => ((cmp_Compare_int.f a0_2 a1_2).bind fun t48 => ((cmp_Or_int.f k ([t44, t46, t48] : List Int)).bind fun t141 => (some t141)))))
def queue_Less.f (k : Nat) (a0_0 : Int) (a0_1 : Int) (a0_2 : Int) (a1_0 : Int) (a1_1 : Int) (a1_2 : Int) : Option (Bool) := ((queue_compare.f k a0_0 a0_1 a0_2 a1_0 a1_1 a1_2).bind fun t143 => (some (decide (t143 < 0))))
def queue_number.f (a0 : Int) : Option (Bool) := (if a0 ≥ 1 then (some (decide (a0 ≤ 1099511627776))) else (some false))
def queue_may.f (a0_0 : Int) (a0_1 : Int) (a0_2 : Int) : Option (Bool) := (if a0_0 ≥ 0 then (if a0_0 < 4 then ((queue_number.f a0_1).bind fun t261 => (if t261 = true then ((queue_number.f a0_2).bind fun t264 => (some t264)) else (some false))) else (some false)) else (some false))
def queue_all_1.f (a0_0 : Int) (a0_1 : Int) (a0_2 : Int) : Option (Bool) := ((queue_may.f a0_0 a0_1 a0_2).bind fun t269 => (if t269 = true then (some false) else (some true)))
def slices_IndexFunc_api_Wait_api_Wait.l1 (k : Nat) (l0 : List S23) : Nat → Int → Option (Int)
  | 0, _ => none
  | ml1 + 1, i331 => (if i331 < (l0.length : Int) then (if 0 ≤ i331 then ((l0[i331.toNat]?).bind fun x360 => ((queue_all_1.f x360.f0 x360.f1 x360.f2).bind fun t363 => (if t363 = true then (some i331) else (slices_IndexFunc_api_Wait_api_Wait.l1 k l0 ml1 (wrap64 (i331 + 1)))))) else none) else (some (-1)))
def slices_IndexFunc_api_Wait_api_Wait.f (k : Nat) (l0 : List S23) : Option (Int) := (slices_IndexFunc_api_Wait_api_Wait.l1 k l0 k 0)
def slices_ContainsFunc_api_Wait_api_Wait.f (k : Nat) (l0 : List S23) : Option (Bool) := ((slices_IndexFunc_api_Wait_api_Wait.f k l0).bind fun t366 => (some (decide (t366 ≥ 0))))
def queue_all.f (k : Nat) (l0 : List S23) : Option (Bool) := (if (l0.length : Int) ≤ 64 then ((slices_ContainsFunc_api_Wait_api_Wait.f k l0).bind fun t374 => (if t374 = true then (some false) else (some true))) else (some false))
def queue_Right.l1 (k : Nat) (l0 : List S23) : Nat → Int → Option (Bool)
  | 0, _ => none
  | ml1 + 1, i208 => (if i208 < (l0.length : Int) then (if 0 ≤ i208 then ((l0[i208.toNat]?).bind fun x389 => (if 0 ≤ IntKind.i64.wrap ((wrap64 (i208 - 1)).tdiv 2) then ((l0[(IntKind.i64.wrap ((wrap64 (i208 - 1)).tdiv 2)).toNat]?).bind fun x391 => ((queue_Less.f k x389.f0 x389.f1 x389.f2 x391.f0 x391.f1 x391.f2).bind fun t392 => (if t392 = true then (some false) else (queue_Right.l1 k l0 ml1 (wrap64 (i208 + 1)))))) else none)) else none) else ((queue_all.f k l0).bind fun t395 => (some t395)))
def queue_Right.f (k : Nat) (l0 : List S23) : Option (Bool) := (queue_Right.l1 k l0 k 1)
def slices_Clone_api_Wait_api_Wait.f (l0 : List S23) : Option (List S23) := if l0.length * 24 ≤ 140737488355328 then some l0 else none
def queue_waits_Swap.f (l0 : List S23) (ai : Int) (aj : Int) : Option (List S23) := if 0 ≤ ai ∧ 0 ≤ aj then (l0[ai.toNat]?).bind fun xi => (l0[aj.toNat]?).bind fun xj => some ((l0.set ai.toNat xj).set aj.toNat xi) else none
def queue_Push.l3 (k : Nat)  : Nat → Int → (List S23) → Option (List S23 × Int)
  | 0, _, _ => none
  | ml3 + 1, i932, l935 => (if (IntKind.i64.wrap ((wrap64 (i932 - 1)).tdiv 2)) = i932 then (some (l935, 0)) else (if 0 ≤ i932 then ((l935[i932.toNat]?).bind fun x1014 => (if 0 ≤ IntKind.i64.wrap ((wrap64 (i932 - 1)).tdiv 2) then ((l935[(IntKind.i64.wrap ((wrap64 (i932 - 1)).tdiv 2)).toNat]?).bind fun x1016 => ((queue_compare.f k x1014.f0 x1014.f1 x1014.f2 x1016.f0 x1016.f1 x1016.f2).bind fun t1017 => (if t1017 < 0 then ((queue_waits_Swap.f l935 (IntKind.i64.wrap ((wrap64 (i932 - 1)).tdiv 2)) i932).bind fun r1021 => (queue_Push.l3 k ml3 (IntKind.i64.wrap ((wrap64 (i932 - 1)).tdiv 2)) r1021)) else (some (l935, 0))))) else none)) else none))
def queue_Push.f (k : Nat) (l0 : List S23) (a1_0 : Int) (a1_1 : Int) (a1_2 : Int) : Option (List S23 × Int) := ((queue_Right.f k l0).bind fun t420 => (if t420 = true then ((queue_may.f a1_0 a1_1 a1_2).bind fun t423 => (if t423 = true then (if (l0.length : Int) = 64 then (some (([] : List S23), 7)) else ((slices_Clone_api_Wait_api_Wait.f l0).bind fun r429 => (if (r429.length + ([(⟨a1_0, a1_1, a1_2⟩ : S23)] : List S23).length) * 24 ≤ 140737488355328 then (queue_Push.l3 k k (wrap64 (((r429 ++ ([(⟨a1_0, a1_1, a1_2⟩ : S23)] : List S23)).length : Int) - 1)) (r429 ++ ([(⟨a1_0, a1_1, a1_2⟩ : S23)] : List S23))) else none))) else (some (([] : List S23), 1)))) else (some (([] : List S23), 1))))
def queue_Make.j54 (k : Nat) (rec_l46 : Int → (List S23) → Option (List S23 × Int)) (rec_l53 : Int → (List S23) → Option (List S23 × Int)) (i60334 : Int) (i66909 : Int) (l66912 : List S23) (r45961 : List S23) (q67374 : Bool) (q67375 : Bool) (q67376 : Bool) : Option (List S23 × Int) := (if q67376 = true then (rec_l46 (wrap64 (i60334 - 1)) l66912) else (if (wrap64 ((wrap64 ((wrap64 (2 * i66909)) + 1)) + 1)) < (r45961.length : Int) then (if 0 ≤ wrap64 ((wrap64 ((wrap64 (2 * i66909)) + 1)) + 1) then ((l66912[(wrap64 ((wrap64 ((wrap64 (2 * i66909)) + 1)) + 1)).toNat]?).bind fun x67410 => (if 0 ≤ wrap64 ((wrap64 (2 * i66909)) + 1) then ((l66912[(wrap64 ((wrap64 (2 * i66909)) + 1)).toNat]?).bind fun x67412 => ((queue_compare.f k x67410.f0 x67410.f1 x67410.f2 x67412.f0 x67412.f1 x67412.f2).bind fun t67413 => (if t67413 < 0 then ((l66912[(wrap64 ((wrap64 ((wrap64 (2 * i66909)) + 1)) + 1)).toNat]?).bind fun x67439 => (if 0 ≤ i66909 then ((l66912[i66909.toNat]?).bind fun x67441 => ((queue_compare.f k x67439.f0 x67439.f1 x67439.f2 x67441.f0 x67441.f1 x67441.f2).bind fun t67442 => (if t67442 < 0 then ((queue_waits_Swap.f l66912 i66909 (wrap64 ((wrap64 ((wrap64 (2 * i66909)) + 1)) + 1))).bind fun r67446 => (rec_l53 (wrap64 ((wrap64 ((wrap64 (2 * i66909)) + 1)) + 1)) r67446)) else (rec_l46 (wrap64 (i60334 - 1)) l66912)))) else none)) else ((l66912[(wrap64 ((wrap64 (2 * i66909)) + 1)).toNat]?).bind fun x67472 => (if 0 ≤ i66909 then ((l66912[i66909.toNat]?).bind fun x67474 => ((queue_compare.f k x67472.f0 x67472.f1 x67472.f2 x67474.f0 x67474.f1 x67474.f2).bind fun t67475 => (if t67475 < 0 then ((queue_waits_Swap.f l66912 i66909 (wrap64 ((wrap64 (2 * i66909)) + 1))).bind fun r67479 => (rec_l53 (wrap64 ((wrap64 (2 * i66909)) + 1)) r67479)) else (rec_l46 (wrap64 (i60334 - 1)) l66912)))) else none))))) else none)) else none) else (if 0 ≤ wrap64 ((wrap64 (2 * i66909)) + 1) then ((l66912[(wrap64 ((wrap64 (2 * i66909)) + 1)).toNat]?).bind fun x67509 => (if 0 ≤ i66909 then ((l66912[i66909.toNat]?).bind fun x67511 => ((queue_compare.f k x67509.f0 x67509.f1 x67509.f2 x67511.f0 x67511.f1 x67511.f2).bind fun t67512 => (if t67512 < 0 then ((queue_waits_Swap.f l66912 i66909 (wrap64 ((wrap64 (2 * i66909)) + 1))).bind fun r67516 => (rec_l53 (wrap64 ((wrap64 (2 * i66909)) + 1)) r67516)) else (rec_l46 (wrap64 (i60334 - 1)) l66912)))) else none)) else none)))
def queue_Make.l53 (k : Nat) (rec_l46 : Int → (List S23) → Option (List S23 × Int)) (i60334 : Int) (r45961 : List S23) : Nat → Int → (List S23) → Option (List S23 × Int)
  | 0, _, _ => none
  | ml53 + 1, i66909, l66912 => (if (wrap64 ((wrap64 (2 * i66909)) + 1)) ≥ (r45961.length : Int) then (queue_Make.j54 k rec_l46 (queue_Make.l53 k rec_l46 i60334 r45961 ml53) i60334 i66909 l66912 r45961 true true true) else (queue_Make.j54 k rec_l46 (queue_Make.l53 k rec_l46 i60334 r45961 ml53) i60334 i66909 l66912 r45961 false false (decide ((wrap64 ((wrap64 (2 * i66909)) + 1)) < 0))))
def queue_Make.l46 (k : Nat) (r45961 : List S23) : Nat → Int → (List S23) → Option (List S23 × Int)
  | 0, _, _ => none
  | ml46 + 1, i60334, l60337 => (if i60334 ≥ 0 then (queue_Make.l53 k (queue_Make.l46 k r45961 ml46) i60334 r45961 k i60334 l60337) else (some (l60337, 0)))
def queue_Make.j36 (k : Nat) (l0 : List S23) (q45958 : Bool) : Option (List S23 × Int) := (if q45958 = true then (some (([] : List S23), 1)) else ((slices_Clone_api_Wait_api_Wait.f l0).bind fun r45961 => (queue_Make.l46 k r45961 k (wrap64 ((IntKind.i64.wrap ((r45961.length : Int).tdiv 2)) - 1)) r45961)))
def queue_Make.f (k : Nat) (l0 : List S23) : Option (List S23 × Int) := ((queue_all.f k l0).bind fun t45955 => (if t45955 = true then (queue_Make.j36 k l0 false) else (queue_Make.j36 k l0 true)))
def queue_Pop.j127 (k : Nat) (l112046 : List S23) : Option (List S23 × Int × Int × Int × Int) := (if 0 ≤ wrap64 ((l112046.length : Int) - 1) then ((l112046[(wrap64 ((l112046.length : Int) - 1)).toNat]?).bind fun x112056 => (if (wrap64 ((l112046.length : Int) - 1)) ≤ (l112046.length : Int) then (some ((l112046.take ((wrap64 ((l112046.length : Int) - 1)).toNat)), x112056.f0, x112056.f1, x112056.f2, 0)) else none)) else none)
def queue_Pop.j131 (k : Nat) (rec_l130 : Int → (List S23) → Option (List S23 × Int × Int × Int × Int)) (i111433 : Int) (l111436 : List S23) (r98343 : List S23) (q111898 : Bool) (q111899 : Bool) (q111900 : Bool) : Option (List S23 × Int × Int × Int × Int) := (if q111900 = true then (queue_Pop.j127 k l111436) else (if (wrap64 ((wrap64 ((wrap64 (2 * i111433)) + 1)) + 1)) < (wrap64 ((r98343.length : Int) - 1)) then (if 0 ≤ wrap64 ((wrap64 ((wrap64 (2 * i111433)) + 1)) + 1) then ((l111436[(wrap64 ((wrap64 ((wrap64 (2 * i111433)) + 1)) + 1)).toNat]?).bind fun x111934 => (if 0 ≤ wrap64 ((wrap64 (2 * i111433)) + 1) then ((l111436[(wrap64 ((wrap64 (2 * i111433)) + 1)).toNat]?).bind fun x111936 => ((queue_compare.f k x111934.f0 x111934.f1 x111934.f2 x111936.f0 x111936.f1 x111936.f2).bind fun t111937 => (if t111937 < 0 then ((l111436[(wrap64 ((wrap64 ((wrap64 (2 * i111433)) + 1)) + 1)).toNat]?).bind fun x111963 => (if 0 ≤ i111433 then ((l111436[i111433.toNat]?).bind fun x111965 => ((queue_compare.f k x111963.f0 x111963.f1 x111963.f2 x111965.f0 x111965.f1 x111965.f2).bind fun t111966 => (if t111966 < 0 then ((queue_waits_Swap.f l111436 i111433 (wrap64 ((wrap64 ((wrap64 (2 * i111433)) + 1)) + 1))).bind fun r111970 => (rec_l130 (wrap64 ((wrap64 ((wrap64 (2 * i111433)) + 1)) + 1)) r111970)) else (queue_Pop.j127 k l111436)))) else none)) else ((l111436[(wrap64 ((wrap64 (2 * i111433)) + 1)).toNat]?).bind fun x111996 => (if 0 ≤ i111433 then ((l111436[i111433.toNat]?).bind fun x111998 => ((queue_compare.f k x111996.f0 x111996.f1 x111996.f2 x111998.f0 x111998.f1 x111998.f2).bind fun t111999 => (if t111999 < 0 then ((queue_waits_Swap.f l111436 i111433 (wrap64 ((wrap64 (2 * i111433)) + 1))).bind fun r112003 => (rec_l130 (wrap64 ((wrap64 (2 * i111433)) + 1)) r112003)) else (queue_Pop.j127 k l111436)))) else none))))) else none)) else none) else (if 0 ≤ wrap64 ((wrap64 (2 * i111433)) + 1) then ((l111436[(wrap64 ((wrap64 (2 * i111433)) + 1)).toNat]?).bind fun x112033 => (if 0 ≤ i111433 then ((l111436[i111433.toNat]?).bind fun x112035 => ((queue_compare.f k x112033.f0 x112033.f1 x112033.f2 x112035.f0 x112035.f1 x112035.f2).bind fun t112036 => (if t112036 < 0 then ((queue_waits_Swap.f l111436 i111433 (wrap64 ((wrap64 (2 * i111433)) + 1))).bind fun r112040 => (rec_l130 (wrap64 ((wrap64 (2 * i111433)) + 1)) r112040)) else (queue_Pop.j127 k l111436)))) else none)) else none)))
def queue_Pop.l130 (k : Nat) (r98343 : List S23) : Nat → Int → (List S23) → Option (List S23 × Int × Int × Int × Int)
  | 0, _, _ => none
  | ml130 + 1, i111433, l111436 => (if (wrap64 ((wrap64 (2 * i111433)) + 1)) ≥ (wrap64 ((r98343.length : Int) - 1)) then (queue_Pop.j131 k (queue_Pop.l130 k r98343 ml130) i111433 l111436 r98343 true true true) else (queue_Pop.j131 k (queue_Pop.l130 k r98343 ml130) i111433 l111436 r98343 false false (decide ((wrap64 ((wrap64 (2 * i111433)) + 1)) < 0))))
def queue_Pop.j91 (k : Nat) (l0 : List S23) (q98337 : Bool) : Option (List S23 × Int × Int × Int × Int) := (if q98337 = true then (some (([] : List S23), 0, 0, 0, 1)) else (if (l0.length : Int) = 0 then (some (([] : List S23), 0, 0, 0, 8)) else ((slices_Clone_api_Wait_api_Wait.f l0).bind fun r98343 => ((queue_waits_Swap.f r98343 0 (wrap64 ((r98343.length : Int) - 1))).bind fun r105206 => (queue_Pop.l130 k r98343 k 0 r105206)))))
def queue_Pop.f (k : Nat) (l0 : List S23) : Option (List S23 × Int × Int × Int × Int) := ((queue_Right.f k l0).bind fun t98334 => (if t98334 = true then (queue_Pop.j91 k l0 false) else (queue_Pop.j91 k l0 true)))
def tarrylaw06_alive.f (k : Nat)  : Option (Bool) := ((queue_Make.f k ([(⟨1, 1, 1⟩ : S23), (⟨0, 9, 2⟩ : S23)] : List S23)).bind fun ⟨r67520, t67521⟩ => ((queue_Pop.f k r67520).bind fun ⟨r112064, t112065, t112066, t112067, t112068⟩ => (if t67521 = 0 then (if t112068 = 0 then (if t112067 = 2 then (some ((r112064.length : Int) == 1)) else (some false)) else (some false)) else (some false))))
def tarrylaw06_QueueTop.f (k : Nat) (l0 : List S23) (a1_0 : Int) (a1_1 : Int) (a1_2 : Int) : Option (Bool) := (if 0 ≤ mn (l0.length : Int) 60 then (if (mn (l0.length : Int) 60) ≤ (l0.length : Int) then ((queue_Push.f k ((l0.take ((mn (l0.length : Int) 60).toNat)).drop 0) a1_0 a1_1 a1_2).bind fun ⟨r1026, t1027⟩ => (if t1027 = 0 then ((queue_Pop.f k r1026).bind fun ⟨r112097, t112098, t112099, t112100, t112101⟩ => (if t112101 = 0 then (if (r112097.length : Int) = (((l0.take ((mn (l0.length : Int) 60).toNat)).drop 0).length : Int) then ((tarrylaw06_alive.f k).bind fun t112131 => (if t112131 = true then (if (((l0.take ((mn (l0.length : Int) 60).toNat)).drop 0).length : Int) = 0 then (some (((t112098 == a1_0) && ((t112099 == a1_1) && (t112100 == a1_2))))) else ((((l0.take ((mn (l0.length : Int) 60).toNat)).drop 0)[0]?).bind fun x112147 => ((queue_Less.f k x112147.f0 x112147.f1 x112147.f2 a1_0 a1_1 a1_2).bind fun t112148 => (if t112148 = true then ((((l0.take ((mn (l0.length : Int) 60).toNat)).drop 0)[0]?).bind fun x112151 => (some (((t112098 == x112151.f0) && ((t112099 == x112151.f1) && (t112100 == x112151.f2)))))) else (some (((t112098 == a1_0) && ((t112099 == a1_1) && (t112100 == a1_2))))))))) else none)) else none) else none)) else ((tarrylaw06_alive.f k).bind fun t112158 => (if t112158 = true then (some ((r1026.length : Int) == 0)) else none)))) else none) else none)
/-- THE ONE PURE STATEMENT. -/
def tarrylaw06_QueueTop.Pure : Prop := ∀ (l0 : List S23) (a1_0 : Int) (a1_1 : Int) (a1_2 : Int), allOk ok23 l0 → (Lit.int .i64 a1_0).wf = true → (Lit.int .i64 a1_1).wf = true → (Lit.int .i64 a1_2).wf = true → ∃ k, tarrylaw06_QueueTop.f k l0 a1_0 a1_1 a1_2 = some true

end Go.Proofs.Ythgoagnennjagaa.PQueueTop
