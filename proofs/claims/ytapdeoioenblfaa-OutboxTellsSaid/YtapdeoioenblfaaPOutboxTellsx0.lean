/- Written by a program of this repo: what the program's functions do, each as a Lean function, shown of the loaded code; or a statement's row over that; no condition of its own. -/
import Derived.Test.YtapdeoioenblfaaProg
import Derived.Test.YtapdeoioenblfaaV20
namespace Go.Proofs.Ytapdeoioenblfaa.POutboxTells
open Go Go.RowKit Go.Proofs.YtapdeoioenblfaaV
set_option linter.unusedVariables false
set_option linter.unusedSimpArgs false

structure S28 where
  f0 : Int
  f1 : Int
  f2 : Int
  f3 : Int
  f4 : Int
def enc28 (x : S28) : List Value := [.int .i64 x.f0, .int .i64 x.f1, .int .i64 x.f2, .int .i64 x.f3, .int .i64 x.f4]
theorem enc28_ok (a : S28) : (enc28 a).length = 5 ∧ ∀ u ∈ enc28 a, u.oneCell' = true := ⟨rfl, by intro u hu; simp only [enc28, List.mem_cons, List.not_mem_nil, or_false] at hu; rcases hu with rfl | rfl | rfl | rfl | rfl <;> rfl⟩
def ok28 (x : S28) : Prop := (Lit.int .i64 x.f0).wf = true ∧ (Lit.int .i64 x.f1).wf = true ∧ (Lit.int .i64 x.f2).wf = true ∧ (Lit.int .i64 x.f3).wf = true ∧ (Lit.int .i64 x.f4).wf = true
structure S33 where
  f0 : Int
  f1 : Int
  f2 : Int
  f3 : Int
def enc33 (x : S33) : List Value := [.int .i64 x.f0, .int .i64 x.f1, .int .i64 x.f2, .int .i64 x.f3]
theorem enc33_ok (a : S33) : (enc33 a).length = 4 ∧ ∀ u ∈ enc33 a, u.oneCell' = true := ⟨rfl, by intro u hu; simp only [enc33, List.mem_cons, List.not_mem_nil, or_false] at hu; rcases hu with rfl | rfl | rfl | rfl <;> rfl⟩
def ok33 (x : S33) : Prop := (Lit.int .i64 x.f0).wf = true ∧ (Lit.int .i64 x.f1).wf = true ∧ (Lit.int .i64 x.f2).wf = true ∧ (Lit.int .i64 x.f3).wf = true
theorem VC.join0 {E : Env} {P : Program} {Q : Exit → Act → World → Prop} {s : St}  {c1 c2 : Code} (I : St) (F : Prop) (hx : VC P E c1 (Exit.then (fun a w => F ∧ Inv E (I) a w) Q) s) (hy : F → VC P E c2 Q (I)) : VC P E (.seq c1 c2) Q s :=
  fun a w hi => wpIn_seq (Code.wpIn_mono (fun e a w h => by
    cases e <;> first | exact h | (obtain ⟨hf, hi⟩ := h; exact hy  hf a w hi)) (hx a w hi))
theorem VN.meet0 {E : Env} {Q : Exit → Act → World → Prop} {s : St}  {I : St} {F : Prop}  (bs rs : List Nat) (hf : F) (hl : Le s (I) bs rs) : VN E (Exit.then (fun a w => F ∧ Inv E (I) a w) Q) s :=
  fun a w hi => ⟨hf, hi.le hl⟩
theorem VC.join1 {E : Env} {P : Program} {Q : Exit → Act → World → Prop} {s : St} {α0 : Type} {c1 c2 : Code} (I : α0 → St) (F : α0 → Prop) (hx : VC P E c1 (Exit.then (fun a w => ∃ (x0 : α0), F x0 ∧ Inv E (I x0) a w) Q) s) (hy : ∀ (x0 : α0), F x0 → VC P E c2 Q (I x0)) : VC P E (.seq c1 c2) Q s :=
  fun a w hi => wpIn_seq (Code.wpIn_mono (fun e a w h => by
    cases e <;> first | exact h | (obtain ⟨x0, hf, hi⟩ := h; exact hy x0 hf a w hi)) (hx a w hi))
theorem VN.meet1 {E : Env} {Q : Exit → Act → World → Prop} {s : St} {α0 : Type} {I : α0 → St} {F : α0 → Prop} (x0 : α0) (bs rs : List Nat) (hf : F x0) (hl : Le s (I x0) bs rs) : VN E (Exit.then (fun a w => ∃ (x0 : α0), F x0 ∧ Inv E (I x0) a w) Q) s :=
  fun a w hi => ⟨x0, hf, hi.le hl⟩
theorem VC.join2 {E : Env} {P : Program} {Q : Exit → Act → World → Prop} {s : St} {α0 : Type} {α1 : Type} {c1 c2 : Code} (I : α0 → α1 → St) (F : α0 → α1 → Prop) (hx : VC P E c1 (Exit.then (fun a w => ∃ (x0 : α0) (x1 : α1), F x0 x1 ∧ Inv E (I x0 x1) a w) Q) s) (hy : ∀ (x0 : α0) (x1 : α1), F x0 x1 → VC P E c2 Q (I x0 x1)) : VC P E (.seq c1 c2) Q s :=
  fun a w hi => wpIn_seq (Code.wpIn_mono (fun e a w h => by
    cases e <;> first | exact h | (obtain ⟨x0, x1, hf, hi⟩ := h; exact hy x0 x1 hf a w hi)) (hx a w hi))
theorem VN.meet2 {E : Env} {Q : Exit → Act → World → Prop} {s : St} {α0 : Type} {α1 : Type} {I : α0 → α1 → St} {F : α0 → α1 → Prop} (x0 : α0) (x1 : α1) (bs rs : List Nat) (hf : F x0 x1) (hl : Le s (I x0 x1) bs rs) : VN E (Exit.then (fun a w => ∃ (x0 : α0) (x1 : α1), F x0 x1 ∧ Inv E (I x0 x1) a w) Q) s :=
  fun a w hi => ⟨x0, x1, hf, hi.le hl⟩
theorem VC.join8 {E : Env} {P : Program} {Q : Exit → Act → World → Prop} {s : St} {α0 : Type} {α1 : Type} {α2 : Type} {α3 : Type} {α4 : Type} {α5 : Type} {α6 : Type} {α7 : Type} {c1 c2 : Code} (I : α0 → α1 → α2 → α3 → α4 → α5 → α6 → α7 → St) (F : α0 → α1 → α2 → α3 → α4 → α5 → α6 → α7 → Prop) (hx : VC P E c1 (Exit.then (fun a w => ∃ (x0 : α0) (x1 : α1) (x2 : α2) (x3 : α3) (x4 : α4) (x5 : α5) (x6 : α6) (x7 : α7), F x0 x1 x2 x3 x4 x5 x6 x7 ∧ Inv E (I x0 x1 x2 x3 x4 x5 x6 x7) a w) Q) s) (hy : ∀ (x0 : α0) (x1 : α1) (x2 : α2) (x3 : α3) (x4 : α4) (x5 : α5) (x6 : α6) (x7 : α7), F x0 x1 x2 x3 x4 x5 x6 x7 → VC P E c2 Q (I x0 x1 x2 x3 x4 x5 x6 x7)) : VC P E (.seq c1 c2) Q s :=
  fun a w hi => wpIn_seq (Code.wpIn_mono (fun e a w h => by
    cases e <;> first | exact h | (obtain ⟨x0, x1, x2, x3, x4, x5, x6, x7, hf, hi⟩ := h; exact hy x0 x1 x2 x3 x4 x5 x6 x7 hf a w hi)) (hx a w hi))
theorem VN.meet8 {E : Env} {Q : Exit → Act → World → Prop} {s : St} {α0 : Type} {α1 : Type} {α2 : Type} {α3 : Type} {α4 : Type} {α5 : Type} {α6 : Type} {α7 : Type} {I : α0 → α1 → α2 → α3 → α4 → α5 → α6 → α7 → St} {F : α0 → α1 → α2 → α3 → α4 → α5 → α6 → α7 → Prop} (x0 : α0) (x1 : α1) (x2 : α2) (x3 : α3) (x4 : α4) (x5 : α5) (x6 : α6) (x7 : α7) (bs rs : List Nat) (hf : F x0 x1 x2 x3 x4 x5 x6 x7) (hl : Le s (I x0 x1 x2 x3 x4 x5 x6 x7) bs rs) : VN E (Exit.then (fun a w => ∃ (x0 : α0) (x1 : α1) (x2 : α2) (x3 : α3) (x4 : α4) (x5 : α5) (x6 : α6) (x7 : α7), F x0 x1 x2 x3 x4 x5 x6 x7 ∧ Inv E (I x0 x1 x2 x3 x4 x5 x6 x7) a w) Q) s :=
  fun a w hi => ⟨x0, x1, x2, x3, x4, x5, x6, x7, hf, hi.le hl⟩
theorem VC.join14 {E : Env} {P : Program} {Q : Exit → Act → World → Prop} {s : St} {α0 : Type} {α1 : Type} {α2 : Type} {α3 : Type} {α4 : Type} {α5 : Type} {α6 : Type} {α7 : Type} {α8 : Type} {α9 : Type} {α10 : Type} {α11 : Type} {α12 : Type} {α13 : Type} {c1 c2 : Code} (I : α0 → α1 → α2 → α3 → α4 → α5 → α6 → α7 → α8 → α9 → α10 → α11 → α12 → α13 → St) (F : α0 → α1 → α2 → α3 → α4 → α5 → α6 → α7 → α8 → α9 → α10 → α11 → α12 → α13 → Prop) (hx : VC P E c1 (Exit.then (fun a w => ∃ (x0 : α0) (x1 : α1) (x2 : α2) (x3 : α3) (x4 : α4) (x5 : α5) (x6 : α6) (x7 : α7) (x8 : α8) (x9 : α9) (x10 : α10) (x11 : α11) (x12 : α12) (x13 : α13), F x0 x1 x2 x3 x4 x5 x6 x7 x8 x9 x10 x11 x12 x13 ∧ Inv E (I x0 x1 x2 x3 x4 x5 x6 x7 x8 x9 x10 x11 x12 x13) a w) Q) s) (hy : ∀ (x0 : α0) (x1 : α1) (x2 : α2) (x3 : α3) (x4 : α4) (x5 : α5) (x6 : α6) (x7 : α7) (x8 : α8) (x9 : α9) (x10 : α10) (x11 : α11) (x12 : α12) (x13 : α13), F x0 x1 x2 x3 x4 x5 x6 x7 x8 x9 x10 x11 x12 x13 → VC P E c2 Q (I x0 x1 x2 x3 x4 x5 x6 x7 x8 x9 x10 x11 x12 x13)) : VC P E (.seq c1 c2) Q s :=
  fun a w hi => wpIn_seq (Code.wpIn_mono (fun e a w h => by
    cases e <;> first | exact h | (obtain ⟨x0, x1, x2, x3, x4, x5, x6, x7, x8, x9, x10, x11, x12, x13, hf, hi⟩ := h; exact hy x0 x1 x2 x3 x4 x5 x6 x7 x8 x9 x10 x11 x12 x13 hf a w hi)) (hx a w hi))
theorem VN.meet14 {E : Env} {Q : Exit → Act → World → Prop} {s : St} {α0 : Type} {α1 : Type} {α2 : Type} {α3 : Type} {α4 : Type} {α5 : Type} {α6 : Type} {α7 : Type} {α8 : Type} {α9 : Type} {α10 : Type} {α11 : Type} {α12 : Type} {α13 : Type} {I : α0 → α1 → α2 → α3 → α4 → α5 → α6 → α7 → α8 → α9 → α10 → α11 → α12 → α13 → St} {F : α0 → α1 → α2 → α3 → α4 → α5 → α6 → α7 → α8 → α9 → α10 → α11 → α12 → α13 → Prop} (x0 : α0) (x1 : α1) (x2 : α2) (x3 : α3) (x4 : α4) (x5 : α5) (x6 : α6) (x7 : α7) (x8 : α8) (x9 : α9) (x10 : α10) (x11 : α11) (x12 : α12) (x13 : α13) (bs rs : List Nat) (hf : F x0 x1 x2 x3 x4 x5 x6 x7 x8 x9 x10 x11 x12 x13) (hl : Le s (I x0 x1 x2 x3 x4 x5 x6 x7 x8 x9 x10 x11 x12 x13) bs rs) : VN E (Exit.then (fun a w => ∃ (x0 : α0) (x1 : α1) (x2 : α2) (x3 : α3) (x4 : α4) (x5 : α5) (x6 : α6) (x7 : α7) (x8 : α8) (x9 : α9) (x10 : α10) (x11 : α11) (x12 : α12) (x13 : α13), F x0 x1 x2 x3 x4 x5 x6 x7 x8 x9 x10 x11 x12 x13 ∧ Inv E (I x0 x1 x2 x3 x4 x5 x6 x7 x8 x9 x10 x11 x12 x13) a w) Q) s :=
  fun a w hi => ⟨x0, x1, x2, x3, x4, x5, x6, x7, x8, x9, x10, x11, x12, x13, hf, hi.le hl⟩
theorem VC.loop1 {E : Env} {P : Program} {Q : Exit → Act → World → Prop} {s : St} {α0 : Type} {c : Code} (I : α0 → St) (F : Nat → α0 → Prop) (k : Nat) (x0 : α0) (bs rs : List Nat) (hf : F k x0) (hl : Le s (I x0) bs rs) (hz : ∀ (x0 : α0), ¬ F 0 x0) (h : ∀ k, (∀ (x0 : α0), F k x0 → VLp P E c Q k (I x0)) → ∀ (x0 : α0), F (k + 1) x0 → VC P E c (Exit.then (Code.roundsIn E.F 0 P c Q k) Q) (I x0)) : VC P E (.loop c) Q s := by
  have key : ∀ k (x0 : α0), F k x0 → VLp P E c Q k (I x0) := by
    intro k
    induction k with
    | zero => intro x0 hf; exact absurd hf (hz x0)
    | succ k ih => intro x0 hf; exact VLp.succ (h k ih x0 hf)
  exact fun a w hi => wpIn_loop_rounds k (key k x0 hf a w (hi.le hl))
theorem VC.loop2 {E : Env} {P : Program} {Q : Exit → Act → World → Prop} {s : St} {α0 : Type} {α1 : Type} {c : Code} (I : α0 → α1 → St) (F : Nat → α0 → α1 → Prop) (k : Nat) (x0 : α0) (x1 : α1) (bs rs : List Nat) (hf : F k x0 x1) (hl : Le s (I x0 x1) bs rs) (hz : ∀ (x0 : α0) (x1 : α1), ¬ F 0 x0 x1) (h : ∀ k, (∀ (x0 : α0) (x1 : α1), F k x0 x1 → VLp P E c Q k (I x0 x1)) → ∀ (x0 : α0) (x1 : α1), F (k + 1) x0 x1 → VC P E c (Exit.then (Code.roundsIn E.F 0 P c Q k) Q) (I x0 x1)) : VC P E (.loop c) Q s := by
  have key : ∀ k (x0 : α0) (x1 : α1), F k x0 x1 → VLp P E c Q k (I x0 x1) := by
    intro k
    induction k with
    | zero => intro x0 x1 hf; exact absurd hf (hz x0 x1)
    | succ k ih => intro x0 x1 hf; exact VLp.succ (h k ih x0 x1 hf)
  exact fun a w hi => wpIn_loop_rounds k (key k x0 x1 hf a w (hi.le hl))
theorem VC.loop3 {E : Env} {P : Program} {Q : Exit → Act → World → Prop} {s : St} {α0 : Type} {α1 : Type} {α2 : Type} {c : Code} (I : α0 → α1 → α2 → St) (F : Nat → α0 → α1 → α2 → Prop) (k : Nat) (x0 : α0) (x1 : α1) (x2 : α2) (bs rs : List Nat) (hf : F k x0 x1 x2) (hl : Le s (I x0 x1 x2) bs rs) (hz : ∀ (x0 : α0) (x1 : α1) (x2 : α2), ¬ F 0 x0 x1 x2) (h : ∀ k, (∀ (x0 : α0) (x1 : α1) (x2 : α2), F k x0 x1 x2 → VLp P E c Q k (I x0 x1 x2)) → ∀ (x0 : α0) (x1 : α1) (x2 : α2), F (k + 1) x0 x1 x2 → VC P E c (Exit.then (Code.roundsIn E.F 0 P c Q k) Q) (I x0 x1 x2)) : VC P E (.loop c) Q s := by
  have key : ∀ k (x0 : α0) (x1 : α1) (x2 : α2), F k x0 x1 x2 → VLp P E c Q k (I x0 x1 x2) := by
    intro k
    induction k with
    | zero => intro x0 x1 x2 hf; exact absurd hf (hz x0 x1 x2)
    | succ k ih => intro x0 x1 x2 hf; exact VLp.succ (h k ih x0 x1 x2 hf)
  exact fun a w hi => wpIn_loop_rounds k (key k x0 x1 x2 hf a w (hi.le hl))
theorem VC.loop5 {E : Env} {P : Program} {Q : Exit → Act → World → Prop} {s : St} {α0 : Type} {α1 : Type} {α2 : Type} {α3 : Type} {α4 : Type} {c : Code} (I : α0 → α1 → α2 → α3 → α4 → St) (F : Nat → α0 → α1 → α2 → α3 → α4 → Prop) (k : Nat) (x0 : α0) (x1 : α1) (x2 : α2) (x3 : α3) (x4 : α4) (bs rs : List Nat) (hf : F k x0 x1 x2 x3 x4) (hl : Le s (I x0 x1 x2 x3 x4) bs rs) (hz : ∀ (x0 : α0) (x1 : α1) (x2 : α2) (x3 : α3) (x4 : α4), ¬ F 0 x0 x1 x2 x3 x4) (h : ∀ k, (∀ (x0 : α0) (x1 : α1) (x2 : α2) (x3 : α3) (x4 : α4), F k x0 x1 x2 x3 x4 → VLp P E c Q k (I x0 x1 x2 x3 x4)) → ∀ (x0 : α0) (x1 : α1) (x2 : α2) (x3 : α3) (x4 : α4), F (k + 1) x0 x1 x2 x3 x4 → VC P E c (Exit.then (Code.roundsIn E.F 0 P c Q k) Q) (I x0 x1 x2 x3 x4)) : VC P E (.loop c) Q s := by
  have key : ∀ k (x0 : α0) (x1 : α1) (x2 : α2) (x3 : α3) (x4 : α4), F k x0 x1 x2 x3 x4 → VLp P E c Q k (I x0 x1 x2 x3 x4) := by
    intro k
    induction k with
    | zero => intro x0 x1 x2 x3 x4 hf; exact absurd hf (hz x0 x1 x2 x3 x4)
    | succ k ih => intro x0 x1 x2 x3 x4 hf; exact VLp.succ (h k ih x0 x1 x2 x3 x4 hf)
  exact fun a w hi => wpIn_loop_rounds k (key k x0 x1 x2 x3 x4 hf a w (hi.le hl))
theorem VC.loop8 {E : Env} {P : Program} {Q : Exit → Act → World → Prop} {s : St} {α0 : Type} {α1 : Type} {α2 : Type} {α3 : Type} {α4 : Type} {α5 : Type} {α6 : Type} {α7 : Type} {c : Code} (I : α0 → α1 → α2 → α3 → α4 → α5 → α6 → α7 → St) (F : Nat → α0 → α1 → α2 → α3 → α4 → α5 → α6 → α7 → Prop) (k : Nat) (x0 : α0) (x1 : α1) (x2 : α2) (x3 : α3) (x4 : α4) (x5 : α5) (x6 : α6) (x7 : α7) (bs rs : List Nat) (hf : F k x0 x1 x2 x3 x4 x5 x6 x7) (hl : Le s (I x0 x1 x2 x3 x4 x5 x6 x7) bs rs) (hz : ∀ (x0 : α0) (x1 : α1) (x2 : α2) (x3 : α3) (x4 : α4) (x5 : α5) (x6 : α6) (x7 : α7), ¬ F 0 x0 x1 x2 x3 x4 x5 x6 x7) (h : ∀ k, (∀ (x0 : α0) (x1 : α1) (x2 : α2) (x3 : α3) (x4 : α4) (x5 : α5) (x6 : α6) (x7 : α7), F k x0 x1 x2 x3 x4 x5 x6 x7 → VLp P E c Q k (I x0 x1 x2 x3 x4 x5 x6 x7)) → ∀ (x0 : α0) (x1 : α1) (x2 : α2) (x3 : α3) (x4 : α4) (x5 : α5) (x6 : α6) (x7 : α7), F (k + 1) x0 x1 x2 x3 x4 x5 x6 x7 → VC P E c (Exit.then (Code.roundsIn E.F 0 P c Q k) Q) (I x0 x1 x2 x3 x4 x5 x6 x7)) : VC P E (.loop c) Q s := by
  have key : ∀ k (x0 : α0) (x1 : α1) (x2 : α2) (x3 : α3) (x4 : α4) (x5 : α5) (x6 : α6) (x7 : α7), F k x0 x1 x2 x3 x4 x5 x6 x7 → VLp P E c Q k (I x0 x1 x2 x3 x4 x5 x6 x7) := by
    intro k
    induction k with
    | zero => intro x0 x1 x2 x3 x4 x5 x6 x7 hf; exact absurd hf (hz x0 x1 x2 x3 x4 x5 x6 x7)
    | succ k ih => intro x0 x1 x2 x3 x4 x5 x6 x7 hf; exact VLp.succ (h k ih x0 x1 x2 x3 x4 x5 x6 x7 hf)
  exact fun a w hi => wpIn_loop_rounds k (key k x0 x1 x2 x3 x4 x5 x6 x7 hf a w (hi.le hl))
theorem VC.stop0 {E : Env} {P : Program} {Q : Exit → Act → World → Prop} {s : St}  {c1 : Code} (I : St) (F : Prop) (hx : VC P E c1 (Exit.then (fun a w => F ∧ Inv E (I) a w) Q) s) (hy : F → VN E Q (I)) : VC P E c1 Q s :=
  fun a w hi => Code.wpIn_mono (fun e a w h => by
    cases e <;> first | exact h | (obtain ⟨hf, hi⟩ := h; exact hy  hf a w hi)) (hx a w hi)
theorem VC.stop1 {E : Env} {P : Program} {Q : Exit → Act → World → Prop} {s : St} {α0 : Type} {c1 : Code} (I : α0 → St) (F : α0 → Prop) (hx : VC P E c1 (Exit.then (fun a w => ∃ (x0 : α0), F x0 ∧ Inv E (I x0) a w) Q) s) (hy : ∀ (x0 : α0), F x0 → VN E Q (I x0)) : VC P E c1 Q s :=
  fun a w hi => Code.wpIn_mono (fun e a w h => by
    cases e <;> first | exact h | (obtain ⟨x0, hf, hi⟩ := h; exact hy x0 hf a w hi)) (hx a w hi)
theorem VC.stop2 {E : Env} {P : Program} {Q : Exit → Act → World → Prop} {s : St} {α0 : Type} {α1 : Type} {c1 : Code} (I : α0 → α1 → St) (F : α0 → α1 → Prop) (hx : VC P E c1 (Exit.then (fun a w => ∃ (x0 : α0) (x1 : α1), F x0 x1 ∧ Inv E (I x0 x1) a w) Q) s) (hy : ∀ (x0 : α0) (x1 : α1), F x0 x1 → VN E Q (I x0 x1)) : VC P E c1 Q s :=
  fun a w hi => Code.wpIn_mono (fun e a w h => by
    cases e <;> first | exact h | (obtain ⟨x0, x1, hf, hi⟩ := h; exact hy x0 x1 hf a w hi)) (hx a w hi)
theorem VC.stop8 {E : Env} {P : Program} {Q : Exit → Act → World → Prop} {s : St} {α0 : Type} {α1 : Type} {α2 : Type} {α3 : Type} {α4 : Type} {α5 : Type} {α6 : Type} {α7 : Type} {c1 : Code} (I : α0 → α1 → α2 → α3 → α4 → α5 → α6 → α7 → St) (F : α0 → α1 → α2 → α3 → α4 → α5 → α6 → α7 → Prop) (hx : VC P E c1 (Exit.then (fun a w => ∃ (x0 : α0) (x1 : α1) (x2 : α2) (x3 : α3) (x4 : α4) (x5 : α5) (x6 : α6) (x7 : α7), F x0 x1 x2 x3 x4 x5 x6 x7 ∧ Inv E (I x0 x1 x2 x3 x4 x5 x6 x7) a w) Q) s) (hy : ∀ (x0 : α0) (x1 : α1) (x2 : α2) (x3 : α3) (x4 : α4) (x5 : α5) (x6 : α6) (x7 : α7), F x0 x1 x2 x3 x4 x5 x6 x7 → VN E Q (I x0 x1 x2 x3 x4 x5 x6 x7)) : VC P E c1 Q s :=
  fun a w hi => Code.wpIn_mono (fun e a w h => by
    cases e <;> first | exact h | (obtain ⟨x0, x1, x2, x3, x4, x5, x6, x7, hf, hi⟩ := h; exact hy x0 x1 x2 x3 x4 x5 x6 x7 hf a w hi)) (hx a w hi)
theorem VC.stop14 {E : Env} {P : Program} {Q : Exit → Act → World → Prop} {s : St} {α0 : Type} {α1 : Type} {α2 : Type} {α3 : Type} {α4 : Type} {α5 : Type} {α6 : Type} {α7 : Type} {α8 : Type} {α9 : Type} {α10 : Type} {α11 : Type} {α12 : Type} {α13 : Type} {c1 : Code} (I : α0 → α1 → α2 → α3 → α4 → α5 → α6 → α7 → α8 → α9 → α10 → α11 → α12 → α13 → St) (F : α0 → α1 → α2 → α3 → α4 → α5 → α6 → α7 → α8 → α9 → α10 → α11 → α12 → α13 → Prop) (hx : VC P E c1 (Exit.then (fun a w => ∃ (x0 : α0) (x1 : α1) (x2 : α2) (x3 : α3) (x4 : α4) (x5 : α5) (x6 : α6) (x7 : α7) (x8 : α8) (x9 : α9) (x10 : α10) (x11 : α11) (x12 : α12) (x13 : α13), F x0 x1 x2 x3 x4 x5 x6 x7 x8 x9 x10 x11 x12 x13 ∧ Inv E (I x0 x1 x2 x3 x4 x5 x6 x7 x8 x9 x10 x11 x12 x13) a w) Q) s) (hy : ∀ (x0 : α0) (x1 : α1) (x2 : α2) (x3 : α3) (x4 : α4) (x5 : α5) (x6 : α6) (x7 : α7) (x8 : α8) (x9 : α9) (x10 : α10) (x11 : α11) (x12 : α12) (x13 : α13), F x0 x1 x2 x3 x4 x5 x6 x7 x8 x9 x10 x11 x12 x13 → VN E Q (I x0 x1 x2 x3 x4 x5 x6 x7 x8 x9 x10 x11 x12 x13)) : VC P E c1 Q s :=
  fun a w hi => Code.wpIn_mono (fun e a w h => by
    cases e <;> first | exact h | (obtain ⟨x0, x1, x2, x3, x4, x5, x6, x7, x8, x9, x10, x11, x12, x13, hf, hi⟩ := h; exact hy x0 x1 x2 x3 x4 x5 x6 x7 x8 x9 x10 x11 x12 x13 hf a w hi)) (hx a w hi)
theorem Z25 : (Try.prog.info? 25).bind (·.zero) = some (.agg #[.int .i64 0, .slice none 0 0]) := by kernel_rfl
theorem ZL25 : (.agg #[.int .i64 0, .slice none 0 0] : Value).cells.toList = [.int .i64 0, .slice none 0 0] := rfl
theorem MK3 : KeyOk Try.prog 3 mI := keyI Try.underlying3
theorem TI29 : TI Try.prog 29 true 5 := ⟨⟨_, Try.underlying29, rfl⟩, by kernel_rfl⟩
theorem Z29 : (Try.prog.info? 29).bind (·.zero) = some (.agg #[.int .i64 0, .int .i64 0, .int .i64 0, .int .i64 0, .int .i64 0]) := by kernel_rfl
theorem ZL29 : (.agg #[.int .i64 0, .int .i64 0, .int .i64 0, .int .i64 0, .int .i64 0] : Value).cells.toList = [.int .i64 0, .int .i64 0, .int .i64 0, .int .i64 0, .int .i64 0] := rfl
theorem TI3 : TI Try.prog 3 false 1 := ⟨⟨_, Try.underlying3, rfl⟩, by kernel_rfl⟩
theorem FI29_4 : FI Try.prog 29 4 4 1 := ⟨_, _, _, Try.underlying29, rfl, rfl, TI3⟩
theorem FI29_0 : FI Try.prog 29 0 0 1 := ⟨_, _, _, Try.underlying29, rfl, rfl, TI3⟩
theorem TI25 : TI Try.prog 25 true 2 := ⟨⟨_, Try.underlying25, rfl⟩, by kernel_rfl⟩
theorem FI29_1 : FI Try.prog 29 1 1 1 := ⟨_, _, _, Try.underlying29, rfl, rfl, TI3⟩
theorem FI29_2 : FI Try.prog 29 2 2 1 := ⟨_, _, _, Try.underlying29, rfl, rfl, TI3⟩
theorem TI23 : TI Try.prog 23 false 1 := ⟨⟨_, Try.underlying23, rfl⟩, by kernel_rfl⟩
theorem FI25_1 : FI Try.prog 25 1 1 1 := ⟨_, _, _, Try.underlying25, rfl, rfl, TI23⟩
theorem TI34 : TI Try.prog 34 true 4 := ⟨⟨_, Try.underlying34, rfl⟩, by kernel_rfl⟩
theorem Z34 : (Try.prog.info? 34).bind (·.zero) = some (.agg #[.int .i64 0, .int .i64 0, .int .i64 0, .int .i64 0]) := by kernel_rfl
theorem ZL34 : (.agg #[.int .i64 0, .int .i64 0, .int .i64 0, .int .i64 0] : Value).cells.toList = [.int .i64 0, .int .i64 0, .int .i64 0, .int .i64 0] := rfl
theorem FI34_0 : FI Try.prog 34 0 0 1 := ⟨_, _, _, Try.underlying34, rfl, rfl, TI3⟩
theorem FO22 : FOk Try.prog 22 := ⟨_, Try.func22, by kernel_rfl, by kernel_rfl⟩
theorem FI34_2 : FI Try.prog 34 2 2 1 := ⟨_, _, _, Try.underlying34, rfl, rfl, TI3⟩
theorem FI34_1 : FI Try.prog 34 1 1 1 := ⟨_, _, _, Try.underlying34, rfl, rfl, TI3⟩
theorem FO21 : FOk Try.prog 21 := ⟨_, Try.func21, by kernel_rfl, by kernel_rfl⟩
theorem FI34_3 : FI Try.prog 34 3 3 1 := ⟨_, _, _, Try.underlying34, rfl, rfl, TI3⟩
theorem FO23 : FOk Try.prog 23 := ⟨_, Try.func23, by kernel_rfl, by kernel_rfl⟩
theorem FO25 : FOk Try.prog 25 := ⟨_, Try.func25, by kernel_rfl, by kernel_rfl⟩
theorem FO33 : FOk Try.prog 33 := ⟨_, Try.func33, by kernel_rfl, by kernel_rfl⟩
theorem FO32 : FOk Try.prog 32 := ⟨_, Try.func32, by kernel_rfl, by kernel_rfl⟩
theorem FO24 : FOk Try.prog 24 := ⟨_, Try.func24, by kernel_rfl, by kernel_rfl⟩
theorem FI25_0 : FI Try.prog 25 0 0 1 := ⟨_, _, _, Try.underlying25, rfl, rfl, TI3⟩
theorem FO8 : FOk Try.prog 8 := ⟨_, Try.func8, by kernel_rfl, by kernel_rfl⟩
theorem SI25 : SI Try.prog 25 [.int .i64 0, .slice none 0 0] [(0, 1), (1, 1)] := ⟨⟨_, Try.underlying25, (.cons ⟨rfl, _, TI3⟩ (.cons ⟨rfl, _, TI23⟩ .nil))⟩, Z25⟩
theorem EI34 : EI Try.prog 34 4 32 := ei_of (z := .agg #[.int .i64 0, .int .i64 0, .int .i64 0, .int .i64 0]) (by kernel_rfl) rfl (by decide) (by decide)
theorem FO26 : FOk Try.prog 26 := ⟨_, Try.func26, by kernel_rfl, by kernel_rfl⟩
theorem SI34 : SI Try.prog 34 [.int .i64 0, .int .i64 0, .int .i64 0, .int .i64 0] [(0, 1), (1, 1), (2, 1), (3, 1)] := ⟨⟨_, Try.underlying34, (.cons ⟨rfl, _, TI3⟩ (.cons ⟨rfl, _, TI3⟩ (.cons ⟨rfl, _, TI3⟩ (.cons ⟨rfl, _, TI3⟩ .nil))))⟩, Z34⟩
theorem FO5 : FOk Try.prog 5 := ⟨_, Try.func5, by kernel_rfl, by kernel_rfl⟩
theorem FI29_3 : FI Try.prog 29 3 3 1 := ⟨_, _, _, Try.underlying29, rfl, rfl, TI3⟩
theorem FO27 : FOk Try.prog 27 := ⟨_, Try.func27, by kernel_rfl, by kernel_rfl⟩
theorem FO29 : FOk Try.prog 29 := ⟨_, Try.func29, by kernel_rfl, by kernel_rfl⟩
theorem FO28 : FOk Try.prog 28 := ⟨_, Try.func28, by kernel_rfl, by kernel_rfl⟩
theorem FO6 : FOk Try.prog 6 := ⟨_, Try.func6, by kernel_rfl, by kernel_rfl⟩
theorem Z4 : (Try.prog.info? 4).bind (·.zero) = some (.bool false) := by kernel_rfl
theorem Z23 : (Try.prog.info? 23).bind (·.zero) = some (.slice none 0 0) := by kernel_rfl
theorem ZL23 : (.slice none 0 0 : Value).cells.toList = [.slice none 0 0] := rfl
theorem FO30 : FOk Try.prog 30 := ⟨_, Try.func30, by kernel_rfl, by kernel_rfl⟩
theorem FO34 : FOk Try.prog 34 := ⟨_, Try.func34, by kernel_rfl, by kernel_rfl⟩
theorem FO7 : FOk Try.prog 7 := ⟨_, Try.func7, by kernel_rfl, by kernel_rfl⟩
theorem Z3 : (Try.prog.info? 3).bind (·.zero) = some (.int .i64 0) := by kernel_rfl
theorem FO9 : FOk Try.prog 9 := ⟨_, Try.func9, by kernel_rfl, by kernel_rfl⟩
def outbox_number.f (a0 : Int) : Option (Bool) := (if a0 ≥ 1 then (some (decide (a0 ≤ 1099511627776))) else (some false))
def outbox_kinds.f (a0 : Int) : Option (Bool) := (if a0 ≥ 1 then (some (decide (a0 ≤ 3))) else (some false))
def outbox_time.f (a0 : Int) : Option (Bool) := (if a0 = 0 then (some true) else ((outbox_number.f a0).bind fun t53 => (some t53)))
def outbox_of.f (a0 : Int) (a1 : Int) : Option (Int × Int) := (some (a0, a1))
def outbox_of_1.f (a0_0 : Int) (a0_1 : Int) (a0_2 : Int) (a0_3 : Int) (a1_0 : Int) (a2_0 : Int) : Option (Bool) := (if a0_1 = a1_0 then (some (a0_2 == a2_0)) else (some false))
def slices_IndexFunc_api_Out_api_Out.l1 (k : Nat) (a1_0_0 : Int) (a1_1_0 : Int) (l0 : List S33) : Nat → Int → Option (Int)
  | 0, _ => none
  | ml1 + 1, i154 => (if i154 < (l0.length : Int) then (if 0 ≤ i154 then ((l0[i154.toNat]?).bind fun x183 => ((outbox_of_1.f x183.f0 x183.f1 x183.f2 x183.f3 a1_0_0 a1_1_0).bind fun t186 => (if t186 = true then (some i154) else (slices_IndexFunc_api_Out_api_Out.l1 k a1_0_0 a1_1_0 l0 ml1 (wrap64 (i154 + 1)))))) else none) else (some (-1)))
def slices_IndexFunc_api_Out_api_Out.f (k : Nat) (l0 : List S33) (a1_0_0 : Int) (a1_1_0 : Int) : Option (Int) := (slices_IndexFunc_api_Out_api_Out.l1 k a1_0_0 a1_1_0 l0 k 0)
def outbox_where_Out.f (k : Nat) (l0 : List S33) (a1_0_0 : Int) (a1_1_0 : Int) : Option (Int) := ((slices_IndexFunc_api_Out_api_Out.f k l0 a1_0_0 a1_1_0).bind fun t189 => (some t189))
def outbox_Right.l1 (k : Nat) (a0_0 : Int) (l0_1 : List S33) : Nat → Int → Int → Option (Bool)
  | 0, _, _ => none
  | ml1 + 1, i572, i573 => (if i573 < (l0_1.length : Int) then (if 0 ≤ i573 then ((l0_1[i573.toNat]?).bind fun x746 => ((outbox_number.f x746.f0).bind fun t761 => (if t761 = true then ((outbox_number.f x746.f2).bind fun t764 => (if t764 = true then ((outbox_kinds.f x746.f1).bind fun t767 => (if t767 = true then ((outbox_time.f x746.f3).bind fun t770 => (if t770 = true then (if x746.f0 ≤ i572 then (some false) else ((outbox_of.f x746.f1 x746.f2).bind fun ⟨t787, t788⟩ => ((outbox_where_Out.f k l0_1 t787 t788).bind fun t792 => (if t792 = i573 then (outbox_Right.l1 k a0_0 l0_1 ml1 x746.f0 (wrap64 (i573 + 1))) else (some false))))) else (some false))) else (some false))) else (some false))) else (some false)))) else none) else (if (l0_1.length : Int) ≤ 96 then ((outbox_time.f a0_0).bind fun t804 => (if t804 = true then (some (decide (i572 ≤ a0_0))) else (some false))) else (some false)))
def outbox_Right.f (k : Nat) (a0_0 : Int) (l0_1 : List S33) : Option (Bool) := (outbox_Right.l1 k a0_0 l0_1 k 0 0)
def slices_Clip_api_Out_api_Out.f (l0 : List S33) : Option (List S33) := some l0
def outbox_Put.f (k : Nat) (a0_0 : Int) (l0_1 : List S33) (a1 : Int) (a2 : Int) (a3 : Int) : Option (Int × List S33 × Int × Int) := ((outbox_Right.f k a0_0 l0_1).bind fun t969 => (if t969 = true then ((outbox_kinds.f a1).bind fun t972 => (if t972 = true then ((outbox_number.f a2).bind fun t975 => (if t975 = true then ((outbox_time.f a3).bind fun t978 => (if t978 = true then ((outbox_of.f a1 a2).bind fun ⟨t981, t982⟩ => ((outbox_where_Out.f k l0_1 t981 t982).bind fun t986 => (if t986 ≥ 0 then (some (0, ([] : List S33), 0, 9)) else (if (l0_1.length : Int) = 96 then (some (0, ([] : List S33), 0, 7)) else (if a0_0 = 1099511627776 then (some (0, ([] : List S33), 0, 7)) else ((slices_Clip_api_Out_api_Out.f l0_1).bind fun r1000 => (if (r1000.length + ([(⟨wrap64 (a0_0 + 1), a1, a2, a3⟩ : S33)] : List S33).length) * 32 ≤ 140737488355328 then (some (wrap64 (a0_0 + 1), (r1000 ++ ([(⟨wrap64 (a0_0 + 1), a1, a2, a3⟩ : S33)] : List S33)), wrap64 (a0_0 + 1), 0)) else none))))))) else (some (0, ([] : List S33), 0, 1)))) else (some (0, ([] : List S33), 0, 1)))) else (some (0, ([] : List S33), 0, 1)))) else (some (0, ([] : List S33), 0, 1))))
def outbox_Done_1.f (a0_0 : Int) (a0_1 : Int) (a0_2 : Int) (a0_3 : Int) (a1_0 : Int) : Option (Bool) := (some (a0_0 == a1_0))
def slices_IndexFunc_api_Out_api_Out_s10.l1 (k : Nat) (a1_0_0 : Int) (l0 : List S33) : Nat → Int → Option (Int)
  | 0, _ => none
  | ml1 + 1, i1127 => (if i1127 < (l0.length : Int) then (if 0 ≤ i1127 then ((l0[i1127.toNat]?).bind fun x1156 => ((outbox_Done_1.f x1156.f0 x1156.f1 x1156.f2 x1156.f3 a1_0_0).bind fun t1159 => (if t1159 = true then (some i1127) else (slices_IndexFunc_api_Out_api_Out_s10.l1 k a1_0_0 l0 ml1 (wrap64 (i1127 + 1)))))) else none) else (some (-1)))
def slices_IndexFunc_api_Out_api_Out_s10.f (k : Nat) (l0 : List S33) (a1_0_0 : Int) : Option (Int) := (slices_IndexFunc_api_Out_api_Out_s10.l1 k a1_0_0 l0 k 0)
def outbox_where_Out_s10.f (k : Nat) (l0 : List S33) (a1_0_0 : Int) : Option (Int) := ((slices_IndexFunc_api_Out_api_Out_s10.f k l0 a1_0_0).bind fun t1162 => (some t1162))
def slices_Clone_api_Out_api_Out.f (l0 : List S33) : Option (List S33) := if l0.length * 32 ≤ 140737488355328 then some l0 else none
def slices_Delete_api_Out_api_Out.f (l0 : List S33) (a1 : Int) (a2 : Int) : Option (List S33) := if 0 ≤ a1 ∧ a1 ≤ a2 ∧ a2 ≤ (l0.length : Int) then some (l0.take a1.toNat ++ l0.drop a2.toNat) else none
def outbox_Done.f (k : Nat) (a0_0 : Int) (l0_1 : List S33) (a1 : Int) : Option (Int × List S33 × Int × Int × Int × Int × Int) := ((outbox_Right.f k a0_0 l0_1).bind fun t1055 => (if t1055 = true then ((outbox_where_Out_s10.f k l0_1 a1).bind fun t1164 => (if t1164 < 0 then (some (0, ([] : List S33), 0, 0, 0, 0, 8)) else (if 0 ≤ t1164 then ((l0_1[t1164.toNat]?).bind fun x1173 => ((slices_Clone_api_Out_api_Out.f l0_1).bind fun r1177 => ((slices_Delete_api_Out_api_Out.f r1177 t1164 (wrap64 (t1164 + 1))).bind fun r1181 => (some (a0_0, r1181, x1173.f0, x1173.f1, x1173.f2, x1173.f3, 0))))) else none))) else (some (0, ([] : List S33), 0, 0, 0, 0, 1))))
def outbox_due.f (l0 : List S33) (a1 : Int) : Option (List S33 × Int) := (some (l0, a1))
def outbox_Tell.l0 (k : Nat) (a0_0 : Int) (a1 : Int) (r1255 : List S33) (t1256 : Int) : Nat → Int → (List S33) → (List S33) → Option (Int × List S33 × List S33 × Int)
  | 0, _, _, _ => none
  | ml0 + 1, i1332, l1335, l1339 => (if i1332 < (r1255.length : Int) then (if 0 ≤ i1332 then ((r1255[i1332.toNat]?).bind fun x1440 => (if x1440.f3 ≤ t1256 then (if (l1335.length + ([x1440] : List S33).length) * 32 ≤ 140737488355328 then ((l1339[i1332.toNat]?).bind fun x1465 => (outbox_Tell.l0 k a0_0 a1 r1255 t1256 ml0 (wrap64 (i1332 + 1)) (l1335 ++ ([x1440] : List S33)) (l1339.set i1332.toNat (⟨x1465.f0, x1465.f1, x1465.f2, mn (wrap64 (a1 + 10)) 1099511627776⟩ : S33)))) else none) else (outbox_Tell.l0 k a0_0 a1 r1255 t1256 ml0 (wrap64 (i1332 + 1)) l1335 l1339))) else none) else (some (a0_0, l1339, l1335, 0)))
def outbox_Tell.f (k : Nat) (a0_0 : Int) (l0_1 : List S33) (a1 : Int) : Option (Int × List S33 × List S33 × Int) := ((outbox_Right.f k a0_0 l0_1).bind fun t1237 => (if t1237 = true then ((outbox_time.f a1).bind fun t1240 => (if t1240 = true then ((slices_Clone_api_Out_api_Out.f l0_1).bind fun r1243 => ((outbox_due.f l0_1 a1).bind fun ⟨r1255, t1256⟩ => (outbox_Tell.l0 k a0_0 a1 r1255 t1256 k 0 ([] : List S33) r1243))) else (some (0, ([] : List S33), ([] : List S33), 1)))) else (some (0, ([] : List S33), ([] : List S33), 1))))
def tarrylaw14_alive.f (k : Nat)  : Option (Bool) := ((outbox_Put.f k 0 [] 3 7 0).bind fun ⟨t13503, r13504, t13505, t13506⟩ => ((outbox_Tell.f k t13503 r13504 0).bind fun ⟨t13511, r13512, r13513, t13514⟩ => (if t13506 = 0 then (if t13514 = 0 then (if t13505 = 1 then (if (r13513.length : Int) = 1 then ((r13513[0]?).bind fun x13541 => (some (x13541.f2 == 7))) else (some false)) else (some false)) else (some false)) else (some false))))
def tarrylaw14_OutboxTells.j71 (k : Nat) (rec_l39 : Int → Int → Int → Int → (List S33) → (List (Int × Int)) → (List (Int × Bool)) → Option (Bool)) (i11087 : Int) (i11089 : Int) (x14753 : S28) (i15938 : Int) (q15939 : Bool) (q15940 : Bool) (i15941 : Int) (l15944 : List S33) (mp15945 : List (Int × Int)) (mp15946 : List (Int × Bool)) : Option (Bool) := ((outbox_Right.f k i15941 l15944).bind fun t15951 => (if t15951 = true then (if (l15944.length : Int) = (mp15946.length : Int) then (rec_l39 (wrap64 (i11087 + ((wrap64 ((x14753.f4.tmod 20) + 20)).tmod 20))) i15938 (wrap64 (i11089 + 1)) i15941 l15944 mp15945 mp15946) else none) else none))
def tarrylaw14_OutboxTells.b77 (k : Nat) (i11087 : Int) (mp15802 : List (Int × Bool)) (mp15803 : List (Int × Int)) (x14753 : S28) (i15929 : Int) (q15930 : Bool) : Option Unit := (if (mget mp15802 i15929 false) = true then (some ()) else (if (wrap64 (i11087 + ((wrap64 ((x14753.f4.tmod 20) + 20)).tmod 20))) ≥ (wrap64 ((mget mp15803 i15929 0) + 10)) then none else (some ())))
def tarrylaw14_OutboxTells.l73 (k : Nat) (rec_l39 : Int → Int → Int → Int → (List S33) → (List (Int × Int)) → (List (Int × Bool)) → Option (Bool)) (i11087 : Int) (i11088 : Int) (i11089 : Int) (mp11096 : List (Int × Bool)) (r15624 : List S33) (r15625 : List S33) (t15623 : Int) (x14753 : S28) : Nat → Int → (List (Int × Bool)) → (List (Int × Int)) → Option (Bool)
  | 0, _, _, _ => none
  | ml73 + 1, i15801, mp15802, mp15803 => (if i15801 < (r15625.length : Int) then (if 0 ≤ i15801 then ((r15625[i15801.toNat]?).bind fun x15894 => (if (mget mp11096 x15894.f0 false) = true then (if (wrap64 (i11087 + ((wrap64 ((x14753.f4.tmod 20) + 20)).tmod 20))) < (wrap64 ((mget mp15803 x15894.f0 0) + 10)) then none else (if (mget mp15802 x15894.f0 false) = true then none else (tarrylaw14_OutboxTells.l73 k rec_l39 i11087 i11088 i11089 mp11096 r15624 r15625 t15623 x14753 ml73 (wrap64 (i15801 + 1)) (mset mp15802 x15894.f0 true) (mset mp15803 x15894.f0 (wrap64 (i11087 + ((wrap64 ((x14753.f4.tmod 20) + 20)).tmod 20))))))) else none)) else none) else (if (mp11096.all fun z => (tarrylaw14_OutboxTells.b77 k i11087 mp15802 mp15803 x14753 z.1 z.2).isSome) = true then (tarrylaw14_OutboxTells.j71 k rec_l39 i11087 i11089 x14753 i11088 false false t15623 r15624 mp15803 mp11096) else none))
def tarrylaw14_OutboxTells.l39 (k : Nat) (l0 : List S28) : Nat → Int → Int → Int → Int → (List S33) → (List (Int × Int)) → (List (Int × Bool)) → Option (Bool)
  | 0, _, _, _, _, _, _, _ => none
  | ml39 + 1, i11087, i11088, i11089, i11090, l11093, mp11095, mp11096 => (if i11089 < (l0.length : Int) then (if 0 ≤ i11089 then ((l0[i11089.toNat]?).bind fun x14753 => (if i11089 ≥ 30 then ((tarrylaw14_alive.f k).bind fun t14763 => (some t14763)) else (if ((wrap64 ((x14753.f0.tmod 3) + 3)).tmod 3) = 0 then ((outbox_Put.f k i11090 l11093 (wrap64 (1 + ((wrap64 ((x14753.f1.tmod 3) + 3)).tmod 3))) (wrap64 (1 + ((wrap64 ((x14753.f2.tmod 5) + 5)).tmod 5))) (wrap64 (i11087 + ((wrap64 ((x14753.f4.tmod 20) + 20)).tmod 20)))).bind fun ⟨t15573, r15574, t15575, t15576⟩ => (if t15576 = 0 then (if t15575 ≤ i11088 then none else (tarrylaw14_OutboxTells.j71 k (tarrylaw14_OutboxTells.l39 k l0 ml39) i11087 i11089 x14753 t15575 true true t15573 r15574 (mset mp11095 t15575 (wrap64 ((wrap64 (i11087 + ((wrap64 ((x14753.f4.tmod 20) + 20)).tmod 20))) - 10))) (mset mp11096 t15575 true))) else (if t15576 = 9 then (tarrylaw14_OutboxTells.l39 k l0 ml39 (wrap64 (i11087 + ((wrap64 ((x14753.f4.tmod 20) + 20)).tmod 20))) i11088 (wrap64 (i11089 + 1)) i11090 l11093 mp11095 mp11096) else none))) else (if ((wrap64 ((x14753.f0.tmod 3) + 3)).tmod 3) = 1 then ((outbox_Done.f k i11090 l11093 x14753.f3).bind fun ⟨t15599, r15600, t15601, t15602, t15603, t15604, t15605⟩ => (if (t15605 == 0) = (mget mp11096 x14753.f3 false) then (if t15605 = 0 then (if t15601 = x14753.f3 then (tarrylaw14_OutboxTells.j71 k (tarrylaw14_OutboxTells.l39 k l0 ml39) i11087 i11089 x14753 i11088 false false t15599 r15600 mp11095 (mdel mp11096 x14753.f3)) else none) else (tarrylaw14_OutboxTells.j71 k (tarrylaw14_OutboxTells.l39 k l0 ml39) i11087 i11089 x14753 i11088 false false i11090 l11093 mp11095 mp11096)) else none)) else ((outbox_Tell.f k i11090 l11093 (wrap64 (i11087 + ((wrap64 ((x14753.f4.tmod 20) + 20)).tmod 20)))).bind fun ⟨t15623, r15624, r15625, t15626⟩ => (if t15626 = 0 then (tarrylaw14_OutboxTells.l73 k (tarrylaw14_OutboxTells.l39 k l0 ml39) i11087 i11088 i11089 mp11096 r15624 r15625 t15623 x14753 k 0 ([] : List (Int × Bool)) mp11095) else none)))))) else none) else ((tarrylaw14_alive.f k).bind fun t15956 => (some t15956)))
def tarrylaw14_OutboxTells.f (k : Nat) (l0 : List S28) : Option (Bool) := (tarrylaw14_OutboxTells.l39 k l0 k 0 0 0 0 ([] : List S33) ([] : List (Int × Int)) ([] : List (Int × Bool)))
/-- THE ONE PURE STATEMENT. -/
def tarrylaw14_OutboxTells.Pure : Prop := ∀ (l0 : List S28), allOk ok28 l0 → ∃ k, tarrylaw14_OutboxTells.f k l0 = some true

end Go.Proofs.Ytapdeoioenblfaa.POutboxTells
