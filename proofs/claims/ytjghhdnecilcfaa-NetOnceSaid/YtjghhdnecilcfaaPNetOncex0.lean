/- Written by a program of this repo: what the program's functions do, each as a Lean function, shown of the loaded code; or a statement's row over that; no condition of its own. -/
import Derived.Test.YtjghhdnecilcfaaProg
import Derived.Test.YtjghhdnecilcfaaV20
namespace Go.Proofs.Ytjghhdnecilcfaa.PNetOnce
open Go Go.RowKit Go.Proofs.YtjghhdnecilcfaaV
set_option linter.unusedVariables false
set_option linter.unusedSimpArgs false

structure S25 where
  f0 : Int
  f1 : Bool
  f2 : Int
  f3 : Int
  f4 : Int
  f5 : Bool
def enc25 (x : S25) : List Value := [.int .i64 x.f0, .bool x.f1, .int .i64 x.f2, .int .i64 x.f3, .int .i64 x.f4, .bool x.f5]
theorem enc25_ok (a : S25) : (enc25 a).length = 6 ∧ ∀ u ∈ enc25 a, u.oneCell' = true := ⟨rfl, by intro u hu; simp only [enc25, List.mem_cons, List.not_mem_nil, or_false] at hu; rcases hu with rfl | rfl | rfl | rfl | rfl | rfl <;> rfl⟩
def ok25 (x : S25) : Prop := (Lit.int .i64 x.f0).wf = true ∧ (Lit.int .i64 x.f2).wf = true ∧ (Lit.int .i64 x.f3).wf = true ∧ (Lit.int .i64 x.f4).wf = true
def enc_inti64 (x : Int) : List Value := [.int .i64 x]
theorem enc_inti64_ok (a : Int) : (enc_inti64 a).length = 1 ∧ ∀ u ∈ enc_inti64 a, u.oneCell' = true := ⟨rfl, by intro u hu; simp only [enc_inti64, List.mem_cons, List.not_mem_nil, or_false] at hu; rcases hu with rfl; rfl⟩
theorem VC.join0 {E : Env} {P : Program} {Q : Exit → Act → World → Prop} {s : St}  {c1 c2 : Code} (I : St) (F : Prop) (hx : VC P E c1 (Exit.then (fun a w => F ∧ Inv E (I) a w) Q) s) (hy : F → VC P E c2 Q (I)) : VC P E (.seq c1 c2) Q s :=
  fun a w hi => wpIn_seq (Code.wpIn_mono (fun e a w h => by
    cases e <;> first | exact h | (obtain ⟨hf, hi⟩ := h; exact hy  hf a w hi)) (hx a w hi))
theorem VN.meet0 {E : Env} {Q : Exit → Act → World → Prop} {s : St}  {I : St} {F : Prop}  (bs rs : List Nat) (hf : F) (hl : Le s (I) bs rs) : VN E (Exit.then (fun a w => F ∧ Inv E (I) a w) Q) s :=
  fun a w hi => ⟨hf, hi.le hl⟩
theorem VC.join1 {E : Env} {P : Program} {Q : Exit → Act → World → Prop} {s : St} {α0 : Type} {c1 c2 : Code} (I : α0 → St) (F : α0 → Prop) (hx : VC P E c1 (Exit.then (fun a w => ∃ (x0 : α0), F x0 ∧ Inv E (I x0) a w) Q) s) (hy : ∀ (x0 : α0), F x0 → VC P E c2 Q (I x0)) : VC P E (.seq c1 c2) Q s :=
  fun a w hi => wpIn_seq (Code.wpIn_mono (fun e a w h => by
    cases e <;> first | exact h | (obtain ⟨x0, hf, hi⟩ := h; exact hy x0 hf a w hi)) (hx a w hi))
theorem VN.meet1 {E : Env} {Q : Exit → Act → World → Prop} {s : St} {α0 : Type} {I : α0 → St} {F : α0 → Prop} (x0 : α0) (bs rs : List Nat) (hf : F x0) (hl : Le s (I x0) bs rs) : VN E (Exit.then (fun a w => ∃ (x0 : α0), F x0 ∧ Inv E (I x0) a w) Q) s :=
  fun a w hi => ⟨x0, hf, hi.le hl⟩
theorem VC.join2 {E : Env} {P : Program} {Q : Exit → Act → World → Prop} {s : St} {α0 : Type} {α1 : Type} {c1 c2 : Code} (I : α0 → α1 → St) (F : α0 → α1 → Prop) (hx : VC P E c1 (Exit.then (fun a w => ∃ (x0 : α0) (x1 : α1), F x0 x1 ∧ Inv E (I x0 x1) a w) Q) s) (hy : ∀ (x0 : α0) (x1 : α1), F x0 x1 → VC P E c2 Q (I x0 x1)) : VC P E (.seq c1 c2) Q s :=
  fun a w hi => wpIn_seq (Code.wpIn_mono (fun e a w h => by
    cases e <;> first | exact h | (obtain ⟨x0, x1, hf, hi⟩ := h; exact hy x0 x1 hf a w hi)) (hx a w hi))
theorem VN.meet2 {E : Env} {Q : Exit → Act → World → Prop} {s : St} {α0 : Type} {α1 : Type} {I : α0 → α1 → St} {F : α0 → α1 → Prop} (x0 : α0) (x1 : α1) (bs rs : List Nat) (hf : F x0 x1) (hl : Le s (I x0 x1) bs rs) : VN E (Exit.then (fun a w => ∃ (x0 : α0) (x1 : α1), F x0 x1 ∧ Inv E (I x0 x1) a w) Q) s :=
  fun a w hi => ⟨x0, x1, hf, hi.le hl⟩
theorem VC.join3 {E : Env} {P : Program} {Q : Exit → Act → World → Prop} {s : St} {α0 : Type} {α1 : Type} {α2 : Type} {c1 c2 : Code} (I : α0 → α1 → α2 → St) (F : α0 → α1 → α2 → Prop) (hx : VC P E c1 (Exit.then (fun a w => ∃ (x0 : α0) (x1 : α1) (x2 : α2), F x0 x1 x2 ∧ Inv E (I x0 x1 x2) a w) Q) s) (hy : ∀ (x0 : α0) (x1 : α1) (x2 : α2), F x0 x1 x2 → VC P E c2 Q (I x0 x1 x2)) : VC P E (.seq c1 c2) Q s :=
  fun a w hi => wpIn_seq (Code.wpIn_mono (fun e a w h => by
    cases e <;> first | exact h | (obtain ⟨x0, x1, x2, hf, hi⟩ := h; exact hy x0 x1 x2 hf a w hi)) (hx a w hi))
theorem VN.meet3 {E : Env} {Q : Exit → Act → World → Prop} {s : St} {α0 : Type} {α1 : Type} {α2 : Type} {I : α0 → α1 → α2 → St} {F : α0 → α1 → α2 → Prop} (x0 : α0) (x1 : α1) (x2 : α2) (bs rs : List Nat) (hf : F x0 x1 x2) (hl : Le s (I x0 x1 x2) bs rs) : VN E (Exit.then (fun a w => ∃ (x0 : α0) (x1 : α1) (x2 : α2), F x0 x1 x2 ∧ Inv E (I x0 x1 x2) a w) Q) s :=
  fun a w hi => ⟨x0, x1, x2, hf, hi.le hl⟩
theorem VC.join4 {E : Env} {P : Program} {Q : Exit → Act → World → Prop} {s : St} {α0 : Type} {α1 : Type} {α2 : Type} {α3 : Type} {c1 c2 : Code} (I : α0 → α1 → α2 → α3 → St) (F : α0 → α1 → α2 → α3 → Prop) (hx : VC P E c1 (Exit.then (fun a w => ∃ (x0 : α0) (x1 : α1) (x2 : α2) (x3 : α3), F x0 x1 x2 x3 ∧ Inv E (I x0 x1 x2 x3) a w) Q) s) (hy : ∀ (x0 : α0) (x1 : α1) (x2 : α2) (x3 : α3), F x0 x1 x2 x3 → VC P E c2 Q (I x0 x1 x2 x3)) : VC P E (.seq c1 c2) Q s :=
  fun a w hi => wpIn_seq (Code.wpIn_mono (fun e a w h => by
    cases e <;> first | exact h | (obtain ⟨x0, x1, x2, x3, hf, hi⟩ := h; exact hy x0 x1 x2 x3 hf a w hi)) (hx a w hi))
theorem VN.meet4 {E : Env} {Q : Exit → Act → World → Prop} {s : St} {α0 : Type} {α1 : Type} {α2 : Type} {α3 : Type} {I : α0 → α1 → α2 → α3 → St} {F : α0 → α1 → α2 → α3 → Prop} (x0 : α0) (x1 : α1) (x2 : α2) (x3 : α3) (bs rs : List Nat) (hf : F x0 x1 x2 x3) (hl : Le s (I x0 x1 x2 x3) bs rs) : VN E (Exit.then (fun a w => ∃ (x0 : α0) (x1 : α1) (x2 : α2) (x3 : α3), F x0 x1 x2 x3 ∧ Inv E (I x0 x1 x2 x3) a w) Q) s :=
  fun a w hi => ⟨x0, x1, x2, x3, hf, hi.le hl⟩
theorem VC.join6 {E : Env} {P : Program} {Q : Exit → Act → World → Prop} {s : St} {α0 : Type} {α1 : Type} {α2 : Type} {α3 : Type} {α4 : Type} {α5 : Type} {c1 c2 : Code} (I : α0 → α1 → α2 → α3 → α4 → α5 → St) (F : α0 → α1 → α2 → α3 → α4 → α5 → Prop) (hx : VC P E c1 (Exit.then (fun a w => ∃ (x0 : α0) (x1 : α1) (x2 : α2) (x3 : α3) (x4 : α4) (x5 : α5), F x0 x1 x2 x3 x4 x5 ∧ Inv E (I x0 x1 x2 x3 x4 x5) a w) Q) s) (hy : ∀ (x0 : α0) (x1 : α1) (x2 : α2) (x3 : α3) (x4 : α4) (x5 : α5), F x0 x1 x2 x3 x4 x5 → VC P E c2 Q (I x0 x1 x2 x3 x4 x5)) : VC P E (.seq c1 c2) Q s :=
  fun a w hi => wpIn_seq (Code.wpIn_mono (fun e a w h => by
    cases e <;> first | exact h | (obtain ⟨x0, x1, x2, x3, x4, x5, hf, hi⟩ := h; exact hy x0 x1 x2 x3 x4 x5 hf a w hi)) (hx a w hi))
theorem VN.meet6 {E : Env} {Q : Exit → Act → World → Prop} {s : St} {α0 : Type} {α1 : Type} {α2 : Type} {α3 : Type} {α4 : Type} {α5 : Type} {I : α0 → α1 → α2 → α3 → α4 → α5 → St} {F : α0 → α1 → α2 → α3 → α4 → α5 → Prop} (x0 : α0) (x1 : α1) (x2 : α2) (x3 : α3) (x4 : α4) (x5 : α5) (bs rs : List Nat) (hf : F x0 x1 x2 x3 x4 x5) (hl : Le s (I x0 x1 x2 x3 x4 x5) bs rs) : VN E (Exit.then (fun a w => ∃ (x0 : α0) (x1 : α1) (x2 : α2) (x3 : α3) (x4 : α4) (x5 : α5), F x0 x1 x2 x3 x4 x5 ∧ Inv E (I x0 x1 x2 x3 x4 x5) a w) Q) s :=
  fun a w hi => ⟨x0, x1, x2, x3, x4, x5, hf, hi.le hl⟩
theorem VC.loop1 {E : Env} {P : Program} {Q : Exit → Act → World → Prop} {s : St} {α0 : Type} {c : Code} (I : α0 → St) (F : Nat → α0 → Prop) (k : Nat) (x0 : α0) (bs rs : List Nat) (hf : F k x0) (hl : Le s (I x0) bs rs) (hz : ∀ (x0 : α0), ¬ F 0 x0) (h : ∀ k, (∀ (x0 : α0), F k x0 → VLp P E c Q k (I x0)) → ∀ (x0 : α0), F (k + 1) x0 → VC P E c (Exit.then (Code.roundsIn E.F 0 P c Q k) Q) (I x0)) : VC P E (.loop c) Q s := by
  have key : ∀ k (x0 : α0), F k x0 → VLp P E c Q k (I x0) := by
    intro k
    induction k with
    | zero => intro x0 hf; exact absurd hf (hz x0)
    | succ k ih => intro x0 hf; exact VLp.succ (h k ih x0 hf)
  exact fun a w hi => wpIn_loop_rounds k (key k x0 hf a w (hi.le hl))
theorem VC.loop2 {E : Env} {P : Program} {Q : Exit → Act → World → Prop} {s : St} {α0 : Type} {α1 : Type} {c : Code} (I : α0 → α1 → St) (F : Nat → α0 → α1 → Prop) (k : Nat) (x0 : α0) (x1 : α1) (bs rs : List Nat) (hf : F k x0 x1) (hl : Le s (I x0 x1) bs rs) (hz : ∀ (x0 : α0) (x1 : α1), ¬ F 0 x0 x1) (h : ∀ k, (∀ (x0 : α0) (x1 : α1), F k x0 x1 → VLp P E c Q k (I x0 x1)) → ∀ (x0 : α0) (x1 : α1), F (k + 1) x0 x1 → VC P E c (Exit.then (Code.roundsIn E.F 0 P c Q k) Q) (I x0 x1)) : VC P E (.loop c) Q s := by
  have key : ∀ k (x0 : α0) (x1 : α1), F k x0 x1 → VLp P E c Q k (I x0 x1) := by
    intro k
    induction k with
    | zero => intro x0 x1 hf; exact absurd hf (hz x0 x1)
    | succ k ih => intro x0 x1 hf; exact VLp.succ (h k ih x0 x1 hf)
  exact fun a w hi => wpIn_loop_rounds k (key k x0 x1 hf a w (hi.le hl))
theorem VC.loop5 {E : Env} {P : Program} {Q : Exit → Act → World → Prop} {s : St} {α0 : Type} {α1 : Type} {α2 : Type} {α3 : Type} {α4 : Type} {c : Code} (I : α0 → α1 → α2 → α3 → α4 → St) (F : Nat → α0 → α1 → α2 → α3 → α4 → Prop) (k : Nat) (x0 : α0) (x1 : α1) (x2 : α2) (x3 : α3) (x4 : α4) (bs rs : List Nat) (hf : F k x0 x1 x2 x3 x4) (hl : Le s (I x0 x1 x2 x3 x4) bs rs) (hz : ∀ (x0 : α0) (x1 : α1) (x2 : α2) (x3 : α3) (x4 : α4), ¬ F 0 x0 x1 x2 x3 x4) (h : ∀ k, (∀ (x0 : α0) (x1 : α1) (x2 : α2) (x3 : α3) (x4 : α4), F k x0 x1 x2 x3 x4 → VLp P E c Q k (I x0 x1 x2 x3 x4)) → ∀ (x0 : α0) (x1 : α1) (x2 : α2) (x3 : α3) (x4 : α4), F (k + 1) x0 x1 x2 x3 x4 → VC P E c (Exit.then (Code.roundsIn E.F 0 P c Q k) Q) (I x0 x1 x2 x3 x4)) : VC P E (.loop c) Q s := by
  have key : ∀ k (x0 : α0) (x1 : α1) (x2 : α2) (x3 : α3) (x4 : α4), F k x0 x1 x2 x3 x4 → VLp P E c Q k (I x0 x1 x2 x3 x4) := by
    intro k
    induction k with
    | zero => intro x0 x1 x2 x3 x4 hf; exact absurd hf (hz x0 x1 x2 x3 x4)
    | succ k ih => intro x0 x1 x2 x3 x4 hf; exact VLp.succ (h k ih x0 x1 x2 x3 x4 hf)
  exact fun a w hi => wpIn_loop_rounds k (key k x0 x1 x2 x3 x4 hf a w (hi.le hl))
theorem VC.loop7 {E : Env} {P : Program} {Q : Exit → Act → World → Prop} {s : St} {α0 : Type} {α1 : Type} {α2 : Type} {α3 : Type} {α4 : Type} {α5 : Type} {α6 : Type} {c : Code} (I : α0 → α1 → α2 → α3 → α4 → α5 → α6 → St) (F : Nat → α0 → α1 → α2 → α3 → α4 → α5 → α6 → Prop) (k : Nat) (x0 : α0) (x1 : α1) (x2 : α2) (x3 : α3) (x4 : α4) (x5 : α5) (x6 : α6) (bs rs : List Nat) (hf : F k x0 x1 x2 x3 x4 x5 x6) (hl : Le s (I x0 x1 x2 x3 x4 x5 x6) bs rs) (hz : ∀ (x0 : α0) (x1 : α1) (x2 : α2) (x3 : α3) (x4 : α4) (x5 : α5) (x6 : α6), ¬ F 0 x0 x1 x2 x3 x4 x5 x6) (h : ∀ k, (∀ (x0 : α0) (x1 : α1) (x2 : α2) (x3 : α3) (x4 : α4) (x5 : α5) (x6 : α6), F k x0 x1 x2 x3 x4 x5 x6 → VLp P E c Q k (I x0 x1 x2 x3 x4 x5 x6)) → ∀ (x0 : α0) (x1 : α1) (x2 : α2) (x3 : α3) (x4 : α4) (x5 : α5) (x6 : α6), F (k + 1) x0 x1 x2 x3 x4 x5 x6 → VC P E c (Exit.then (Code.roundsIn E.F 0 P c Q k) Q) (I x0 x1 x2 x3 x4 x5 x6)) : VC P E (.loop c) Q s := by
  have key : ∀ k (x0 : α0) (x1 : α1) (x2 : α2) (x3 : α3) (x4 : α4) (x5 : α5) (x6 : α6), F k x0 x1 x2 x3 x4 x5 x6 → VLp P E c Q k (I x0 x1 x2 x3 x4 x5 x6) := by
    intro k
    induction k with
    | zero => intro x0 x1 x2 x3 x4 x5 x6 hf; exact absurd hf (hz x0 x1 x2 x3 x4 x5 x6)
    | succ k ih => intro x0 x1 x2 x3 x4 x5 x6 hf; exact VLp.succ (h k ih x0 x1 x2 x3 x4 x5 x6 hf)
  exact fun a w hi => wpIn_loop_rounds k (key k x0 x1 x2 x3 x4 x5 x6 hf a w (hi.le hl))
theorem VC.stop0 {E : Env} {P : Program} {Q : Exit → Act → World → Prop} {s : St}  {c1 : Code} (I : St) (F : Prop) (hx : VC P E c1 (Exit.then (fun a w => F ∧ Inv E (I) a w) Q) s) (hy : F → VN E Q (I)) : VC P E c1 Q s :=
  fun a w hi => Code.wpIn_mono (fun e a w h => by
    cases e <;> first | exact h | (obtain ⟨hf, hi⟩ := h; exact hy  hf a w hi)) (hx a w hi)
theorem VC.stop1 {E : Env} {P : Program} {Q : Exit → Act → World → Prop} {s : St} {α0 : Type} {c1 : Code} (I : α0 → St) (F : α0 → Prop) (hx : VC P E c1 (Exit.then (fun a w => ∃ (x0 : α0), F x0 ∧ Inv E (I x0) a w) Q) s) (hy : ∀ (x0 : α0), F x0 → VN E Q (I x0)) : VC P E c1 Q s :=
  fun a w hi => Code.wpIn_mono (fun e a w h => by
    cases e <;> first | exact h | (obtain ⟨x0, hf, hi⟩ := h; exact hy x0 hf a w hi)) (hx a w hi)
theorem VC.stop2 {E : Env} {P : Program} {Q : Exit → Act → World → Prop} {s : St} {α0 : Type} {α1 : Type} {c1 : Code} (I : α0 → α1 → St) (F : α0 → α1 → Prop) (hx : VC P E c1 (Exit.then (fun a w => ∃ (x0 : α0) (x1 : α1), F x0 x1 ∧ Inv E (I x0 x1) a w) Q) s) (hy : ∀ (x0 : α0) (x1 : α1), F x0 x1 → VN E Q (I x0 x1)) : VC P E c1 Q s :=
  fun a w hi => Code.wpIn_mono (fun e a w h => by
    cases e <;> first | exact h | (obtain ⟨x0, x1, hf, hi⟩ := h; exact hy x0 x1 hf a w hi)) (hx a w hi)
theorem VC.stop3 {E : Env} {P : Program} {Q : Exit → Act → World → Prop} {s : St} {α0 : Type} {α1 : Type} {α2 : Type} {c1 : Code} (I : α0 → α1 → α2 → St) (F : α0 → α1 → α2 → Prop) (hx : VC P E c1 (Exit.then (fun a w => ∃ (x0 : α0) (x1 : α1) (x2 : α2), F x0 x1 x2 ∧ Inv E (I x0 x1 x2) a w) Q) s) (hy : ∀ (x0 : α0) (x1 : α1) (x2 : α2), F x0 x1 x2 → VN E Q (I x0 x1 x2)) : VC P E c1 Q s :=
  fun a w hi => Code.wpIn_mono (fun e a w h => by
    cases e <;> first | exact h | (obtain ⟨x0, x1, x2, hf, hi⟩ := h; exact hy x0 x1 x2 hf a w hi)) (hx a w hi)
theorem VC.stop4 {E : Env} {P : Program} {Q : Exit → Act → World → Prop} {s : St} {α0 : Type} {α1 : Type} {α2 : Type} {α3 : Type} {c1 : Code} (I : α0 → α1 → α2 → α3 → St) (F : α0 → α1 → α2 → α3 → Prop) (hx : VC P E c1 (Exit.then (fun a w => ∃ (x0 : α0) (x1 : α1) (x2 : α2) (x3 : α3), F x0 x1 x2 x3 ∧ Inv E (I x0 x1 x2 x3) a w) Q) s) (hy : ∀ (x0 : α0) (x1 : α1) (x2 : α2) (x3 : α3), F x0 x1 x2 x3 → VN E Q (I x0 x1 x2 x3)) : VC P E c1 Q s :=
  fun a w hi => Code.wpIn_mono (fun e a w h => by
    cases e <;> first | exact h | (obtain ⟨x0, x1, x2, x3, hf, hi⟩ := h; exact hy x0 x1 x2 x3 hf a w hi)) (hx a w hi)
theorem VC.stop6 {E : Env} {P : Program} {Q : Exit → Act → World → Prop} {s : St} {α0 : Type} {α1 : Type} {α2 : Type} {α3 : Type} {α4 : Type} {α5 : Type} {c1 : Code} (I : α0 → α1 → α2 → α3 → α4 → α5 → St) (F : α0 → α1 → α2 → α3 → α4 → α5 → Prop) (hx : VC P E c1 (Exit.then (fun a w => ∃ (x0 : α0) (x1 : α1) (x2 : α2) (x3 : α3) (x4 : α4) (x5 : α5), F x0 x1 x2 x3 x4 x5 ∧ Inv E (I x0 x1 x2 x3 x4 x5) a w) Q) s) (hy : ∀ (x0 : α0) (x1 : α1) (x2 : α2) (x3 : α3) (x4 : α4) (x5 : α5), F x0 x1 x2 x3 x4 x5 → VN E Q (I x0 x1 x2 x3 x4 x5)) : VC P E c1 Q s :=
  fun a w hi => Code.wpIn_mono (fun e a w h => by
    cases e <;> first | exact h | (obtain ⟨x0, x1, x2, x3, x4, x5, hf, hi⟩ := h; exact hy x0 x1 x2 x3 x4 x5 hf a w hi)) (hx a w hi)
theorem Z24 : (Try.prog.info? 24).bind (·.zero) = some (.agg #[.slice none 0 0, .int .i64 0]) := by kernel_rfl
theorem ZL24 : (.agg #[.slice none 0 0, .int .i64 0] : Value).cells.toList = [.slice none 0 0, .int .i64 0] := rfl
theorem MK3 : KeyOk Try.prog 3 mI := keyI Try.underlying3
theorem TI26 : TI Try.prog 26 true 6 := ⟨⟨_, Try.underlying26, rfl⟩, by kernel_rfl⟩
theorem Z26 : (Try.prog.info? 26).bind (·.zero) = some (.agg #[.int .i64 0, .bool false, .int .i64 0, .int .i64 0, .int .i64 0, .bool false]) := by kernel_rfl
theorem ZL26 : (.agg #[.int .i64 0, .bool false, .int .i64 0, .int .i64 0, .int .i64 0, .bool false] : Value).cells.toList = [.int .i64 0, .bool false, .int .i64 0, .int .i64 0, .int .i64 0, .bool false] := rfl
theorem TI24 : TI Try.prog 24 true 2 := ⟨⟨_, Try.underlying24, rfl⟩, by kernel_rfl⟩
theorem TI22 : TI Try.prog 22 false 1 := ⟨⟨_, Try.underlying22, rfl⟩, by kernel_rfl⟩
theorem FI24_0 : FI Try.prog 24 0 0 1 := ⟨_, _, _, Try.underlying24, rfl, rfl, TI22⟩
theorem TI3 : TI Try.prog 3 false 1 := ⟨⟨_, Try.underlying3, rfl⟩, by kernel_rfl⟩
theorem FI26_2 : FI Try.prog 26 2 2 1 := ⟨_, _, _, Try.underlying26, rfl, rfl, TI3⟩
theorem FO19 : FOk Try.prog 19 := ⟨_, Try.func19, by kernel_rfl, by kernel_rfl⟩
theorem FI26_4 : FI Try.prog 26 4 4 1 := ⟨_, _, _, Try.underlying26, rfl, rfl, TI3⟩
theorem FI26_3 : FI Try.prog 26 3 3 1 := ⟨_, _, _, Try.underlying26, rfl, rfl, TI3⟩
theorem TI4 : TI Try.prog 4 false 1 := ⟨⟨_, Try.underlying4, rfl⟩, by kernel_rfl⟩
theorem FI26_5 : FI Try.prog 26 5 5 1 := ⟨_, _, _, Try.underlying26, rfl, rfl, TI4⟩
theorem FI26_1 : FI Try.prog 26 1 1 1 := ⟨_, _, _, Try.underlying26, rfl, rfl, TI4⟩
theorem FO16 : FOk Try.prog 16 := ⟨_, Try.func16, by kernel_rfl, by kernel_rfl⟩
theorem FI26_0 : FI Try.prog 26 0 0 1 := ⟨_, _, _, Try.underlying26, rfl, rfl, TI3⟩
theorem FI24_1 : FI Try.prog 24 1 1 1 := ⟨_, _, _, Try.underlying24, rfl, rfl, TI3⟩
theorem FO11 : FOk Try.prog 11 := ⟨_, Try.func11, by kernel_rfl, by kernel_rfl⟩
theorem SI24 : SI Try.prog 24 [.slice none 0 0, .int .i64 0] [(0, 1), (1, 1)] := ⟨⟨_, Try.underlying24, (.cons ⟨rfl, _, TI22⟩ (.cons ⟨rfl, _, TI3⟩ .nil))⟩, Z24⟩
theorem EI26 : EI Try.prog 26 6 48 := ei_of (z := .agg #[.int .i64 0, .bool false, .int .i64 0, .int .i64 0, .int .i64 0, .bool false]) (by kernel_rfl) rfl (by decide) (by decide)
theorem FO17 : FOk Try.prog 17 := ⟨_, Try.func17, by kernel_rfl, by kernel_rfl⟩
theorem FO7 : FOk Try.prog 7 := ⟨_, Try.func7, by kernel_rfl, by kernel_rfl⟩
theorem FO18 : FOk Try.prog 18 := ⟨_, Try.func18, by kernel_rfl, by kernel_rfl⟩
theorem FO14 : FOk Try.prog 14 := ⟨_, Try.func14, by kernel_rfl, by kernel_rfl⟩
theorem Z3 : (Try.prog.info? 3).bind (·.zero) = some (.int .i64 0) := by kernel_rfl
theorem SI26 : SI Try.prog 26 [.int .i64 0, .bool false, .int .i64 0, .int .i64 0, .int .i64 0, .bool false] [(0, 1), (1, 1), (2, 1), (3, 1), (4, 1), (5, 1)] := ⟨⟨_, Try.underlying26, (.cons ⟨rfl, _, TI3⟩ (.cons ⟨rfl, _, TI4⟩ (.cons ⟨rfl, _, TI3⟩ (.cons ⟨rfl, _, TI3⟩ (.cons ⟨rfl, _, TI3⟩ (.cons ⟨rfl, _, TI4⟩ .nil))))))⟩, Z26⟩
theorem FO8 : FOk Try.prog 8 := ⟨_, Try.func8, by kernel_rfl, by kernel_rfl⟩
theorem EQ26 (a0 : Int) (a1 : Bool) (a2 : Int) (a3 : Int) (a4 : Int) (a5 : Bool) (b0 : Int) (b1 : Bool) (b2 : Int) (b3 : Int) (b4 : Int) (b5 : Bool) : EqV Try.prog 10000 26 (.agg #[.int .i64 a0, .bool a1, .int .i64 a2, .int .i64 a3, .int .i64 a4, .bool a5]) (.agg #[.int .i64 b0, .bool b1, .int .i64 b2, .int .i64 b3, .int .i64 b4, .bool b5]) ((a0 == b0) && ((a1 == b1) && ((a2 == b2) && ((a3 == b3) && ((a4 == b4) && (a5 == b5)))))) := (.struct Try.underlying26 (by kernel_rfl) (.cons (by decide) TI3 (fun _ => rfl) rfl rfl rfl rfl (.int Try.underlying3) (.cons (by decide) TI4 (fun _ => rfl) rfl rfl rfl rfl (.bool Try.underlying4) (.cons (by decide) TI3 (fun _ => rfl) rfl rfl rfl rfl (.int Try.underlying3) (.cons (by decide) TI3 (fun _ => rfl) rfl rfl rfl rfl (.int Try.underlying3) (.cons (by decide) TI3 (fun _ => rfl) rfl rfl rfl rfl (.int Try.underlying3) (.one (by decide) TI4 (fun _ => rfl) rfl rfl rfl rfl (.bool Try.underlying4))))))))
theorem EG26 : Try.prog.eqGuardType Try.prog.depth 26 = false := by kernel_rfl
theorem FO9 : FOk Try.prog 9 := ⟨_, Try.func9, by kernel_rfl, by kernel_rfl⟩
theorem FO10 : FOk Try.prog 10 := ⟨_, Try.func10, by kernel_rfl, by kernel_rfl⟩
theorem FO13 : FOk Try.prog 13 := ⟨_, Try.func13, by kernel_rfl, by kernel_rfl⟩
def net_number.f (a0 : Int) : Option (Bool) := (if a0 ≥ 1 then (some (decide (a0 ≤ 1099511627776))) else (some false))
def net_may.f (a0_0 : Int) (a0_1 : Bool) (a0_2 : Int) (a0_3 : Int) (a0_4 : Int) (a0_5 : Bool) : Option (Bool) := ((net_number.f a0_2).bind fun t45 => (if t45 = true then ((net_number.f a0_4).bind fun t48 => (if t48 = true then (if a0_3 ≥ 1 then (if a0_3 ≤ 3 then (if a0_5 = true then (if a0_1 = true then (some (a0_3 == 3)) else (some false)) else (some true)) else (some false)) else (some false)) else (some false))) else (some false)))
def net_Right.l1 (k : Nat) (a0_1 : Int) (l0_0 : List S25) : Nat → Int → Option (Bool)
  | 0, _ => none
  | ml1 + 1, i204 => (if i204 < (l0_0.length : Int) then (if 0 ≤ i204 then ((l0_0[i204.toNat]?).bind fun x276 => ((net_may.f x276.f0 x276.f1 x276.f2 x276.f3 x276.f4 x276.f5).bind fun t286 => (if t286 = true then (if x276.f0 < 1 then (some false) else (if x276.f0 > a0_1 then (some false) else (net_Right.l1 k a0_1 l0_0 ml1 (wrap64 (i204 + 1))))) else (some false)))) else none) else (if (l0_0.length : Int) ≤ 64 then (if a0_1 ≥ 0 then (some (decide (a0_1 ≤ 1099511627776))) else (some false)) else (some false)))
def net_Right.f (k : Nat) (l0_0 : List S25) (a0_1 : Int) : Option (Bool) := (net_Right.l1 k a0_1 l0_0 k 0)
def net_behind.f (l0 : List S25) (l1 : List S25) : Option (List S25) := (if (l0.length + l1.length) * 48 ≤ 140737488355328 then (some (l0 ++ l1)) else none)
def net_Post.f (k : Nat) (l0_0 : List S25) (a0_1 : Int) (a1_0 : Int) (a1_1 : Bool) (a1_2 : Int) (a1_3 : Int) (a1_4 : Int) (a1_5 : Bool) : Option (List S25 × Int × Int × Int) := ((net_Right.f k l0_0 a0_1).bind fun t400 => (if t400 = true then ((net_may.f a1_0 a1_1 a1_2 a1_3 a1_4 a1_5).bind fun t403 => (if t403 = true then (if (l0_0.length : Int) = 64 then (some (([] : List S25), 0, 0, 7)) else (if a0_1 = 1099511627776 then (some (([] : List S25), 0, 0, 7)) else ((net_behind.f l0_0 ([(⟨wrap64 (a0_1 + 1), a1_1, a1_2, a1_3, a1_4, a1_5⟩ : S25)] : List S25)).bind fun r417 => (some (r417, wrap64 (a0_1 + 1), wrap64 (a0_1 + 1), 0))))) else (some (([] : List S25), 0, 0, 1)))) else (some (([] : List S25), 0, 0, 1))))
def tarrylaw15_in.f (a0 : Int) : Option (Bool) := (if a0 ≥ 1 then (some (decide (a0 ≤ 1099511627776))) else (some false))
def tarrylaw15_may.f (a0_0 : Int) (a0_1 : Bool) (a0_2 : Int) (a0_3 : Int) (a0_4 : Int) (a0_5 : Bool) : Option (Bool) := (if a0_5 = true then (if a0_1 = true then (if a0_3 = 3 then ((tarrylaw15_in.f a0_2).bind fun t464 => (if t464 = true then ((tarrylaw15_in.f a0_4).bind fun t467 => (if t467 = true then (if a0_3 ≥ 1 then (some (decide (a0_3 ≤ 3))) else (some false)) else (some false))) else (some false))) else (some false)) else (some false)) else ((tarrylaw15_in.f a0_2).bind fun t482 => (if t482 = true then ((tarrylaw15_in.f a0_4).bind fun t485 => (if t485 = true then (if a0_3 ≥ 1 then (some (decide (a0_3 ≤ 3))) else (some false)) else (some false))) else (some false))))
def net_Take.f (k : Nat) (l0_0 : List S25) (a0_1 : Int) (a1 : Int) : Option (List S25 × Int × Int × Bool × Int × Int × Int × Bool × Int) := ((net_Right.f k l0_0 a0_1).bind fun t1021 => (if t1021 = true then (if a1 < 0 then (some (([] : List S25), 0, 0, false, 0, 0, 0, false, 8)) else (if a1 ≥ (l0_0.length : Int) then (some (([] : List S25), 0, 0, false, 0, 0, 0, false, 8)) else (if 0 ≤ a1 then ((l0_0[a1.toNat]?).bind fun x1034 => (if a1 ≤ (l0_0.length : Int) then (if 0 ≤ wrap64 (a1 + 1) then (if (wrap64 (a1 + 1)) ≤ (l0_0.length : Int) then ((net_behind.f ((l0_0.take a1.toNat).drop 0) ((l0_0.take l0_0.length).drop ((wrap64 (a1 + 1)).toNat))).bind fun r1045 => (some (r1045, a0_1, x1034.f0, x1034.f1, x1034.f2, x1034.f3, x1034.f4, x1034.f5, 0))) else none) else none) else none)) else none))) else (some (([] : List S25), 0, 0, false, 0, 0, 0, false, 1))))
def net_Twice.f (k : Nat) (l0_0 : List S25) (a0_1 : Int) (a1 : Int) : Option (List S25 × Int × Int) := ((net_Take.f k l0_0 a0_1 a1).bind fun ⟨r1129, t1130, t1131, t1132, t1133, t1134, t1135, t1136, t1137⟩ => (if t1137 = 0 then (if (l0_0.length : Int) = 64 then (some (([] : List S25), 0, 7)) else ((net_behind.f l0_0 ([(⟨t1131, t1132, t1133, t1134, t1135, t1136⟩ : S25)] : List S25)).bind fun r1156 => (some (r1156, a0_1, 0)))) else (some (([] : List S25), 0, t1137))))
def net_Last.f (k : Nat) (l0_0 : List S25) (a0_1 : Int) (a1 : Int) : Option (List S25 × Int × Int) := ((net_Take.f k l0_0 a0_1 a1).bind fun ⟨r1216, t1217, t1218, t1219, t1220, t1221, t1222, t1223, t1224⟩ => (if t1224 = 0 then ((net_behind.f r1216 ([(⟨t1218, t1219, t1220, t1221, t1222, t1223⟩ : S25)] : List S25)).bind fun r1236 => (some (r1236, t1217, 0))) else (some (([] : List S25), 0, t1224))))
def tarrylaw15_alive.f (k : Nat)  : Option (Bool) := ((net_Post.f k [] 0 0 false 5 1 7 false).bind fun ⟨r2781, t2782, t2783, t2784⟩ => ((net_Take.f k r2781 t2782 0).bind fun ⟨r2789, t2790, t2791, t2792, t2793, t2794, t2795, t2796, t2797⟩ => (if t2784 = 0 then (if t2797 = 0 then (if t2783 = 1 then (some (((t2791 == 1) && ((t2792 == false) && ((t2793 == 5) && ((t2794 == 1) && ((t2795 == 7) && (t2796 == false)))))))) else (some false)) else (some false)) else (some false))))
def tarrylaw15_NetOnce.b997 (k : Nat)  (i42792 : Int) (i42793 : Int) : Option Unit := (if i42793 = 0 then (some ()) else none)
def tarrylaw15_NetOnce.l993 (k : Nat) (i42686 : Int) (l42685 : List S25) : Nat → Int → (List (Int × Int)) → Option (Bool)
  | 0, _, _ => none
  | ml993 + 1, i42720, mp42721 => (if i42720 < (l42685.length : Int) then (if 0 ≤ i42720 then ((l42685[i42720.toNat]?).bind fun x42774 => (tarrylaw15_NetOnce.l993 k i42686 l42685 ml993 (wrap64 (i42720 + 1)) (mset mp42721 x42774.f0 (wrap64 ((mget mp42721 x42774.f0 0) - 1))))) else none) else (if (mp42721.all fun z => (tarrylaw15_NetOnce.b997 k z.1 z.2).isSome) = true then ((tarrylaw15_alive.f k).bind fun t42811 => (if t42811 = true then ((net_Right.f k l42685 i42686).bind fun t42814 => (some t42814)) else none)) else none))
def tarrylaw15_NetOnce.j988 (k : Nat) (l42685 : List S25) (i42686 : Int) (mp42687 : List (Int × Int)) : Option (Bool) := (tarrylaw15_NetOnce.l993 k i42686 l42685 k 0 mp42687)
def tarrylaw15_NetOnce.j991 (k : Nat) (rec_l989 : Int → (List S25) → Int → (List (Int × Int)) → Option (Bool)) (i41895 : Int) (i41899 : Int) (l36917 : List S25) (l41898 : List S25) (mp41900 : List (Int × Int)) (x42490 : Int) (q42596 : Bool) (q42597 : Bool) (q42598 : Bool) : Option (Bool) := (if q42598 = true then (tarrylaw15_NetOnce.j988 k l41898 i41899 mp41900) else (if (l41898.length : Int) ≠ 0 then (if 0 ≤ (wrap64 (((IntKind.i64.wrap (x42490.tdiv 3)).tmod (l41898.length : Int)) + (l41898.length : Int))).tmod (l41898.length : Int) then ((l41898[((wrap64 (((IntKind.i64.wrap (x42490.tdiv 3)).tmod (l41898.length : Int)) + (l41898.length : Int))).tmod (l41898.length : Int)).toNat]?).bind fun x42602 => (if ((wrap64 ((x42490.tmod 3) + 3)).tmod 3) = 0 then ((net_Take.f k l41898 i41899 ((wrap64 (((IntKind.i64.wrap (x42490.tdiv 3)).tmod (l41898.length : Int)) + (l41898.length : Int))).tmod (l41898.length : Int))).bind fun ⟨r42607, t42608, t42609, t42610, t42611, t42612, t42613, t42614, t42615⟩ => (if t42615 = 0 then (if x42602.f0 < 1 then none else (if x42602.f0 > (l36917.length : Int) then none else (if 0 ≤ wrap64 (x42602.f0 - 1) then ((l36917[(wrap64 (x42602.f0 - 1)).toNat]?).bind fun x42640 => (if (((t42609 == x42640.f0) && ((t42610 == x42640.f1) && ((t42611 == x42640.f2) && ((t42612 == x42640.f3) && ((t42613 == x42640.f4) && (t42614 == x42640.f5))))))) = true then (if (mget mp41900 x42602.f0 0) < 1 then none else (rec_l989 (wrap64 (i41895 + 1)) r42607 t42608 (mset mp41900 x42602.f0 (wrap64 ((mget mp41900 x42602.f0 0) - 1))))) else none)) else none))) else none)) else (if ((wrap64 ((x42490.tmod 3) + 3)).tmod 3) = 1 then ((net_Twice.f k l41898 i41899 ((wrap64 (((IntKind.i64.wrap (x42490.tdiv 3)).tmod (l41898.length : Int)) + (l41898.length : Int))).tmod (l41898.length : Int))).bind fun ⟨r42647, t42648, t42649⟩ => (if t42649 = 0 then (if t42649 = 0 then (rec_l989 (wrap64 (i41895 + 1)) r42647 t42648 (mset mp41900 x42602.f0 (wrap64 ((mget mp41900 x42602.f0 0) + 1)))) else (rec_l989 (wrap64 (i41895 + 1)) l41898 i41899 mp41900)) else (if t42649 = 7 then (if t42649 = 0 then (rec_l989 (wrap64 (i41895 + 1)) r42647 t42648 (mset mp41900 x42602.f0 (wrap64 ((mget mp41900 x42602.f0 0) + 1)))) else (rec_l989 (wrap64 (i41895 + 1)) l41898 i41899 mp41900)) else none))) else ((net_Last.f k l41898 i41899 ((wrap64 (((IntKind.i64.wrap (x42490.tdiv 3)).tmod (l41898.length : Int)) + (l41898.length : Int))).tmod (l41898.length : Int))).bind fun ⟨r42672, t42673, t42674⟩ => (if t42674 = 0 then (rec_l989 (wrap64 (i41895 + 1)) r42672 t42673 mp41900) else none))))) else none) else none))
def tarrylaw15_NetOnce.l989 (k : Nat) (l1 : List Int) (l36917 : List S25) : Nat → Int → (List S25) → Int → (List (Int × Int)) → Option (Bool)
  | 0, _, _, _, _ => none
  | ml989 + 1, i41895, l41898, i41899, mp41900 => (if i41895 < (l1.length : Int) then (if 0 ≤ i41895 then ((l1[i41895.toNat]?).bind fun x42490 => (if i41895 ≥ 40 then (tarrylaw15_NetOnce.j991 k (tarrylaw15_NetOnce.l989 k l1 l36917 ml989) i41895 i41899 l36917 l41898 mp41900 x42490 true true true) else (tarrylaw15_NetOnce.j991 k (tarrylaw15_NetOnce.l989 k l1 l36917 ml989) i41895 i41899 l36917 l41898 mp41900 x42490 false false ((l41898.length : Int) == 0)))) else none) else (tarrylaw15_NetOnce.j988 k l41898 i41899 mp41900))
def tarrylaw15_NetOnce.j854 (k : Nat) (l1 : List Int) (l36917 : List S25) (l36920 : List S25) (i36921 : Int) (mp36922 : List (Int × Int)) : Option (Bool) := (tarrylaw15_NetOnce.l989 k l1 l36917 k 0 l36920 i36921 mp36922)
def tarrylaw15_NetOnce.l855 (k : Nat) (l0 : List S25) (l1 : List Int) : Nat → (List S25) → Int → (List S25) → Int → (List (Int × Int)) → Option (Bool)
  | 0, _, _, _, _, _ => none
  | ml855 + 1, l36732, i36734, l36737, i36739, mp36740 => (if i36734 < (l0.length : Int) then (if 0 ≤ i36734 then ((l0[i36734.toNat]?).bind fun x36874 => (if i36734 ≥ 20 then (tarrylaw15_NetOnce.j854 k l1 l36732 l36737 i36739 mp36740) else ((net_Post.f k l36737 i36739 x36874.f0 x36874.f1 x36874.f2 x36874.f3 x36874.f4 x36874.f5).bind fun ⟨r36882, t36883, t36884, t36885⟩ => (if t36885 = 0 then (if t36884 = (wrap64 ((l36732.length : Int) + 1)) then (if (l36732.length + ([(⟨t36884, x36874.f1, x36874.f2, x36874.f3, x36874.f4, x36874.f5⟩ : S25)] : List S25).length) * 48 ≤ 140737488355328 then (tarrylaw15_NetOnce.l855 k l0 l1 ml855 (l36732 ++ ([(⟨t36884, x36874.f1, x36874.f2, x36874.f3, x36874.f4, x36874.f5⟩ : S25)] : List S25)) (wrap64 (i36734 + 1)) r36882 t36883 (mset mp36740 t36884 (wrap64 ((mget mp36740 t36884 0) + 1)))) else none) else none) else ((tarrylaw15_may.f x36874.f0 x36874.f1 x36874.f2 x36874.f3 x36874.f4 x36874.f5).bind fun t36912 => (if t36912 = true then none else (tarrylaw15_NetOnce.l855 k l0 l1 ml855 l36732 (wrap64 (i36734 + 1)) l36737 i36739 mp36740))))))) else none) else (tarrylaw15_NetOnce.j854 k l1 l36732 l36737 i36739 mp36740))
def tarrylaw15_NetOnce.f (k : Nat) (l0 : List S25) (l1 : List Int) : Option (Bool) := (tarrylaw15_NetOnce.l855 k l0 l1 k ([] : List S25) 0 ([] : List S25) 0 ([] : List (Int × Int)))
/-- THE ONE PURE STATEMENT. -/
def tarrylaw15_NetOnce.Pure : Prop := ∀ (l0 : List S25) (l1 : List Int), allOk ok25 l0 → allOk (fun x : Int => (Lit.int .i64 x).wf = true) l1 → ∃ k, tarrylaw15_NetOnce.f k l0 l1 = some true

end Go.Proofs.Ytjghhdnecilcfaa.PNetOnce
