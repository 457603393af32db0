/- Written by a program of this repo: what the program's functions do, each as a Lean function, shown of the loaded code; or a statement's row over that; no condition of its own. -/
import Derived.Test.YtacenfolbmdpoaaProg
import Derived.Test.YtacenfolbmdpoaaV20
import Derived.Test.YtacenfolbmdpoaaV22
namespace Go.Proofs.Ytacenfolbmdpoaa.PPackRows
open Go Go.RowKit Go.Proofs.YtacenfolbmdpoaaV
set_option linter.unusedVariables false
set_option linter.unusedSimpArgs false

def enc_str (x : ByteArray) : List Value := [.string x]
theorem enc_str_ok (a : ByteArray) : (enc_str a).length = 1 ∧ ∀ u ∈ enc_str a, u.oneCell' = true := ⟨rfl, by intro u hu; simp only [enc_str, List.mem_cons, List.not_mem_nil, or_false] at hu; rcases hu with rfl; rfl⟩
def enc_intu8 (x : Int) : List Value := [.int .u8 x]
theorem enc_intu8_ok (a : Int) : (enc_intu8 a).length = 1 ∧ ∀ u ∈ enc_intu8 a, u.oneCell' = true := ⟨rfl, by intro u hu; simp only [enc_intu8, List.mem_cons, List.not_mem_nil, or_false] at hu; rcases hu with rfl; rfl⟩
theorem VC.join0 {E : Env} {P : Program} {Q : Exit → Act → World → Prop} {s : St}  {c1 c2 : Code} (I : St) (F : Prop) (hx : VC P E c1 (Exit.then (fun a w => F ∧ Inv E (I) a w) Q) s) (hy : F → VC P E c2 Q (I)) : VC P E (.seq c1 c2) Q s :=
  fun a w hi => wpIn_seq (Code.wpIn_mono (fun e a w h => by
    cases e <;> first | exact h | (obtain ⟨hf, hi⟩ := h; exact hy  hf a w hi)) (hx a w hi))
theorem VN.meet0 {E : Env} {Q : Exit → Act → World → Prop} {s : St}  {I : St} {F : Prop}  (bs rs : List Nat) (hf : F) (hl : Le s (I) bs rs) : VN E (Exit.then (fun a w => F ∧ Inv E (I) a w) Q) s :=
  fun a w hi => ⟨hf, hi.le hl⟩
theorem VC.join1 {E : Env} {P : Program} {Q : Exit → Act → World → Prop} {s : St} {α0 : Type} {c1 c2 : Code} (I : α0 → St) (F : α0 → Prop) (hx : VC P E c1 (Exit.then (fun a w => ∃ (x0 : α0), F x0 ∧ Inv E (I x0) a w) Q) s) (hy : ∀ (x0 : α0), F x0 → VC P E c2 Q (I x0)) : VC P E (.seq c1 c2) Q s :=
  fun a w hi => wpIn_seq (Code.wpIn_mono (fun e a w h => by
    cases e <;> first | exact h | (obtain ⟨x0, hf, hi⟩ := h; exact hy x0 hf a w hi)) (hx a w hi))
theorem VN.meet1 {E : Env} {Q : Exit → Act → World → Prop} {s : St} {α0 : Type} {I : α0 → St} {F : α0 → Prop} (x0 : α0) (bs rs : List Nat) (hf : F x0) (hl : Le s (I x0) bs rs) : VN E (Exit.then (fun a w => ∃ (x0 : α0), F x0 ∧ Inv E (I x0) a w) Q) s :=
  fun a w hi => ⟨x0, hf, hi.le hl⟩
theorem VC.join2 {E : Env} {P : Program} {Q : Exit → Act → World → Prop} {s : St} {α0 : Type} {α1 : Type} {c1 c2 : Code} (I : α0 → α1 → St) (F : α0 → α1 → Prop) (hx : VC P E c1 (Exit.then (fun a w => ∃ (x0 : α0) (x1 : α1), F x0 x1 ∧ Inv E (I x0 x1) a w) Q) s) (hy : ∀ (x0 : α0) (x1 : α1), F x0 x1 → VC P E c2 Q (I x0 x1)) : VC P E (.seq c1 c2) Q s :=
  fun a w hi => wpIn_seq (Code.wpIn_mono (fun e a w h => by
    cases e <;> first | exact h | (obtain ⟨x0, x1, hf, hi⟩ := h; exact hy x0 x1 hf a w hi)) (hx a w hi))
theorem VN.meet2 {E : Env} {Q : Exit → Act → World → Prop} {s : St} {α0 : Type} {α1 : Type} {I : α0 → α1 → St} {F : α0 → α1 → Prop} (x0 : α0) (x1 : α1) (bs rs : List Nat) (hf : F x0 x1) (hl : Le s (I x0 x1) bs rs) : VN E (Exit.then (fun a w => ∃ (x0 : α0) (x1 : α1), F x0 x1 ∧ Inv E (I x0 x1) a w) Q) s :=
  fun a w hi => ⟨x0, x1, hf, hi.le hl⟩
theorem VC.join3 {E : Env} {P : Program} {Q : Exit → Act → World → Prop} {s : St} {α0 : Type} {α1 : Type} {α2 : Type} {c1 c2 : Code} (I : α0 → α1 → α2 → St) (F : α0 → α1 → α2 → Prop) (hx : VC P E c1 (Exit.then (fun a w => ∃ (x0 : α0) (x1 : α1) (x2 : α2), F x0 x1 x2 ∧ Inv E (I x0 x1 x2) a w) Q) s) (hy : ∀ (x0 : α0) (x1 : α1) (x2 : α2), F x0 x1 x2 → VC P E c2 Q (I x0 x1 x2)) : VC P E (.seq c1 c2) Q s :=
  fun a w hi => wpIn_seq (Code.wpIn_mono (fun e a w h => by
    cases e <;> first | exact h | (obtain ⟨x0, x1, x2, hf, hi⟩ := h; exact hy x0 x1 x2 hf a w hi)) (hx a w hi))
theorem VN.meet3 {E : Env} {Q : Exit → Act → World → Prop} {s : St} {α0 : Type} {α1 : Type} {α2 : Type} {I : α0 → α1 → α2 → St} {F : α0 → α1 → α2 → Prop} (x0 : α0) (x1 : α1) (x2 : α2) (bs rs : List Nat) (hf : F x0 x1 x2) (hl : Le s (I x0 x1 x2) bs rs) : VN E (Exit.then (fun a w => ∃ (x0 : α0) (x1 : α1) (x2 : α2), F x0 x1 x2 ∧ Inv E (I x0 x1 x2) a w) Q) s :=
  fun a w hi => ⟨x0, x1, x2, hf, hi.le hl⟩
theorem VC.loop1 {E : Env} {P : Program} {Q : Exit → Act → World → Prop} {s : St} {α0 : Type} {c : Code} (I : α0 → St) (F : Nat → α0 → Prop) (k : Nat) (x0 : α0) (bs rs : List Nat) (hf : F k x0) (hl : Le s (I x0) bs rs) (hz : ∀ (x0 : α0), ¬ F 0 x0) (h : ∀ k, (∀ (x0 : α0), F k x0 → VLp P E c Q k (I x0)) → ∀ (x0 : α0), F (k + 1) x0 → VC P E c (Exit.then (Code.roundsIn E.F 0 P c Q k) Q) (I x0)) : VC P E (.loop c) Q s := by
  have key : ∀ k (x0 : α0), F k x0 → VLp P E c Q k (I x0) := by
    intro k
    induction k with
    | zero => intro x0 hf; exact absurd hf (hz x0)
    | succ k ih => intro x0 hf; exact VLp.succ (h k ih x0 hf)
  exact fun a w hi => wpIn_loop_rounds k (key k x0 hf a w (hi.le hl))
theorem VC.loop2 {E : Env} {P : Program} {Q : Exit → Act → World → Prop} {s : St} {α0 : Type} {α1 : Type} {c : Code} (I : α0 → α1 → St) (F : Nat → α0 → α1 → Prop) (k : Nat) (x0 : α0) (x1 : α1) (bs rs : List Nat) (hf : F k x0 x1) (hl : Le s (I x0 x1) bs rs) (hz : ∀ (x0 : α0) (x1 : α1), ¬ F 0 x0 x1) (h : ∀ k, (∀ (x0 : α0) (x1 : α1), F k x0 x1 → VLp P E c Q k (I x0 x1)) → ∀ (x0 : α0) (x1 : α1), F (k + 1) x0 x1 → VC P E c (Exit.then (Code.roundsIn E.F 0 P c Q k) Q) (I x0 x1)) : VC P E (.loop c) Q s := by
  have key : ∀ k (x0 : α0) (x1 : α1), F k x0 x1 → VLp P E c Q k (I x0 x1) := by
    intro k
    induction k with
    | zero => intro x0 x1 hf; exact absurd hf (hz x0 x1)
    | succ k ih => intro x0 x1 hf; exact VLp.succ (h k ih x0 x1 hf)
  exact fun a w hi => wpIn_loop_rounds k (key k x0 x1 hf a w (hi.le hl))
theorem VC.loop3 {E : Env} {P : Program} {Q : Exit → Act → World → Prop} {s : St} {α0 : Type} {α1 : Type} {α2 : Type} {c : Code} (I : α0 → α1 → α2 → St) (F : Nat → α0 → α1 → α2 → Prop) (k : Nat) (x0 : α0) (x1 : α1) (x2 : α2) (bs rs : List Nat) (hf : F k x0 x1 x2) (hl : Le s (I x0 x1 x2) bs rs) (hz : ∀ (x0 : α0) (x1 : α1) (x2 : α2), ¬ F 0 x0 x1 x2) (h : ∀ k, (∀ (x0 : α0) (x1 : α1) (x2 : α2), F k x0 x1 x2 → VLp P E c Q k (I x0 x1 x2)) → ∀ (x0 : α0) (x1 : α1) (x2 : α2), F (k + 1) x0 x1 x2 → VC P E c (Exit.then (Code.roundsIn E.F 0 P c Q k) Q) (I x0 x1 x2)) : VC P E (.loop c) Q s := by
  have key : ∀ k (x0 : α0) (x1 : α1) (x2 : α2), F k x0 x1 x2 → VLp P E c Q k (I x0 x1 x2) := by
    intro k
    induction k with
    | zero => intro x0 x1 x2 hf; exact absurd hf (hz x0 x1 x2)
    | succ k ih => intro x0 x1 x2 hf; exact VLp.succ (h k ih x0 x1 x2 hf)
  exact fun a w hi => wpIn_loop_rounds k (key k x0 x1 x2 hf a w (hi.le hl))
theorem VC.loop4 {E : Env} {P : Program} {Q : Exit → Act → World → Prop} {s : St} {α0 : Type} {α1 : Type} {α2 : Type} {α3 : Type} {c : Code} (I : α0 → α1 → α2 → α3 → St) (F : Nat → α0 → α1 → α2 → α3 → Prop) (k : Nat) (x0 : α0) (x1 : α1) (x2 : α2) (x3 : α3) (bs rs : List Nat) (hf : F k x0 x1 x2 x3) (hl : Le s (I x0 x1 x2 x3) bs rs) (hz : ∀ (x0 : α0) (x1 : α1) (x2 : α2) (x3 : α3), ¬ F 0 x0 x1 x2 x3) (h : ∀ k, (∀ (x0 : α0) (x1 : α1) (x2 : α2) (x3 : α3), F k x0 x1 x2 x3 → VLp P E c Q k (I x0 x1 x2 x3)) → ∀ (x0 : α0) (x1 : α1) (x2 : α2) (x3 : α3), F (k + 1) x0 x1 x2 x3 → VC P E c (Exit.then (Code.roundsIn E.F 0 P c Q k) Q) (I x0 x1 x2 x3)) : VC P E (.loop c) Q s := by
  have key : ∀ k (x0 : α0) (x1 : α1) (x2 : α2) (x3 : α3), F k x0 x1 x2 x3 → VLp P E c Q k (I x0 x1 x2 x3) := by
    intro k
    induction k with
    | zero => intro x0 x1 x2 x3 hf; exact absurd hf (hz x0 x1 x2 x3)
    | succ k ih => intro x0 x1 x2 x3 hf; exact VLp.succ (h k ih x0 x1 x2 x3 hf)
  exact fun a w hi => wpIn_loop_rounds k (key k x0 x1 x2 x3 hf a w (hi.le hl))
theorem VC.loop7 {E : Env} {P : Program} {Q : Exit → Act → World → Prop} {s : St} {α0 : Type} {α1 : Type} {α2 : Type} {α3 : Type} {α4 : Type} {α5 : Type} {α6 : Type} {c : Code} (I : α0 → α1 → α2 → α3 → α4 → α5 → α6 → St) (F : Nat → α0 → α1 → α2 → α3 → α4 → α5 → α6 → Prop) (k : Nat) (x0 : α0) (x1 : α1) (x2 : α2) (x3 : α3) (x4 : α4) (x5 : α5) (x6 : α6) (bs rs : List Nat) (hf : F k x0 x1 x2 x3 x4 x5 x6) (hl : Le s (I x0 x1 x2 x3 x4 x5 x6) bs rs) (hz : ∀ (x0 : α0) (x1 : α1) (x2 : α2) (x3 : α3) (x4 : α4) (x5 : α5) (x6 : α6), ¬ F 0 x0 x1 x2 x3 x4 x5 x6) (h : ∀ k, (∀ (x0 : α0) (x1 : α1) (x2 : α2) (x3 : α3) (x4 : α4) (x5 : α5) (x6 : α6), F k x0 x1 x2 x3 x4 x5 x6 → VLp P E c Q k (I x0 x1 x2 x3 x4 x5 x6)) → ∀ (x0 : α0) (x1 : α1) (x2 : α2) (x3 : α3) (x4 : α4) (x5 : α5) (x6 : α6), F (k + 1) x0 x1 x2 x3 x4 x5 x6 → VC P E c (Exit.then (Code.roundsIn E.F 0 P c Q k) Q) (I x0 x1 x2 x3 x4 x5 x6)) : VC P E (.loop c) Q s := by
  have key : ∀ k (x0 : α0) (x1 : α1) (x2 : α2) (x3 : α3) (x4 : α4) (x5 : α5) (x6 : α6), F k x0 x1 x2 x3 x4 x5 x6 → VLp P E c Q k (I x0 x1 x2 x3 x4 x5 x6) := by
    intro k
    induction k with
    | zero => intro x0 x1 x2 x3 x4 x5 x6 hf; exact absurd hf (hz x0 x1 x2 x3 x4 x5 x6)
    | succ k ih => intro x0 x1 x2 x3 x4 x5 x6 hf; exact VLp.succ (h k ih x0 x1 x2 x3 x4 x5 x6 hf)
  exact fun a w hi => wpIn_loop_rounds k (key k x0 x1 x2 x3 x4 x5 x6 hf a w (hi.le hl))
theorem VC.stop0 {E : Env} {P : Program} {Q : Exit → Act → World → Prop} {s : St}  {c1 : Code} (I : St) (F : Prop) (hx : VC P E c1 (Exit.then (fun a w => F ∧ Inv E (I) a w) Q) s) (hy : F → VN E Q (I)) : VC P E c1 Q s :=
  fun a w hi => Code.wpIn_mono (fun e a w h => by
    cases e <;> first | exact h | (obtain ⟨hf, hi⟩ := h; exact hy  hf a w hi)) (hx a w hi)
theorem VC.stop1 {E : Env} {P : Program} {Q : Exit → Act → World → Prop} {s : St} {α0 : Type} {c1 : Code} (I : α0 → St) (F : α0 → Prop) (hx : VC P E c1 (Exit.then (fun a w => ∃ (x0 : α0), F x0 ∧ Inv E (I x0) a w) Q) s) (hy : ∀ (x0 : α0), F x0 → VN E Q (I x0)) : VC P E c1 Q s :=
  fun a w hi => Code.wpIn_mono (fun e a w h => by
    cases e <;> first | exact h | (obtain ⟨x0, hf, hi⟩ := h; exact hy x0 hf a w hi)) (hx a w hi)
theorem VC.stop2 {E : Env} {P : Program} {Q : Exit → Act → World → Prop} {s : St} {α0 : Type} {α1 : Type} {c1 : Code} (I : α0 → α1 → St) (F : α0 → α1 → Prop) (hx : VC P E c1 (Exit.then (fun a w => ∃ (x0 : α0) (x1 : α1), F x0 x1 ∧ Inv E (I x0 x1) a w) Q) s) (hy : ∀ (x0 : α0) (x1 : α1), F x0 x1 → VN E Q (I x0 x1)) : VC P E c1 Q s :=
  fun a w hi => Code.wpIn_mono (fun e a w h => by
    cases e <;> first | exact h | (obtain ⟨x0, x1, hf, hi⟩ := h; exact hy x0 x1 hf a w hi)) (hx a w hi)
theorem VC.stop3 {E : Env} {P : Program} {Q : Exit → Act → World → Prop} {s : St} {α0 : Type} {α1 : Type} {α2 : Type} {c1 : Code} (I : α0 → α1 → α2 → St) (F : α0 → α1 → α2 → Prop) (hx : VC P E c1 (Exit.then (fun a w => ∃ (x0 : α0) (x1 : α1) (x2 : α2), F x0 x1 x2 ∧ Inv E (I x0 x1 x2) a w) Q) s) (hy : ∀ (x0 : α0) (x1 : α1) (x2 : α2), F x0 x1 x2 → VN E Q (I x0 x1 x2)) : VC P E c1 Q s :=
  fun a w hi => Code.wpIn_mono (fun e a w h => by
    cases e <;> first | exact h | (obtain ⟨x0, x1, x2, hf, hi⟩ := h; exact hy x0 x1 x2 hf a w hi)) (hx a w hi)
theorem TI9 : TI Try.prog 9 false 1 := ⟨⟨_, Try.underlying9, rfl⟩, by kernel_rfl⟩
theorem Z9 : (Try.prog.info? 9).bind (·.zero) = some (.string (⟨#[]⟩ : ByteArray)) := by kernel_rfl
theorem EI9 : EI Try.prog 9 1 16 := ei_of (z := .string (⟨#[]⟩ : ByteArray)) (by kernel_rfl) rfl (by decide) (by decide)
theorem FO17 : FOk Try.prog 17 := ⟨_, Try.func17, by kernel_rfl, by kernel_rfl⟩
theorem FO24 : FOk Try.prog 24 := ⟨_, Try.func24, by kernel_rfl, by kernel_rfl⟩
theorem TI5 : TI Try.prog 5 false 1 := ⟨⟨_, Try.underlying5, rfl⟩, by kernel_rfl⟩
theorem Z5 : (Try.prog.info? 5).bind (·.zero) = some (.int .u8 0) := by kernel_rfl
theorem EI5 : EI Try.prog 5 1 1 := ei_of (z := .int .u8 0) (by kernel_rfl) rfl (by decide) (by decide)
theorem FO8 : FOk Try.prog 8 := ⟨_, Try.func8, by kernel_rfl, by kernel_rfl⟩
theorem FO27 : FOk Try.prog 27 := ⟨_, Try.func27, by kernel_rfl, by kernel_rfl⟩
theorem FO28 : FOk Try.prog 28 := ⟨_, Try.func28, by kernel_rfl, by kernel_rfl⟩
theorem FO29 : FOk Try.prog 29 := ⟨_, Try.func29, by kernel_rfl, by kernel_rfl⟩
theorem FO18 : FOk Try.prog 18 := ⟨_, Try.func18, by kernel_rfl, by kernel_rfl⟩
theorem FO9 : FOk Try.prog 9 := ⟨_, Try.func9, by kernel_rfl, by kernel_rfl⟩
theorem FO30 : FOk Try.prog 30 := ⟨_, Try.func30, by kernel_rfl, by kernel_rfl⟩
theorem FO19 : FOk Try.prog 19 := ⟨_, Try.func19, by kernel_rfl, by kernel_rfl⟩
theorem Z28 : (Try.prog.info? 28).bind (·.zero) = some (.agg #[.int .i64 0, .string (⟨#[]⟩ : ByteArray), .int .i64 0]) := by kernel_rfl
theorem ZL28 : (.agg #[.int .i64 0, .string (⟨#[]⟩ : ByteArray), .int .i64 0] : Value).cells.toList = [.int .i64 0, .string (⟨#[]⟩ : ByteArray), .int .i64 0] := rfl
theorem TI3 : TI Try.prog 3 false 1 := ⟨⟨_, Try.underlying3, rfl⟩, by kernel_rfl⟩
theorem TI22 : TI Try.prog 22 false 1 := ⟨⟨_, Try.underlying22, rfl⟩, by kernel_rfl⟩
theorem SI28 : SI Try.prog 28 [.int .i64 0, .string (⟨#[]⟩ : ByteArray), .int .i64 0] [(0, 1), (1, 1), (2, 1)] := ⟨⟨_, Try.underlying28, (.cons ⟨rfl, _, TI3⟩ (.cons ⟨rfl, _, TI9⟩ (.cons ⟨rfl, _, TI22⟩ .nil)))⟩, Z28⟩
theorem TI28 : TI Try.prog 28 true 3 := ⟨⟨_, Try.underlying28, rfl⟩, by kernel_rfl⟩
theorem FO12 : FOk Try.prog 12 := ⟨_, Try.func12, by kernel_rfl, by kernel_rfl⟩
theorem FO10 : FOk Try.prog 10 := ⟨_, Try.func10, by kernel_rfl, by kernel_rfl⟩
theorem FI28_2 : FI Try.prog 28 2 2 1 := ⟨_, _, _, Try.underlying28, rfl, rfl, TI22⟩
theorem FI28_0 : FI Try.prog 28 0 0 1 := ⟨_, _, _, Try.underlying28, rfl, rfl, TI3⟩
theorem FO31 : FOk Try.prog 31 := ⟨_, Try.func31, by kernel_rfl, by kernel_rfl⟩
theorem FI28_1 : FI Try.prog 28 1 1 1 := ⟨_, _, _, Try.underlying28, rfl, rfl, TI9⟩
theorem FO20 : FOk Try.prog 20 := ⟨_, Try.func20, by kernel_rfl, by kernel_rfl⟩
theorem FO21 : FOk Try.prog 21 := ⟨_, Try.func21, by kernel_rfl, by kernel_rfl⟩
theorem FO11 : FOk Try.prog 11 := ⟨_, Try.func11, by kernel_rfl, by kernel_rfl⟩
theorem FO22 : FOk Try.prog 22 := ⟨_, Try.func22, by kernel_rfl, by kernel_rfl⟩
theorem FO13 : FOk Try.prog 13 := ⟨_, Try.func13, by kernel_rfl, by kernel_rfl⟩
theorem FO23 : FOk Try.prog 23 := ⟨_, Try.func23, by kernel_rfl, by kernel_rfl⟩
def tarrylaw01_few.l1 (k : Nat) (l0 : List ByteArray) : Nat → (List ByteArray) → Int → Option (List ByteArray)
  | 0, _, _ => none
  | ml1 + 1, l74, i76 => (if i76 < (((l0.take ((mn (l0.length : Int) 258).toNat)).drop 0).length : Int) then (if 0 ≤ i76 then ((((l0.take ((mn (l0.length : Int) 258).toNat)).drop 0)[i76.toNat]?).bind fun x95 => (if 0 ≤ mn (x95.size : Int) 4100 then (if (mn (x95.size : Int) 4100) ≤ (x95.size : Int) then (if (l74.length + ([x95.extract 0 ((mn (x95.size : Int) 4100).toNat)] : List ByteArray).length) * 16 ≤ 140737488355328 then (tarrylaw01_few.l1 k l0 ml1 (l74 ++ ([x95.extract 0 ((mn (x95.size : Int) 4100).toNat)] : List ByteArray)) (wrap64 (i76 + 1))) else none) else none) else none)) else none) else (some l74))
def tarrylaw01_few.f (k : Nat) (l0 : List ByteArray) : Option (List ByteArray) := (if 0 ≤ mn (l0.length : Int) 258 then (if (mn (l0.length : Int) 258) ≤ (l0.length : Int) then (tarrylaw01_few.l1 k l0 k ([] : List ByteArray) 0) else none) else none)
def pack_may.f (a0 : Int) : Option (Bool) := (if a0 ≥ (-1152921504606846976) then (some (decide (a0 ≤ 1152921504606846976))) else (some false))
def pack_Number.l1 (k : Nat)  : Nat → Int → (List Int) → Option (ByteArray × Int)
  | 0, _, _ => none
  | ml1 + 1, i176, l179 => (if i176 ≥ 128 then (if (l179.length + ([IntKind.u8.wrap (wrap64 ((i176.tmod 128) + 128))] : List Int).length) * 1 ≤ 140737488355328 then (pack_Number.l1 k ml1 (IntKind.i64.wrap (i176.tdiv 128)) (l179 ++ ([IntKind.u8.wrap (wrap64 ((i176.tmod 128) + 128))] : List Int))) else none) else (if (l179.length + ([IntKind.u8.wrap i176] : List Int).length) * 1 ≤ 140737488355328 then (some ((strOfNums (l179 ++ ([IntKind.u8.wrap i176] : List Int))), 0)) else none))
def pack_Number.l3 (k : Nat)  : Nat → Int → (List Int) → Option (ByteArray × Int)
  | 0, _, _ => none
  | ml3 + 1, i252, l255 => (if i252 ≥ 128 then (if (l255.length + ([IntKind.u8.wrap (wrap64 ((i252.tmod 128) + 128))] : List Int).length) * 1 ≤ 140737488355328 then (pack_Number.l3 k ml3 (IntKind.i64.wrap (i252.tdiv 128)) (l255 ++ ([IntKind.u8.wrap (wrap64 ((i252.tmod 128) + 128))] : List Int))) else none) else (if (l255.length + ([IntKind.u8.wrap i252] : List Int).length) * 1 ≤ 140737488355328 then (some ((strOfNums (l255 ++ ([IntKind.u8.wrap i252] : List Int))), 0)) else none))
def pack_Number.f (k : Nat) (a0 : Int) : Option (ByteArray × Int) := ((pack_may.f a0).bind fun t126 => (if t126 = true then (if a0 < 0 then (pack_Number.l1 k k (wrap64 ((wrap64 ((-2) * a0)) - 1)) ([] : List Int)) else (pack_Number.l3 k k (wrap64 (2 * a0)) ([] : List Int))) else (some ((⟨#[]⟩ : ByteArray), 1))))
def pack_number.f (k : Nat) (a0 : Int) : Option (ByteArray) := ((pack_Number.f k a0).bind fun ⟨t285, t286⟩ => (some t285))
def pack_Row.ok1 (k : Nat) (s : ByteArray) : Bool := decide (4096 < s.size) || (pack_number.f k (s.size : Int)).elim false fun n => decide (n.size ≤ 100)
def pack_Row.q (k : Nat) (s : ByteArray) : ByteArray := (pack_number.f k (s.size : Int)).getD ⟨#[]⟩ ++ s
def pack_Row.f (k : Nat) (l0 : List ByteArray) : Option (ByteArray × Int) := if l0.all (pack_Row.ok1 k) = true then (if l0.length ≤ 256 ∧ l0.all (fun s => decide (s.size ≤ 4096)) = true then (pack_number.f k (l0.length : Int)).bind fun h => (if ((l0.map (pack_Row.q k)).foldl (fun r s => r ++ s) h).size ≤ 140737488355328 then some ((l0.map (pack_Row.q k)).foldl (fun r s => r ++ s) h, 0) else none) else some (⟨#[]⟩, 3)) else none
def pack_ReadNumber.j5 (k : Nat) (a0 : ByteArray) (i1398 : Int) (i1959 : Int) (q1960 : Bool) : Option (Int × ByteArray × Int) := (if (wrap64 (bt a0 i1398)) = 0 then (if i1398 > 0 then (some (0, (⟨#[]⟩ : ByteArray), 5)) else ((pack_may.f i1959).bind fun t1995 => (if t1995 = true then (if 0 ≤ wrap64 (i1398 + 1) then (if (wrap64 (i1398 + 1)) ≤ (a0.size : Int) then (some (i1959, a0.extract ((wrap64 (i1398 + 1)).toNat) a0.size, 0)) else none) else none) else (some (0, (⟨#[]⟩ : ByteArray), 5))))) else ((pack_may.f i1959).bind fun t2000 => (if t2000 = true then (if 0 ≤ wrap64 (i1398 + 1) then (if (wrap64 (i1398 + 1)) ≤ (a0.size : Int) then (some (i1959, a0.extract ((wrap64 (i1398 + 1)).toNat) a0.size, 0)) else none) else none) else (some (0, (⟨#[]⟩ : ByteArray), 5)))))
def pack_ReadNumber.l3 (k : Nat) (a0 : ByteArray) : Nat → Int → Int → Option (Int × ByteArray × Int)
  | 0, _, _ => none
  | ml3 + 1, i1397, i1398 => (if i1398 < (mn (a0.size : Int) 9) then (if 0 ≤ i1398 then (if i1398 < (a0.size : Int) then (if 0 ≤ wrap64 (7 * i1398) then (if (wrap64 (bt a0 i1398)) ≥ 128 then (pack_ReadNumber.l3 k a0 ml3 (Go.bits .or .i64 i1397 (IntKind.i64.wrap (((wrap64 (bt a0 i1398)).tmod 128) * 2 ^ min (wrap64 (7 * i1398)).toNat IntKind.i64.bits))) (wrap64 (i1398 + 1))) else (if ((Go.bits .or .i64 i1397 (IntKind.i64.wrap (((wrap64 (bt a0 i1398)).tmod 128) * 2 ^ min (wrap64 (7 * i1398)).toNat IntKind.i64.bits))).tmod 2) = 1 then (pack_ReadNumber.j5 k a0 i1398 (wrap64 ((wrap64 (0 - (IntKind.i64.wrap ((Go.bits .or .i64 i1397 (IntKind.i64.wrap (((wrap64 (bt a0 i1398)).tmod 128) * 2 ^ min (wrap64 (7 * i1398)).toNat IntKind.i64.bits))).tdiv 2)))) - 1)) true) else (pack_ReadNumber.j5 k a0 i1398 (IntKind.i64.wrap ((Go.bits .or .i64 i1397 (IntKind.i64.wrap (((wrap64 (bt a0 i1398)).tmod 128) * 2 ^ min (wrap64 (7 * i1398)).toNat IntKind.i64.bits))).tdiv 2)) false))) else none) else none) else none) else (if (a0.size : Int) ≥ 9 then (some (0, (⟨#[]⟩ : ByteArray), 3)) else (some (0, (⟨#[]⟩ : ByteArray), 4))))
def pack_ReadNumber.f (k : Nat) (a0 : ByteArray) : Option (Int × ByteArray × Int) := (pack_ReadNumber.l3 k a0 k 0 0)
def pack_count.f (k : Nat) (a0 : ByteArray) (a1 : Int) : Option (Int × ByteArray × Int) := ((pack_ReadNumber.f k a0).bind fun ⟨t2009, t2010, t2011⟩ => (if t2011 = 0 then (if t2009 > a1 then (some (0, (⟨#[]⟩ : ByteArray), 3)) else (if t2009 < 0 then (some (0, (⟨#[]⟩ : ByteArray), 5)) else (some (t2009, t2010, 0)))) else (some (0, (⟨#[]⟩ : ByteArray), t2011))))
def pack_ReadRow.l1 (k : Nat) (t2025 : Int) : Nat → ByteArray → (List ByteArray) → Int → Option (List ByteArray × Int)
  | 0, _, _, _ => none
  | ml1 + 1, s2216, l2219, i2221 => (if i2221 < t2025 then ((pack_count.f k s2216 4096).bind fun ⟨t2295, t2296, t2297⟩ => (if t2297 = 0 then (if t2295 > (t2296.size : Int) then (some (([] : List ByteArray), 4)) else (if 0 ≤ t2295 then (if t2295 ≤ (t2296.size : Int) then (if (l2219.length + ([t2296.extract 0 t2295.toNat] : List ByteArray).length) * 16 ≤ 140737488355328 then (pack_ReadRow.l1 k t2025 ml1 (t2296.extract t2295.toNat t2296.size) (l2219 ++ ([t2296.extract 0 t2295.toNat] : List ByteArray)) (wrap64 (i2221 + 1))) else none) else none) else none)) else (some (([] : List ByteArray), t2297)))) else (if (s2216 == (⟨#[]⟩ : ByteArray)) = true then (some (l2219, 0)) else (some (([] : List ByteArray), 5))))
def pack_ReadRow.f (k : Nat) (a0 : ByteArray) : Option (List ByteArray × Int) := ((pack_count.f k a0 256).bind fun ⟨t2025, t2026, t2027⟩ => (if t2027 = 0 then (pack_ReadRow.l1 k t2025 k t2026 ([] : List ByteArray) 0) else (some (([] : List ByteArray), t2027))))
def tarryref01_May.f (a0 : Int) : Option (Bool) := (if a0 ≥ (-1152921504606846976) then (some (decide (a0 ≤ 1152921504606846976))) else (some false))
def tarryref01_ReadNumber.j215 (k : Nat) (a0 : ByteArray) (i16235 : Int) (i18442 : Int) : Option (Int × ByteArray × Int) := (if 0 ≤ i16235 then (if i16235 < (a0.size : Int) then (if (bt a0 i16235) = 0 then (if i16235 > 0 then (some (0, (⟨#[]⟩ : ByteArray), 5)) else ((tarryref01_May.f i18442).bind fun t18485 => (if t18485 = true then (if 0 ≤ wrap64 (i16235 + 1) then (if (wrap64 (i16235 + 1)) ≤ (a0.size : Int) then (some (i18442, a0.extract ((wrap64 (i16235 + 1)).toNat) a0.size, 0)) else none) else none) else (some (0, (⟨#[]⟩ : ByteArray), 5))))) else ((tarryref01_May.f i18442).bind fun t18490 => (if t18490 = true then (if 0 ≤ wrap64 (i16235 + 1) then (if (wrap64 (i16235 + 1)) ≤ (a0.size : Int) then (some (i18442, a0.extract ((wrap64 (i16235 + 1)).toNat) a0.size, 0)) else none) else none) else (some (0, (⟨#[]⟩ : ByteArray), 5))))) else none) else none)
def tarryref01_ReadNumber.j213 (k : Nat) (a0 : ByteArray) (i16235 : Int) (i18330 : Int) : Option (Int × ByteArray × Int) := (if (i18330.tmod 2) = 1 then (tarryref01_ReadNumber.j215 k a0 i16235 (wrap64 ((wrap64 (0 - (IntKind.i64.wrap (i18330.tdiv 2)))) - 1))) else (tarryref01_ReadNumber.j215 k a0 i16235 (IntKind.i64.wrap (i18330.tdiv 2))))
def tarryref01_ReadNumber.l214 (k : Nat) (a0 : ByteArray) (i16235 : Int) : Nat → Int → Int → Option (Int × ByteArray × Int)
  | 0, _, _ => none
  | ml214 + 1, i18316, i18317 => (if i18317 ≥ 0 then (if 0 ≤ i18317 then (if i18317 < (a0.size : Int) then (tarryref01_ReadNumber.l214 k a0 i16235 ml214 (wrap64 ((wrap64 (128 * i18316)) + (wrap64 ((bt a0 i18317).tmod 128)))) (wrap64 (i18317 - 1))) else none) else none) else (tarryref01_ReadNumber.j213 k a0 i16235 i18316))
def tarryref01_ReadNumber.j208 (k : Nat) (a0 : ByteArray) (i16235 : Int)  : Option (Int × ByteArray × Int) := (if i16235 < 0 then (some (0, (⟨#[]⟩ : ByteArray), 4)) else (tarryref01_ReadNumber.l214 k a0 i16235 k 0 i16235))
def tarryref01_ReadNumber.j184 (k : Nat) (a0 : ByteArray) (i16235 : Int) : Option (Int × ByteArray × Int) := (if i16235 < 0 then (if (a0.size : Int) ≥ 9 then (some (0, (⟨#[]⟩ : ByteArray), 3)) else (tarryref01_ReadNumber.j208 k a0 i16235)) else (tarryref01_ReadNumber.j208 k a0 i16235))
def tarryref01_ReadNumber.l185 (k : Nat) (a0 : ByteArray) : Nat → Int → Int → Option (Int × ByteArray × Int)
  | 0, _, _ => none
  | ml185 + 1, i16161, i16162 => (if i16162 < (a0.size : Int) then (if i16162 < 9 then (if i16161 < 0 then (if 0 ≤ i16162 then (if i16162 < (a0.size : Int) then (if (bt a0 i16162) < 128 then (tarryref01_ReadNumber.l185 k a0 ml185 i16162 (wrap64 (i16162 + 1))) else (tarryref01_ReadNumber.l185 k a0 ml185 i16161 (wrap64 (i16162 + 1)))) else none) else none) else (tarryref01_ReadNumber.l185 k a0 ml185 i16161 (wrap64 (i16162 + 1)))) else (tarryref01_ReadNumber.j184 k a0 i16161)) else (tarryref01_ReadNumber.j184 k a0 i16161))
def tarryref01_ReadNumber.f (k : Nat) (a0 : ByteArray) : Option (Int × ByteArray × Int) := (tarryref01_ReadNumber.l185 k a0 k (-1) 0)
def tarryref01_count.f (k : Nat) (a0 : ByteArray) (a1 : Int) : Option (Int × ByteArray × Int) := ((tarryref01_ReadNumber.f k a0).bind fun ⟨t18495, t18496, t18497⟩ => (if t18497 = 0 then (if t18495 > a1 then (some (0, (⟨#[]⟩ : ByteArray), 3)) else (if t18495 < 0 then (some (0, (⟨#[]⟩ : ByteArray), 5)) else (some (t18495, t18496, t18497)))) else (some (t18495, t18496, t18497))))
def tarryref01_ReadRow.l1 (k : Nat) (t18512 : Int) : Nat → ByteArray → (List ByteArray) → Int → Int → ByteArray → Int → Option (List ByteArray × Int)
  | 0, _, _, _, _, _, _ => none
  | ml1 + 1, s18708, l18711, i18712, i18713, s18714, i18715 => (if i18712 < t18512 then ((tarryref01_count.f k s18708 4096).bind fun ⟨t18791, t18792, t18793⟩ => (if t18793 = 0 then (if t18791 > (t18792.size : Int) then (some (([] : List ByteArray), 4)) else (if 0 ≤ t18791 then (if t18791 ≤ (t18792.size : Int) then (if (l18711.length + ([t18792.extract 0 t18791.toNat] : List ByteArray).length) * 16 ≤ 140737488355328 then (tarryref01_ReadRow.l1 k t18512 ml1 (t18792.extract t18791.toNat t18792.size) (l18711 ++ ([t18792.extract 0 t18791.toNat] : List ByteArray)) (wrap64 (i18712 + 1)) t18791 t18792 t18793) else none) else none) else none)) else (some (([] : List ByteArray), t18793)))) else (if (s18708.size : Int) > 0 then (some (([] : List ByteArray), 5)) else (some (l18711, 0))))
def tarryref01_ReadRow.f (k : Nat) (a0 : ByteArray) : Option (List ByteArray × Int) := ((tarryref01_count.f k a0 256).bind fun ⟨t18512, t18513, t18514⟩ => (if t18514 = 0 then (tarryref01_ReadRow.l1 k t18512 k t18513 ([] : List ByteArray) 0 t18512 t18513 t18514) else (some (([] : List ByteArray), t18514))))
def tarryref01_Same.l1 (k : Nat) (l0 : List ByteArray) (l1 : List ByteArray) : Nat → Int → Option (Bool)
  | 0, _ => none
  | ml1 + 1, i18887 => (if i18887 < (l0.length : Int) then (if 0 ≤ i18887 then ((l0[i18887.toNat]?).bind fun x18910 => ((l1[i18887.toNat]?).bind fun x18911 => (if (x18910 == x18911) = true then (tarryref01_Same.l1 k l0 l1 ml1 (wrap64 (i18887 + 1))) else (some false)))) else none) else (some true))
def tarryref01_Same.f (k : Nat) (l0 : List ByteArray) (l1 : List ByteArray) : Option (Bool) := (if (l0.length : Int) = (l1.length : Int) then (tarryref01_Same.l1 k l0 l1 k 0) else (some false))
def tarrylaw01_alive.f (k : Nat)  : Option (Bool) := ((pack_Number.f k 64).bind fun ⟨t18917, t18918⟩ => ((pack_Number.f k (-1)).bind fun ⟨t18920, t18921⟩ => (if t18918 = 0 then (if t18921 = 0 then (if (t18917 == (⟨#[128, 1]⟩ : ByteArray)) = true then (some (t18920 == (⟨#[1]⟩ : ByteArray))) else (some false)) else (some false)) else (some false))))
def tarryref01_MayRow.l1 (k : Nat) (l0 : List ByteArray) : Nat → Int → Option (Bool)
  | 0, _ => none
  | ml1 + 1, i19022 => (if i19022 < (l0.length : Int) then (if 0 ≤ i19022 then ((l0[i19022.toNat]?).bind fun x19049 => (if (x19049.size : Int) > 4096 then (some false) else (tarryref01_MayRow.l1 k l0 ml1 (wrap64 (i19022 + 1))))) else none) else (some (decide ((l0.length : Int) ≤ 256))))
def tarryref01_MayRow.f (k : Nat) (l0 : List ByteArray) : Option (Bool) := (tarryref01_MayRow.l1 k l0 k 0)
def tarryref01_Number.l1 (k : Nat)  : Nat → Int → (List Int) → Option (ByteArray)
  | 0, _, _ => none
  | ml1 + 1, i19122, l19125 => (if i19122 > 127 then (if (l19125.length + ([IntKind.u8.wrap (wrap64 (128 + (i19122.tmod 128)))] : List Int).length) * 1 ≤ 140737488355328 then (tarryref01_Number.l1 k ml1 (IntKind.i64.wrap (i19122.tdiv 128)) (l19125 ++ ([IntKind.u8.wrap (wrap64 (128 + (i19122.tmod 128)))] : List Int))) else none) else (if (l19125.length + ([IntKind.u8.wrap i19122] : List Int).length) * 1 ≤ 140737488355328 then (some (strOfNums (l19125 ++ ([IntKind.u8.wrap i19122] : List Int)))) else none))
def tarryref01_Number.l3 (k : Nat)  : Nat → Int → (List Int) → Option (ByteArray)
  | 0, _, _ => none
  | ml3 + 1, i19196, l19199 => (if i19196 > 127 then (if (l19199.length + ([IntKind.u8.wrap (wrap64 (128 + (i19196.tmod 128)))] : List Int).length) * 1 ≤ 140737488355328 then (tarryref01_Number.l3 k ml3 (IntKind.i64.wrap (i19196.tdiv 128)) (l19199 ++ ([IntKind.u8.wrap (wrap64 (128 + (i19196.tmod 128)))] : List Int))) else none) else (if (l19199.length + ([IntKind.u8.wrap i19196] : List Int).length) * 1 ≤ 140737488355328 then (some (strOfNums (l19199 ++ ([IntKind.u8.wrap i19196] : List Int)))) else none))
def tarryref01_Number.f (k : Nat) (a0 : Int) : Option (ByteArray) := (if a0 ≥ 0 then (tarryref01_Number.l1 k k (wrap64 (2 * a0)) ([] : List Int)) else (tarryref01_Number.l3 k k (wrap64 ((wrap64 (2 * (wrap64 (0 - a0)))) - 1)) ([] : List Int)))
def tarryref01_Row.l1 (k : Nat) (l0 : List ByteArray) : Nat → ByteArray → Int → Option (ByteArray)
  | 0, _, _ => none
  | ml1 + 1, s19274, i19275 => (if i19275 < (l0.length : Int) then (if 0 ≤ i19275 then ((l0[i19275.toNat]?).bind fun x19291 => ((tarryref01_Number.f k (x19291.size : Int)).bind fun t19294 => (if s19274.size + t19294.size ≤ 9223372036854775807 then (if (s19274 ++ t19294).size + x19291.size ≤ 9223372036854775807 then (tarryref01_Row.l1 k l0 ml1 ((s19274 ++ t19294) ++ x19291) (wrap64 (i19275 + 1))) else none) else none))) else none) else (some s19274))
def tarryref01_Row.f (k : Nat) (l0 : List ByteArray) : Option (ByteArray) := ((tarryref01_Number.f k (l0.length : Int)).bind fun t19228 => (tarryref01_Row.l1 k l0 k t19228 0))
def tarrylaw01_PackRows.f (k : Nat) (l0 : List ByteArray) (a1 : ByteArray) : Option (Bool) := ((tarrylaw01_few.f k l0).bind fun r105 => (if 0 ≤ mn (a1.size : Int) 10000 then (if (mn (a1.size : Int) 10000) ≤ (a1.size : Int) then ((pack_Row.f k r105).bind fun ⟨t288, t289⟩ => ((pack_ReadRow.f k (a1.extract 0 ((mn (a1.size : Int) 10000).toNat))).bind fun ⟨r2325, t2326⟩ => ((tarryref01_ReadRow.f k (a1.extract 0 ((mn (a1.size : Int) 10000).toNat))).bind fun ⟨r18821, t18822⟩ => (if t2326 = t18822 then ((tarryref01_Same.f k r2325 r18821).bind fun t18958 => (if t18958 = true then ((tarrylaw01_alive.f k).bind fun t18961 => (if t18961 = true then ((tarryref01_MayRow.f k r105).bind fun t19070 => (if t19070 = true then (if t289 = 0 then ((tarryref01_Row.f k r105).bind fun t19303 => (some (t288 == t19303))) else none) else (if t289 = 3 then (some (t288 == (⟨#[]⟩ : ByteArray))) else none))) else none)) else none)) else none)))) else none) else none))
/-- THE ONE PURE STATEMENT. -/
def tarrylaw01_PackRows.Pure : Prop := ∀ (l0 : List ByteArray) (a1 : ByteArray), allOk (fun x : ByteArray => x.size ≤ 9223372036854775807) l0 → a1.size ≤ 140737488351232 → ∃ k, tarrylaw01_PackRows.f k l0 a1 = some true

end Go.Proofs.Ytacenfolbmdpoaa.PPackRows
