/- Written by a program of this repo: what the program's functions do, each as a Lean function, shown of the loaded code; or a statement's row over that; no condition of its own. -/
import Derived.Test.YtlfkendmepdbkaaProg
import Derived.Test.YtlfkendmepdbkaaV18
import Derived.Shelf.Bits.Mul64
import Derived.Shelf.Strings.Repeat
namespace Go.Proofs.Ytlfkendmepdbkaa.PDiskCrashes
open Go Go.RowKit Go.Proofs.YtlfkendmepdbkaaV
set_option linter.unusedVariables false
set_option linter.unusedSimpArgs false

structure S32 where
  f0 : Int
  f1 : ByteArray
def enc32 (x : S32) : List Value := [.int .i64 x.f0, .string x.f1]
theorem enc32_ok (a : S32) : (enc32 a).length = 2 ∧ ∀ u ∈ enc32 a, u.oneCell' = true := ⟨rfl, by intro u hu; simp only [enc32, List.mem_cons, List.not_mem_nil, or_false] at hu; rcases hu with rfl | rfl <;> rfl⟩
def ok32 (x : S32) : Prop := (Lit.int .i64 x.f0).wf = true ∧ x.f1.size ≤ 9223372036854775807
def enc_str (x : ByteArray) : List Value := [.string x]
theorem enc_str_ok (a : ByteArray) : (enc_str a).length = 1 ∧ ∀ u ∈ enc_str a, u.oneCell' = true := ⟨rfl, by intro u hu; simp only [enc_str, List.mem_cons, List.not_mem_nil, or_false] at hu; rcases hu with rfl; rfl⟩
def enc_intu8 (x : Int) : List Value := [.int .u8 x]
theorem enc_intu8_ok (a : Int) : (enc_intu8 a).length = 1 ∧ ∀ u ∈ enc_intu8 a, u.oneCell' = true := ⟨rfl, by intro u hu; simp only [enc_intu8, List.mem_cons, List.not_mem_nil, or_false] at hu; rcases hu with rfl; rfl⟩
theorem VC.join0 {E : Env} {P : Program} {Q : Exit → Act → World → Prop} {s : St}  {c1 c2 : Code} (I : St) (F : Prop) (hx : VC P E c1 (Exit.then (fun a w => F ∧ Inv E (I) a w) Q) s) (hy : F → VC P E c2 Q (I)) : VC P E (.seq c1 c2) Q s :=
  fun a w hi => wpIn_seq (Code.wpIn_mono (fun e a w h => by
    cases e <;> first | exact h | (obtain ⟨hf, hi⟩ := h; exact hy  hf a w hi)) (hx a w hi))
theorem VN.meet0 {E : Env} {Q : Exit → Act → World → Prop} {s : St}  {I : St} {F : Prop}  (bs rs : List Nat) (hf : F) (hl : Le s (I) bs rs) : VN E (Exit.then (fun a w => F ∧ Inv E (I) a w) Q) s :=
  fun a w hi => ⟨hf, hi.le hl⟩
theorem VC.join2 {E : Env} {P : Program} {Q : Exit → Act → World → Prop} {s : St} {α0 : Type} {α1 : Type} {c1 c2 : Code} (I : α0 → α1 → St) (F : α0 → α1 → Prop) (hx : VC P E c1 (Exit.then (fun a w => ∃ (x0 : α0) (x1 : α1), F x0 x1 ∧ Inv E (I x0 x1) a w) Q) s) (hy : ∀ (x0 : α0) (x1 : α1), F x0 x1 → VC P E c2 Q (I x0 x1)) : VC P E (.seq c1 c2) Q s :=
  fun a w hi => wpIn_seq (Code.wpIn_mono (fun e a w h => by
    cases e <;> first | exact h | (obtain ⟨x0, x1, hf, hi⟩ := h; exact hy x0 x1 hf a w hi)) (hx a w hi))
theorem VN.meet2 {E : Env} {Q : Exit → Act → World → Prop} {s : St} {α0 : Type} {α1 : Type} {I : α0 → α1 → St} {F : α0 → α1 → Prop} (x0 : α0) (x1 : α1) (bs rs : List Nat) (hf : F x0 x1) (hl : Le s (I x0 x1) bs rs) : VN E (Exit.then (fun a w => ∃ (x0 : α0) (x1 : α1), F x0 x1 ∧ Inv E (I x0 x1) a w) Q) s :=
  fun a w hi => ⟨x0, x1, hf, hi.le hl⟩
theorem VC.join3 {E : Env} {P : Program} {Q : Exit → Act → World → Prop} {s : St} {α0 : Type} {α1 : Type} {α2 : Type} {c1 c2 : Code} (I : α0 → α1 → α2 → St) (F : α0 → α1 → α2 → Prop) (hx : VC P E c1 (Exit.then (fun a w => ∃ (x0 : α0) (x1 : α1) (x2 : α2), F x0 x1 x2 ∧ Inv E (I x0 x1 x2) a w) Q) s) (hy : ∀ (x0 : α0) (x1 : α1) (x2 : α2), F x0 x1 x2 → VC P E c2 Q (I x0 x1 x2)) : VC P E (.seq c1 c2) Q s :=
  fun a w hi => wpIn_seq (Code.wpIn_mono (fun e a w h => by
    cases e <;> first | exact h | (obtain ⟨x0, x1, x2, hf, hi⟩ := h; exact hy x0 x1 x2 hf a w hi)) (hx a w hi))
theorem VN.meet3 {E : Env} {Q : Exit → Act → World → Prop} {s : St} {α0 : Type} {α1 : Type} {α2 : Type} {I : α0 → α1 → α2 → St} {F : α0 → α1 → α2 → Prop} (x0 : α0) (x1 : α1) (x2 : α2) (bs rs : List Nat) (hf : F x0 x1 x2) (hl : Le s (I x0 x1 x2) bs rs) : VN E (Exit.then (fun a w => ∃ (x0 : α0) (x1 : α1) (x2 : α2), F x0 x1 x2 ∧ Inv E (I x0 x1 x2) a w) Q) s :=
  fun a w hi => ⟨x0, x1, x2, hf, hi.le hl⟩
theorem VC.loop1 {E : Env} {P : Program} {Q : Exit → Act → World → Prop} {s : St} {α0 : Type} {c : Code} (I : α0 → St) (F : Nat → α0 → Prop) (k : Nat) (x0 : α0) (bs rs : List Nat) (hf : F k x0) (hl : Le s (I x0) bs rs) (hz : ∀ (x0 : α0), ¬ F 0 x0) (h : ∀ k, (∀ (x0 : α0), F k x0 → VLp P E c Q k (I x0)) → ∀ (x0 : α0), F (k + 1) x0 → VC P E c (Exit.then (Code.roundsIn E.F 0 P c Q k) Q) (I x0)) : VC P E (.loop c) Q s := by
  have key : ∀ k (x0 : α0), F k x0 → VLp P E c Q k (I x0) := by
    intro k
    induction k with
    | zero => intro x0 hf; exact absurd hf (hz x0)
    | succ k ih => intro x0 hf; exact VLp.succ (h k ih x0 hf)
  exact fun a w hi => wpIn_loop_rounds k (key k x0 hf a w (hi.le hl))
theorem VC.loop2 {E : Env} {P : Program} {Q : Exit → Act → World → Prop} {s : St} {α0 : Type} {α1 : Type} {c : Code} (I : α0 → α1 → St) (F : Nat → α0 → α1 → Prop) (k : Nat) (x0 : α0) (x1 : α1) (bs rs : List Nat) (hf : F k x0 x1) (hl : Le s (I x0 x1) bs rs) (hz : ∀ (x0 : α0) (x1 : α1), ¬ F 0 x0 x1) (h : ∀ k, (∀ (x0 : α0) (x1 : α1), F k x0 x1 → VLp P E c Q k (I x0 x1)) → ∀ (x0 : α0) (x1 : α1), F (k + 1) x0 x1 → VC P E c (Exit.then (Code.roundsIn E.F 0 P c Q k) Q) (I x0 x1)) : VC P E (.loop c) Q s := by
  have key : ∀ k (x0 : α0) (x1 : α1), F k x0 x1 → VLp P E c Q k (I x0 x1) := by
    intro k
    induction k with
    | zero => intro x0 x1 hf; exact absurd hf (hz x0 x1)
    | succ k ih => intro x0 x1 hf; exact VLp.succ (h k ih x0 x1 hf)
  exact fun a w hi => wpIn_loop_rounds k (key k x0 x1 hf a w (hi.le hl))
theorem VC.loop3 {E : Env} {P : Program} {Q : Exit → Act → World → Prop} {s : St} {α0 : Type} {α1 : Type} {α2 : Type} {c : Code} (I : α0 → α1 → α2 → St) (F : Nat → α0 → α1 → α2 → Prop) (k : Nat) (x0 : α0) (x1 : α1) (x2 : α2) (bs rs : List Nat) (hf : F k x0 x1 x2) (hl : Le s (I x0 x1 x2) bs rs) (hz : ∀ (x0 : α0) (x1 : α1) (x2 : α2), ¬ F 0 x0 x1 x2) (h : ∀ k, (∀ (x0 : α0) (x1 : α1) (x2 : α2), F k x0 x1 x2 → VLp P E c Q k (I x0 x1 x2)) → ∀ (x0 : α0) (x1 : α1) (x2 : α2), F (k + 1) x0 x1 x2 → VC P E c (Exit.then (Code.roundsIn E.F 0 P c Q k) Q) (I x0 x1 x2)) : VC P E (.loop c) Q s := by
  have key : ∀ k (x0 : α0) (x1 : α1) (x2 : α2), F k x0 x1 x2 → VLp P E c Q k (I x0 x1 x2) := by
    intro k
    induction k with
    | zero => intro x0 x1 x2 hf; exact absurd hf (hz x0 x1 x2)
    | succ k ih => intro x0 x1 x2 hf; exact VLp.succ (h k ih x0 x1 x2 hf)
  exact fun a w hi => wpIn_loop_rounds k (key k x0 x1 x2 hf a w (hi.le hl))
theorem VC.loop4 {E : Env} {P : Program} {Q : Exit → Act → World → Prop} {s : St} {α0 : Type} {α1 : Type} {α2 : Type} {α3 : Type} {c : Code} (I : α0 → α1 → α2 → α3 → St) (F : Nat → α0 → α1 → α2 → α3 → Prop) (k : Nat) (x0 : α0) (x1 : α1) (x2 : α2) (x3 : α3) (bs rs : List Nat) (hf : F k x0 x1 x2 x3) (hl : Le s (I x0 x1 x2 x3) bs rs) (hz : ∀ (x0 : α0) (x1 : α1) (x2 : α2) (x3 : α3), ¬ F 0 x0 x1 x2 x3) (h : ∀ k, (∀ (x0 : α0) (x1 : α1) (x2 : α2) (x3 : α3), F k x0 x1 x2 x3 → VLp P E c Q k (I x0 x1 x2 x3)) → ∀ (x0 : α0) (x1 : α1) (x2 : α2) (x3 : α3), F (k + 1) x0 x1 x2 x3 → VC P E c (Exit.then (Code.roundsIn E.F 0 P c Q k) Q) (I x0 x1 x2 x3)) : VC P E (.loop c) Q s := by
  have key : ∀ k (x0 : α0) (x1 : α1) (x2 : α2) (x3 : α3), F k x0 x1 x2 x3 → VLp P E c Q k (I x0 x1 x2 x3) := by
    intro k
    induction k with
    | zero => intro x0 x1 x2 x3 hf; exact absurd hf (hz x0 x1 x2 x3)
    | succ k ih => intro x0 x1 x2 x3 hf; exact VLp.succ (h k ih x0 x1 x2 x3 hf)
  exact fun a w hi => wpIn_loop_rounds k (key k x0 x1 x2 x3 hf a w (hi.le hl))
theorem VC.stop0 {E : Env} {P : Program} {Q : Exit → Act → World → Prop} {s : St}  {c1 : Code} (I : St) (F : Prop) (hx : VC P E c1 (Exit.then (fun a w => F ∧ Inv E (I) a w) Q) s) (hy : F → VN E Q (I)) : VC P E c1 Q s :=
  fun a w hi => Code.wpIn_mono (fun e a w h => by
    cases e <;> first | exact h | (obtain ⟨hf, hi⟩ := h; exact hy  hf a w hi)) (hx a w hi)
theorem VC.stop2 {E : Env} {P : Program} {Q : Exit → Act → World → Prop} {s : St} {α0 : Type} {α1 : Type} {c1 : Code} (I : α0 → α1 → St) (F : α0 → α1 → Prop) (hx : VC P E c1 (Exit.then (fun a w => ∃ (x0 : α0) (x1 : α1), F x0 x1 ∧ Inv E (I x0 x1) a w) Q) s) (hy : ∀ (x0 : α0) (x1 : α1), F x0 x1 → VN E Q (I x0 x1)) : VC P E c1 Q s :=
  fun a w hi => Code.wpIn_mono (fun e a w h => by
    cases e <;> first | exact h | (obtain ⟨x0, x1, hf, hi⟩ := h; exact hy x0 x1 hf a w hi)) (hx a w hi)
theorem VC.stop3 {E : Env} {P : Program} {Q : Exit → Act → World → Prop} {s : St} {α0 : Type} {α1 : Type} {α2 : Type} {c1 : Code} (I : α0 → α1 → α2 → St) (F : α0 → α1 → α2 → Prop) (hx : VC P E c1 (Exit.then (fun a w => ∃ (x0 : α0) (x1 : α1) (x2 : α2), F x0 x1 x2 ∧ Inv E (I x0 x1 x2) a w) Q) s) (hy : ∀ (x0 : α0) (x1 : α1) (x2 : α2), F x0 x1 x2 → VN E Q (I x0 x1 x2)) : VC P E c1 Q s :=
  fun a w hi => Code.wpIn_mono (fun e a w h => by
    cases e <;> first | exact h | (obtain ⟨x0, x1, x2, hf, hi⟩ := h; exact hy x0 x1 x2 hf a w hi)) (hx a w hi)
theorem TI25 : TI Try.prog 25 true 2 := ⟨⟨_, Try.underlying25, rfl⟩, by kernel_rfl⟩
theorem Z25 : (Try.prog.info? 25).bind (·.zero) = some (.agg #[.slice none 0 0, .slice none 0 0]) := by kernel_rfl
theorem ZL25 : (.agg #[.slice none 0 0, .slice none 0 0] : Value).cells.toList = [.slice none 0 0, .slice none 0 0] := rfl
theorem TI22 : TI Try.prog 22 false 1 := ⟨⟨_, Try.underlying22, rfl⟩, by kernel_rfl⟩
theorem FI25_0 : FI Try.prog 25 0 0 1 := ⟨_, _, _, Try.underlying25, rfl, rfl, TI22⟩
theorem TI9 : TI Try.prog 9 false 1 := ⟨⟨_, Try.underlying9, rfl⟩, by kernel_rfl⟩
theorem Z9 : (Try.prog.info? 9).bind (·.zero) = some (.string (⟨#[]⟩ : ByteArray)) := by kernel_rfl
theorem EI9 : EI Try.prog 9 1 16 := ei_of (z := .string (⟨#[]⟩ : ByteArray)) (by kernel_rfl) rfl (by decide) (by decide)
theorem TI23 : TI Try.prog 23 false 1 := ⟨⟨_, Try.underlying23, rfl⟩, by kernel_rfl⟩
theorem FI25_1 : FI Try.prog 25 1 1 1 := ⟨_, _, _, Try.underlying25, rfl, rfl, TI23⟩
theorem TI33 : TI Try.prog 33 true 2 := ⟨⟨_, Try.underlying33, rfl⟩, by kernel_rfl⟩
theorem Z33 : (Try.prog.info? 33).bind (·.zero) = some (.agg #[.int .i64 0, .string (⟨#[]⟩ : ByteArray)]) := by kernel_rfl
theorem ZL33 : (.agg #[.int .i64 0, .string (⟨#[]⟩ : ByteArray)] : Value).cells.toList = [.int .i64 0, .string (⟨#[]⟩ : ByteArray)] := rfl
theorem FI33_1 : FI Try.prog 33 1 1 1 := ⟨_, _, _, Try.underlying33, rfl, rfl, TI9⟩
theorem EI33 : EI Try.prog 33 2 24 := ei_of (z := .agg #[.int .i64 0, .string (⟨#[]⟩ : ByteArray)]) (by kernel_rfl) rfl (by decide) (by decide)
theorem FO6 : FOk Try.prog 6 := ⟨_, Try.func6, by kernel_rfl, by kernel_rfl⟩
theorem Z3 : (Try.prog.info? 3).bind (·.zero) = some (.int .i64 0) := by kernel_rfl
theorem ZL3 : (.int .i64 0 : Value).cells.toList = [.int .i64 0] := rfl
theorem TI3 : TI Try.prog 3 false 1 := ⟨⟨_, Try.underlying3, rfl⟩, by kernel_rfl⟩
theorem Z68 : (Try.prog.info? 68).bind (·.zero) = some (.nilFunc) := by kernel_rfl
theorem ZL68 : (.nilFunc : Value).cells.toList = [.nilFunc] := rfl
theorem TI68 : TI Try.prog 68 false 1 := ⟨⟨_, Try.underlying68, rfl⟩, by kernel_rfl⟩
theorem FO29 : FOk Try.prog 29 := ⟨_, Try.func29, by kernel_rfl, by kernel_rfl⟩
theorem FO41 : FOk Try.prog 41 := ⟨_, Try.func41, by kernel_rfl, by kernel_rfl⟩
theorem FO31 : FOk Try.prog 31 := ⟨_, Try.func31, by kernel_rfl, by kernel_rfl⟩
theorem FI33_0 : FI Try.prog 33 0 0 1 := ⟨_, _, _, Try.underlying33, rfl, rfl, TI3⟩
theorem FO30 : FOk Try.prog 30 := ⟨_, Try.func30, by kernel_rfl, by kernel_rfl⟩
theorem FO42 : FOk Try.prog 42 := ⟨_, Try.func42, by kernel_rfl, by kernel_rfl⟩
theorem FO32 : FOk Try.prog 32 := ⟨_, Try.func32, by kernel_rfl, by kernel_rfl⟩
theorem FO16 : FOk Try.prog 16 := ⟨_, Try.func16, by kernel_rfl, by kernel_rfl⟩
theorem SI25 : SI Try.prog 25 [.slice none 0 0, .slice none 0 0] [(0, 1), (1, 1)] := ⟨⟨_, Try.underlying25, (.cons ⟨rfl, _, TI22⟩ (.cons ⟨rfl, _, TI23⟩ .nil))⟩, Z25⟩
theorem FO19 : FOk Try.prog 19 := ⟨_, Try.func19, by kernel_rfl, by kernel_rfl⟩
theorem TI5 : TI Try.prog 5 false 1 := ⟨⟨_, Try.underlying5, rfl⟩, by kernel_rfl⟩
theorem FO7 : FOk Try.prog 7 := ⟨_, Try.func7, by kernel_rfl, by kernel_rfl⟩
theorem FO14 : FOk Try.prog 14 := ⟨_, Try.func14, by kernel_rfl, by kernel_rfl⟩
theorem FO23 : FOk Try.prog 23 := ⟨_, Try.func23, by kernel_rfl, by kernel_rfl⟩
theorem FO20 : FOk Try.prog 20 := ⟨_, Try.func20, by kernel_rfl, by kernel_rfl⟩
theorem FO9 : FOk Try.prog 9 := ⟨_, Try.func9, by kernel_rfl, by kernel_rfl⟩
theorem FO21 : FOk Try.prog 21 := ⟨_, Try.func21, by kernel_rfl, by kernel_rfl⟩
theorem SI33 : SI Try.prog 33 [.int .i64 0, .string (⟨#[]⟩ : ByteArray)] [(0, 1), (1, 1)] := ⟨⟨_, Try.underlying33, (.cons ⟨rfl, _, TI3⟩ (.cons ⟨rfl, _, TI9⟩ .nil))⟩, Z33⟩
theorem FO10 : FOk Try.prog 10 := ⟨_, Try.func10, by kernel_rfl, by kernel_rfl⟩
theorem ZL9 : (.string (⟨#[]⟩ : ByteArray) : Value).cells.toList = [.string (⟨#[]⟩ : ByteArray)] := rfl
theorem Z28 : (Try.prog.info? 28).bind (·.zero) = some (.int .i64 0) := by kernel_rfl
theorem ZL28 : (.int .i64 0 : Value).cells.toList = [.int .i64 0] := rfl
theorem TI28 : TI Try.prog 28 false 1 := ⟨⟨_, Try.underlying28, rfl⟩, by kernel_rfl⟩
theorem FO22 : FOk Try.prog 22 := ⟨_, Try.func22, by kernel_rfl, by kernel_rfl⟩
theorem FO35 : FOk Try.prog 35 := ⟨_, Try.func35, by kernel_rfl, by kernel_rfl⟩
theorem FO11 : FOk Try.prog 11 := ⟨_, Try.func11, by kernel_rfl, by kernel_rfl⟩
theorem FO8 : FOk Try.prog 8 := ⟨_, Try.func8, by kernel_rfl, by kernel_rfl⟩
def tarrylaw03_few.l5 (k : Nat) (l0_1 : List S32) (l81 : List ByteArray) : Nat → Int → (List S32) → Option (List ByteArray × List S32)
  | 0, _, _ => none
  | ml5 + 1, i292, l295 => (if i292 < (((l0_1.take ((mn (l0_1.length : Int) 66).toNat)).drop 0).length : Int) then (if 0 ≤ i292 then ((((l0_1.take ((mn (l0_1.length : Int) 66).toNat)).drop 0)[i292.toNat]?).bind fun x316 => (if 0 ≤ mn (x316.f1.size : Int) 66 then (if (mn (x316.f1.size : Int) 66) ≤ (x316.f1.size : Int) then (if (l295.length + ([(⟨x316.f0, x316.f1.extract 0 ((mn (x316.f1.size : Int) 66).toNat)⟩ : S32)] : List S32).length) * 24 ≤ 140737488355328 then (tarrylaw03_few.l5 k l0_1 l81 ml5 (wrap64 (i292 + 1)) (l295 ++ ([(⟨x316.f0, x316.f1.extract 0 ((mn (x316.f1.size : Int) 66).toNat)⟩ : S32)] : List S32))) else none) else none) else none)) else none) else (some (l81, l295)))
def tarrylaw03_few.l1 (k : Nat) (l0_0 : List ByteArray) (l0_1 : List S32) : Nat → Int → (List ByteArray) → Option (List ByteArray × List S32)
  | 0, _, _ => none
  | ml1 + 1, i78, l81 => (if i78 < (((l0_0.take ((mn (l0_0.length : Int) 20).toNat)).drop 0).length : Int) then (if 0 ≤ i78 then ((((l0_0.take ((mn (l0_0.length : Int) 20).toNat)).drop 0)[i78.toNat]?).bind fun x209 => (if 0 ≤ mn (x209.size : Int) 66 then (if (mn (x209.size : Int) 66) ≤ (x209.size : Int) then (if (l81.length + ([x209.extract 0 ((mn (x209.size : Int) 66).toNat)] : List ByteArray).length) * 16 ≤ 140737488355328 then (tarrylaw03_few.l1 k l0_0 l0_1 ml1 (wrap64 (i78 + 1)) (l81 ++ ([x209.extract 0 ((mn (x209.size : Int) 66).toNat)] : List ByteArray))) else none) else none) else none)) else none) else (if 0 ≤ mn (l0_1.length : Int) 66 then (if (mn (l0_1.length : Int) 66) ≤ (l0_1.length : Int) then (tarrylaw03_few.l5 k l0_1 l81 k 0 ([] : List S32)) else none) else none))
def tarrylaw03_few.f (k : Nat) (l0_0 : List ByteArray) (l0_1 : List S32) : Option (List ByteArray × List S32) := (if 0 ≤ mn (l0_0.length : Int) 20 then (if (mn (l0_0.length : Int) 20) ≤ (l0_0.length : Int) then (tarrylaw03_few.l1 k l0_0 l0_1 k 0 ([] : List ByteArray)) else none) else none)
def disk_Right_1.f (a0 : ByteArray) : Option (Bool) := (some ((a0.size : Int) != 64))
def slices_IndexFunc_string_string.l1 (k : Nat) (l0 : List ByteArray) : Nat → Int → Option (Int)
  | 0, _ => none
  | ml1 + 1, i417 => (if i417 < (l0.length : Int) then (if 0 ≤ i417 then ((l0[i417.toNat]?).bind fun x446 => ((disk_Right_1.f x446).bind fun t449 => (if t449 = true then (some i417) else (slices_IndexFunc_string_string.l1 k l0 ml1 (wrap64 (i417 + 1)))))) else none) else (some (-1)))
def slices_IndexFunc_string_string.f (k : Nat) (l0 : List ByteArray) : Option (Int) := (slices_IndexFunc_string_string.l1 k l0 k 0)
def slices_ContainsFunc_string_string.f (k : Nat) (l0 : List ByteArray) : Option (Bool) := ((slices_IndexFunc_string_string.f k l0).bind fun t452 => (some (decide (t452 ≥ 0))))
def disk_Right_2.f (a0_0 : Int) (a0_1 : ByteArray) (a1_0 : Int) : Option (Bool) := (if a0_0 < 0 then (some true) else (if a0_0 ≥ a1_0 then (some true) else ((disk_Right_1.f a0_1).bind fun t477 => (some t477))))
def slices_IndexFunc_api_Write_api_Write.l1 (k : Nat) (a1_0_0 : Int) (l0 : List S32) : Nat → Int → Option (Int)
  | 0, _ => none
  | ml1 + 1, i538 => (if i538 < (l0.length : Int) then (if 0 ≤ i538 then ((l0[i538.toNat]?).bind fun x567 => ((disk_Right_2.f x567.f0 x567.f1 a1_0_0).bind fun t570 => (if t570 = true then (some i538) else (slices_IndexFunc_api_Write_api_Write.l1 k a1_0_0 l0 ml1 (wrap64 (i538 + 1)))))) else none) else (some (-1)))
def slices_IndexFunc_api_Write_api_Write.f (k : Nat) (l0 : List S32) (a1_0_0 : Int) : Option (Int) := (slices_IndexFunc_api_Write_api_Write.l1 k a1_0_0 l0 k 0)
def slices_ContainsFunc_api_Write_api_Write.f (k : Nat) (l0 : List S32) (a1_0_0 : Int) : Option (Bool) := ((slices_IndexFunc_api_Write_api_Write.f k l0 a1_0_0).bind fun t573 => (some (decide (t573 ≥ 0))))
def disk_Right.f (k : Nat) (l0_0 : List ByteArray) (l0_1 : List S32) : Option (Bool) := (if (l0_0.length : Int) ≥ 1 then (if (l0_0.length : Int) ≤ 512 then (if (l0_1.length : Int) ≤ 64 then ((slices_ContainsFunc_string_string.f k l0_0).bind fun t585 => (if t585 = true then (some false) else ((slices_ContainsFunc_api_Write_api_Write.f k l0_1 (l0_0.length : Int)).bind fun t588 => (if t588 = true then (some false) else (some true))))) else (some false)) else (some false)) else (some false))
def slices_Clone_string_string.f (l0 : List ByteArray) : Option (List ByteArray) := if l0.length * 16 ≤ 140737488355328 then some l0 else none
def disk_Crash.j2 (k : Nat) (a2 : Int) (l0_1 : List S32) (l1013 : List ByteArray) (i1014 : Int) : Option (List ByteArray × List S32 × Int) := (if i1014 ≥ 0 then (if a2 ≥ 1 then (if a2 < 64 then (if 0 ≤ i1014 then ((l0_1[i1014.toNat]?).bind fun x1057 => (if 0 ≤ x1057.f0 then ((l1013[x1057.f0.toNat]?).bind fun x1062 => (if 0 ≤ a2 then (if a2 ≤ (x1057.f1.size : Int) then (if (byI x1062).length = x1062.size then (if ((byI (x1057.f1.extract 0 a2.toNat)).take (min (x1057.f1.extract 0 a2.toNat).size x1062.size) ++ (byI x1062).drop (min (x1057.f1.extract 0 a2.toNat).size x1062.size)).length = x1062.size then ((l1013[x1057.f0.toNat]?).bind fun x1072 => (some ((l1013.set x1057.f0.toNat (strOfNums ((byI (x1057.f1.extract 0 a2.toNat)).take (min (x1057.f1.extract 0 a2.toNat).size x1062.size) ++ (byI x1062).drop (min (x1057.f1.extract 0 a2.toNat).size x1062.size)))), ([] : List S32), 0))) else none) else none) else none) else none)) else none)) else none) else (some (l1013, ([] : List S32), 0))) else (some (l1013, ([] : List S32), 0))) else (some (l1013, ([] : List S32), 0)))
def disk_Crash.l3 (k : Nat) (a1 : Int) (a2 : Int) (l0_1 : List S32) : Nat → (List ByteArray) → Int → Int → Option (List ByteArray × List S32 × Int)
  | 0, _, _, _ => none
  | ml3 + 1, l950, i951, i952 => (if i952 < (l0_1.length : Int) then (if 0 ≤ i952 then ((l0_1[i952.toNat]?).bind fun x999 => (if (Go.bits .and .u64 (a1.fdiv (2 ^ min i952.toNat IntKind.u64.bits)) 1) = 1 then (if 0 ≤ x999.f0 then ((l950[x999.f0.toNat]?).bind fun x1006 => (disk_Crash.l3 k a1 a2 l0_1 ml3 (l950.set x999.f0.toNat x999.f1) i951 (wrap64 (i952 + 1)))) else none) else (disk_Crash.l3 k a1 a2 l0_1 ml3 l950 i952 (wrap64 (i952 + 1))))) else none) else (disk_Crash.j2 k a2 l0_1 l950 i951))
def disk_Crash.f (k : Nat) (l0_0 : List ByteArray) (l0_1 : List S32) (a1 : Int) (a2 : Int) : Option (List ByteArray × List S32 × Int) := ((disk_Right.f k l0_0 l0_1).bind fun t602 => (if t602 = true then ((slices_Clone_string_string.f l0_0).bind fun r605 => (disk_Crash.l3 k a1 a2 l0_1 k r605 (-1) 0)) else (some (([] : List ByteArray), ([] : List S32), 1))))
def strings_Repeat.f (s : ByteArray) (c : Int) : Option ByteArray := if 0 ≤ c ∧ c ≤ 9223372036854775807 ∧ s.size * c.toNat ≤ 140737488355328 then some ⟨(Go.Lib.repeatL s.data.toList c.toNat).toArray⟩ else none
def slices_Repeat_string_string.f (l0 : List ByteArray) (a1 : Int) : Option (List ByteArray) := if 0 < l0.length ∧ 0 < a1 ∧ l0.length * a1.toNat * 16 ≤ 140737488355328 then some (repl l0 a1.toNat) else none
def disk_New.f (a0 : Int) : Option (List ByteArray × List S32 × Int) := (if a0 < 1 then (some (([] : List ByteArray), ([] : List S32), 1)) else (if a0 > 512 then (some (([] : List ByteArray), ([] : List S32), 1)) else ((strings_Repeat.f (⟨#[0]⟩ : ByteArray) 64).bind fun r1115 => ((slices_Repeat_string_string.f ([r1115] : List ByteArray) a0).bind fun r1119 => (some (r1119, ([] : List S32), 0))))))
def slices_Clip_api_Write_api_Write.f (l0 : List S32) : Option (List S32) := some l0
def disk_Put.f (k : Nat) (l0_0 : List ByteArray) (l0_1 : List S32) (a1 : Int) (a2 : ByteArray) : Option (List ByteArray × List S32 × Int) := ((disk_Right.f k l0_0 l0_1).bind fun t1232 => (if t1232 = true then (if a1 < 0 then (some (([] : List ByteArray), ([] : List S32), 8)) else (if a1 ≥ (l0_0.length : Int) then (some (([] : List ByteArray), ([] : List S32), 8)) else (if (a2.size : Int) = 64 then (if (l0_1.length : Int) = 64 then (some (([] : List ByteArray), ([] : List S32), 7)) else ((slices_Clip_api_Write_api_Write.f l0_1).bind fun r1252 => (if (r1252.length + ([(⟨a1, a2⟩ : S32)] : List S32).length) * 24 ≤ 140737488355328 then (some (l0_0, (r1252 ++ ([(⟨a1, a2⟩ : S32)] : List S32)), 0)) else none))) else (some (([] : List ByteArray), ([] : List S32), 1))))) else (some (([] : List ByteArray), ([] : List S32), 1))))
def slices_Backward_api_Write_api_Write.f (l0 : List S32) : Option (List S32) := (some l0)
def disk_Get.l0 (k : Nat) (a1 : Int) (l0_0 : List ByteArray) (r1317 : List S32) : Nat → Int → Option (ByteArray × Int)
  | 0, _ => none
  | ml0 + 1, i1357 => (if i1357 ≥ 0 then (if 0 ≤ i1357 then ((r1317[i1357.toNat]?).bind fun x1420 => (if x1420.f0 = a1 then (some (x1420.f1, 0)) else (disk_Get.l0 k a1 l0_0 r1317 ml0 (wrap64 (i1357 - 1))))) else none) else (if 0 ≤ a1 then ((l0_0[a1.toNat]?).bind fun x1427 => (some (x1427, 0))) else none))
def disk_Get.f (k : Nat) (l0_0 : List ByteArray) (l0_1 : List S32) (a1 : Int) : Option (ByteArray × Int) := ((disk_Right.f k l0_0 l0_1).bind fun t1303 => (if t1303 = true then (if a1 < 0 then (some ((⟨#[]⟩ : ByteArray), 8)) else (if a1 ≥ (l0_0.length : Int) then (some ((⟨#[]⟩ : ByteArray), 8)) else ((slices_Backward_api_Write_api_Write.f l0_1).bind fun r1317 => (disk_Get.l0 k a1 l0_0 r1317 k (wrap64 ((r1317.length : Int) - 1)))))) else (some ((⟨#[]⟩ : ByteArray), 1))))
def tarrylaw03_alive.f (k : Nat)  : Option (Bool) := ((disk_New.f 2).bind fun ⟨r1124, r1125, t1126⟩ => ((strings_Repeat.f (⟨#[97]⟩ : ByteArray) 64).bind fun r1133 => ((disk_Put.f k r1124 r1125 1 r1133).bind fun ⟨r1265, r1266, t1267⟩ => ((disk_Crash.f k r1265 r1266 0 3).bind fun ⟨r1273, r1274, t1275⟩ => ((disk_Get.f k r1273 r1274 1).bind fun ⟨t1430, t1431⟩ => (if t1126 = 0 then (if t1267 = 0 then (if t1275 = 0 then (if t1431 = 0 then (if (t1430.size : Int) = 64 then (if 4 ≤ (t1430.size : Int) then (some ((t1430.extract 0 4) == (⟨#[97, 97, 97, 0]⟩ : ByteArray))) else none) else (some false)) else (some false)) else (some false)) else (some false)) else (some false)))))))
def tarrylaw03_DiskCrashes.l21 (k : Nat) (rec_l17 : Int → Option (Bool)) (i11794 : Int) (i8762 : Int) (r328 : List S32) (x11491 : ByteArray) : Nat → Bool → Bool → Int → Option (Bool)
  | 0, _, _, _ => none
  | ml21 + 1, q12344, q12345, i12346 => (if i12346 < (r328.length : Int) then (if 0 ≤ i12346 then ((r328[i12346.toNat]?).bind fun x12386 => (if q12344 = true then (tarrylaw03_DiskCrashes.l21 k rec_l17 i11794 i8762 r328 x11491 ml21 true q12345 (wrap64 (i12346 + 1))) else (if x12386.f0 = i8762 then (if i11794 < (x12386.f1.size : Int) then (tarrylaw03_DiskCrashes.l21 k rec_l17 i11794 i8762 r328 x11491 ml21 ((bt x12386.f1 i11794) == (bt x11491 i11794)) q12345 (wrap64 (i12346 + 1))) else none) else (tarrylaw03_DiskCrashes.l21 k rec_l17 i11794 i8762 r328 x11491 ml21 false q12345 (wrap64 (i12346 + 1)))))) else none) else (if q12344 = true then (rec_l17 (wrap64 (i11794 + 1))) else none))
def tarrylaw03_DiskCrashes.l17 (k : Nat) (rec_l11 : Int → Option (Bool)) (i8762 : Int) (r327 : List ByteArray) (r328 : List S32) (x11491 : ByteArray) : Nat → Int → Option (Bool)
  | 0, _ => none
  | ml17 + 1, i11794 => (if i11794 < 64 then (if 0 ≤ i11794 then (if i11794 < (x11491.size : Int) then ((r327[i8762.toNat]?).bind fun x12250 => (if i11794 < (x12250.size : Int) then (tarrylaw03_DiskCrashes.l21 k (tarrylaw03_DiskCrashes.l17 k rec_l11 i8762 r327 r328 x11491 ml17) i11794 i8762 r328 x11491 k ((bt x11491 i11794) == (bt x12250 i11794)) ((bt x11491 i11794) == (bt x12250 i11794)) 0) else none)) else none) else none) else (rec_l11 (wrap64 (i8762 + 1))))
def tarrylaw03_DiskCrashes.l11 (k : Nat) (r1081 : List ByteArray) (r327 : List ByteArray) (r328 : List S32) : Nat → Int → Option (Bool)
  | 0, _ => none
  | ml11 + 1, i8762 => (if i8762 < (r1081.length : Int) then (if 0 ≤ i8762 then ((r1081[i8762.toNat]?).bind fun x11491 => (if (x11491.size : Int) = 64 then (tarrylaw03_DiskCrashes.l17 k (tarrylaw03_DiskCrashes.l11 k r1081 r327 r328 ml11) i8762 r327 r328 x11491 k 0) else none)) else none) else (some true))
def tarrylaw03_DiskCrashes.f (k : Nat) (l0_0 : List ByteArray) (l0_1 : List S32) (a1 : Int) (a2 : Int) : Option (Bool) := ((tarrylaw03_few.f k l0_0 l0_1).bind fun ⟨r327, r328⟩ => ((disk_Crash.f k r327 r328 a1 a2).bind fun ⟨r1081, r1082, t1083⟩ => (if t1083 = 0 then (if (r1082.length : Int) = 0 then (if (r1081.length : Int) = (r327.length : Int) then ((tarrylaw03_alive.f k).bind fun t1492 => (if t1492 = true then (tarrylaw03_DiskCrashes.l11 k r1081 r327 r328 k 0) else none)) else none) else none) else ((tarrylaw03_alive.f k).bind fun t12401 => (if t12401 = true then (some (t1083 == 1)) else none)))))
/-- THE ONE PURE STATEMENT. -/
def tarrylaw03_DiskCrashes.Pure : Prop := ∀ (l0_0 : List ByteArray) (l0_1 : List S32) (a1 : Int) (a2 : Int), allOk (fun x : ByteArray => x.size ≤ 9223372036854775807) l0_0 → allOk ok32 l0_1 → (Lit.int .u64 a1).wf = true → (Lit.int .i64 a2).wf = true → ∃ k, tarrylaw03_DiskCrashes.f k l0_0 l0_1 a1 a2 = some true

end Go.Proofs.Ytlfkendmepdbkaa.PDiskCrashes
