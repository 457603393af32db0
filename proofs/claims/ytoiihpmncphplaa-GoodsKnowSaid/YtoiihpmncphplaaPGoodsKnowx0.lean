/- Written by a program of this repo: what the program's functions do, each as a Lean function, shown of the loaded code; or a statement's row over that; no condition of its own. -/
import Derived.Test.YtoiihpmncphplaaProg
import Derived.Test.YtoiihpmncphplaaV13
namespace Go.Proofs.Ytoiihpmncphplaa.PGoodsKnow
open Go Go.RowKit Go.Proofs.YtoiihpmncphplaaV
set_option linter.unusedVariables false
set_option linter.unusedSimpArgs false

structure S22 where
  f0 : ByteArray
  f1 : ByteArray
  f2 : Int
  f3 : Int
  f4 : Int
def enc22 (x : S22) : List Value := [.string x.f0, .string x.f1, .int .i64 x.f2, .int .i64 x.f3, .int .i64 x.f4]
theorem enc22_ok (a : S22) : (enc22 a).length = 5 ∧ ∀ u ∈ enc22 a, u.oneCell' = true := ⟨rfl, by intro u hu; simp only [enc22, List.mem_cons, List.not_mem_nil, or_false] at hu; rcases hu with rfl | rfl | rfl | rfl | rfl <;> rfl⟩
def ok22 (x : S22) : Prop := x.f0.size ≤ 9223372036854775807 ∧ x.f1.size ≤ 9223372036854775807 ∧ (Lit.int .i64 x.f2).wf = true ∧ (Lit.int .i64 x.f3).wf = true ∧ (Lit.int .i64 x.f4).wf = true
def enc_str (x : ByteArray) : List Value := [.string x]
theorem enc_str_ok (a : ByteArray) : (enc_str a).length = 1 ∧ ∀ u ∈ enc_str a, u.oneCell' = true := ⟨rfl, by intro u hu; simp only [enc_str, List.mem_cons, List.not_mem_nil, or_false] at hu; rcases hu with rfl; rfl⟩
def enc_intu8 (x : Int) : List Value := [.int .u8 x]
theorem enc_intu8_ok (a : Int) : (enc_intu8 a).length = 1 ∧ ∀ u ∈ enc_intu8 a, u.oneCell' = true := ⟨rfl, by intro u hu; simp only [enc_intu8, List.mem_cons, List.not_mem_nil, or_false] at hu; rcases hu with rfl; rfl⟩
def enc_inti64 (x : Int) : List Value := [.int .i64 x]
theorem enc_inti64_ok (a : Int) : (enc_inti64 a).length = 1 ∧ ∀ u ∈ enc_inti64 a, u.oneCell' = true := ⟨rfl, by intro u hu; simp only [enc_inti64, List.mem_cons, List.not_mem_nil, or_false] at hu; rcases hu with rfl; rfl⟩
theorem VC.join0 {E : Env} {P : Program} {Q : Exit → Act → World → Prop} {s : St}  {c1 c2 : Code} (I : St) (F : Prop) (hx : VC P E c1 (Exit.then (fun a w => F ∧ Inv E (I) a w) Q) s) (hy : F → VC P E c2 Q (I)) : VC P E (.seq c1 c2) Q s :=
  fun a w hi => wp_seq (Code.wp_mono (fun e a w h => by
    cases e <;> first | exact h | (obtain ⟨hf, hi⟩ := h; exact hy  hf a w hi)) (hx a w hi))
theorem VN.meet0 {E : Env} {Q : Exit → Act → World → Prop} {s : St}  {I : St} {F : Prop}  (bs rs : List Nat) (hf : F) (hl : Le s (I) bs rs) : VN E (Exit.then (fun a w => F ∧ Inv E (I) a w) Q) s :=
  fun a w hi => ⟨hf, hi.le hl⟩
theorem VC.join1 {E : Env} {P : Program} {Q : Exit → Act → World → Prop} {s : St} {α0 : Type} {c1 c2 : Code} (I : α0 → St) (F : α0 → Prop) (hx : VC P E c1 (Exit.then (fun a w => ∃ (x0 : α0), F x0 ∧ Inv E (I x0) a w) Q) s) (hy : ∀ (x0 : α0), F x0 → VC P E c2 Q (I x0)) : VC P E (.seq c1 c2) Q s :=
  fun a w hi => wp_seq (Code.wp_mono (fun e a w h => by
    cases e <;> first | exact h | (obtain ⟨x0, hf, hi⟩ := h; exact hy x0 hf a w hi)) (hx a w hi))
theorem VN.meet1 {E : Env} {Q : Exit → Act → World → Prop} {s : St} {α0 : Type} {I : α0 → St} {F : α0 → Prop} (x0 : α0) (bs rs : List Nat) (hf : F x0) (hl : Le s (I x0) bs rs) : VN E (Exit.then (fun a w => ∃ (x0 : α0), F x0 ∧ Inv E (I x0) a w) Q) s :=
  fun a w hi => ⟨x0, hf, hi.le hl⟩
theorem VC.join2 {E : Env} {P : Program} {Q : Exit → Act → World → Prop} {s : St} {α0 : Type} {α1 : Type} {c1 c2 : Code} (I : α0 → α1 → St) (F : α0 → α1 → Prop) (hx : VC P E c1 (Exit.then (fun a w => ∃ (x0 : α0) (x1 : α1), F x0 x1 ∧ Inv E (I x0 x1) a w) Q) s) (hy : ∀ (x0 : α0) (x1 : α1), F x0 x1 → VC P E c2 Q (I x0 x1)) : VC P E (.seq c1 c2) Q s :=
  fun a w hi => wp_seq (Code.wp_mono (fun e a w h => by
    cases e <;> first | exact h | (obtain ⟨x0, x1, hf, hi⟩ := h; exact hy x0 x1 hf a w hi)) (hx a w hi))
theorem VN.meet2 {E : Env} {Q : Exit → Act → World → Prop} {s : St} {α0 : Type} {α1 : Type} {I : α0 → α1 → St} {F : α0 → α1 → Prop} (x0 : α0) (x1 : α1) (bs rs : List Nat) (hf : F x0 x1) (hl : Le s (I x0 x1) bs rs) : VN E (Exit.then (fun a w => ∃ (x0 : α0) (x1 : α1), F x0 x1 ∧ Inv E (I x0 x1) a w) Q) s :=
  fun a w hi => ⟨x0, x1, hf, hi.le hl⟩
theorem VC.loop1 {E : Env} {P : Program} {Q : Exit → Act → World → Prop} {s : St} {α0 : Type} {c : Code} (I : α0 → St) (F : Nat → α0 → Prop) (k : Nat) (x0 : α0) (bs rs : List Nat) (hf : F k x0) (hl : Le s (I x0) bs rs) (hz : ∀ (x0 : α0), ¬ F 0 x0) (h : ∀ k, (∀ (x0 : α0), F k x0 → VLp P E c Q k (I x0)) → ∀ (x0 : α0), F (k + 1) x0 → VC P E c (Exit.then (Code.rounds P c Q k) Q) (I x0)) : VC P E (.loop c) Q s := by
  have key : ∀ k (x0 : α0), F k x0 → VLp P E c Q k (I x0) := by
    intro k
    induction k with
    | zero => intro x0 hf; exact absurd hf (hz x0)
    | succ k ih => intro x0 hf; exact VLp.succ (h k ih x0 hf)
  exact fun a w hi => wp_loop_rounds k (key k x0 hf a w (hi.le hl))
theorem VC.loop2 {E : Env} {P : Program} {Q : Exit → Act → World → Prop} {s : St} {α0 : Type} {α1 : Type} {c : Code} (I : α0 → α1 → St) (F : Nat → α0 → α1 → Prop) (k : Nat) (x0 : α0) (x1 : α1) (bs rs : List Nat) (hf : F k x0 x1) (hl : Le s (I x0 x1) bs rs) (hz : ∀ (x0 : α0) (x1 : α1), ¬ F 0 x0 x1) (h : ∀ k, (∀ (x0 : α0) (x1 : α1), F k x0 x1 → VLp P E c Q k (I x0 x1)) → ∀ (x0 : α0) (x1 : α1), F (k + 1) x0 x1 → VC P E c (Exit.then (Code.rounds P c Q k) Q) (I x0 x1)) : VC P E (.loop c) Q s := by
  have key : ∀ k (x0 : α0) (x1 : α1), F k x0 x1 → VLp P E c Q k (I x0 x1) := by
    intro k
    induction k with
    | zero => intro x0 x1 hf; exact absurd hf (hz x0 x1)
    | succ k ih => intro x0 x1 hf; exact VLp.succ (h k ih x0 x1 hf)
  exact fun a w hi => wp_loop_rounds k (key k x0 x1 hf a w (hi.le hl))
theorem VC.loop3 {E : Env} {P : Program} {Q : Exit → Act → World → Prop} {s : St} {α0 : Type} {α1 : Type} {α2 : Type} {c : Code} (I : α0 → α1 → α2 → St) (F : Nat → α0 → α1 → α2 → Prop) (k : Nat) (x0 : α0) (x1 : α1) (x2 : α2) (bs rs : List Nat) (hf : F k x0 x1 x2) (hl : Le s (I x0 x1 x2) bs rs) (hz : ∀ (x0 : α0) (x1 : α1) (x2 : α2), ¬ F 0 x0 x1 x2) (h : ∀ k, (∀ (x0 : α0) (x1 : α1) (x2 : α2), F k x0 x1 x2 → VLp P E c Q k (I x0 x1 x2)) → ∀ (x0 : α0) (x1 : α1) (x2 : α2), F (k + 1) x0 x1 x2 → VC P E c (Exit.then (Code.rounds P c Q k) Q) (I x0 x1 x2)) : VC P E (.loop c) Q s := by
  have key : ∀ k (x0 : α0) (x1 : α1) (x2 : α2), F k x0 x1 x2 → VLp P E c Q k (I x0 x1 x2) := by
    intro k
    induction k with
    | zero => intro x0 x1 x2 hf; exact absurd hf (hz x0 x1 x2)
    | succ k ih => intro x0 x1 x2 hf; exact VLp.succ (h k ih x0 x1 x2 hf)
  exact fun a w hi => wp_loop_rounds k (key k x0 x1 x2 hf a w (hi.le hl))
theorem VC.loop4 {E : Env} {P : Program} {Q : Exit → Act → World → Prop} {s : St} {α0 : Type} {α1 : Type} {α2 : Type} {α3 : Type} {c : Code} (I : α0 → α1 → α2 → α3 → St) (F : Nat → α0 → α1 → α2 → α3 → Prop) (k : Nat) (x0 : α0) (x1 : α1) (x2 : α2) (x3 : α3) (bs rs : List Nat) (hf : F k x0 x1 x2 x3) (hl : Le s (I x0 x1 x2 x3) bs rs) (hz : ∀ (x0 : α0) (x1 : α1) (x2 : α2) (x3 : α3), ¬ F 0 x0 x1 x2 x3) (h : ∀ k, (∀ (x0 : α0) (x1 : α1) (x2 : α2) (x3 : α3), F k x0 x1 x2 x3 → VLp P E c Q k (I x0 x1 x2 x3)) → ∀ (x0 : α0) (x1 : α1) (x2 : α2) (x3 : α3), F (k + 1) x0 x1 x2 x3 → VC P E c (Exit.then (Code.rounds P c Q k) Q) (I x0 x1 x2 x3)) : VC P E (.loop c) Q s := by
  have key : ∀ k (x0 : α0) (x1 : α1) (x2 : α2) (x3 : α3), F k x0 x1 x2 x3 → VLp P E c Q k (I x0 x1 x2 x3) := by
    intro k
    induction k with
    | zero => intro x0 x1 x2 x3 hf; exact absurd hf (hz x0 x1 x2 x3)
    | succ k ih => intro x0 x1 x2 x3 hf; exact VLp.succ (h k ih x0 x1 x2 x3 hf)
  exact fun a w hi => wp_loop_rounds k (key k x0 x1 x2 x3 hf a w (hi.le hl))
theorem VC.stop0 {E : Env} {P : Program} {Q : Exit → Act → World → Prop} {s : St}  {c1 : Code} (I : St) (F : Prop) (hx : VC P E c1 (Exit.then (fun a w => F ∧ Inv E (I) a w) Q) s) (hy : F → VN E Q (I)) : VC P E c1 Q s :=
  fun a w hi => Code.wp_mono (fun e a w h => by
    cases e <;> first | exact h | (obtain ⟨hf, hi⟩ := h; exact hy  hf a w hi)) (hx a w hi)
theorem VC.stop1 {E : Env} {P : Program} {Q : Exit → Act → World → Prop} {s : St} {α0 : Type} {c1 : Code} (I : α0 → St) (F : α0 → Prop) (hx : VC P E c1 (Exit.then (fun a w => ∃ (x0 : α0), F x0 ∧ Inv E (I x0) a w) Q) s) (hy : ∀ (x0 : α0), F x0 → VN E Q (I x0)) : VC P E c1 Q s :=
  fun a w hi => Code.wp_mono (fun e a w h => by
    cases e <;> first | exact h | (obtain ⟨x0, hf, hi⟩ := h; exact hy x0 hf a w hi)) (hx a w hi)
theorem VC.stop2 {E : Env} {P : Program} {Q : Exit → Act → World → Prop} {s : St} {α0 : Type} {α1 : Type} {c1 : Code} (I : α0 → α1 → St) (F : α0 → α1 → Prop) (hx : VC P E c1 (Exit.then (fun a w => ∃ (x0 : α0) (x1 : α1), F x0 x1 ∧ Inv E (I x0 x1) a w) Q) s) (hy : ∀ (x0 : α0) (x1 : α1), F x0 x1 → VN E Q (I x0 x1)) : VC P E c1 Q s :=
  fun a w hi => Code.wp_mono (fun e a w h => by
    cases e <;> first | exact h | (obtain ⟨x0, x1, hf, hi⟩ := h; exact hy x0 x1 hf a w hi)) (hx a w hi)
theorem TI35 : TI Try.prog 35 true 2 := ⟨⟨_, Try.underlying35, rfl⟩, by kernel_rfl⟩
theorem Z35 : (Try.prog.info? 35).bind (·.zero) = some (.agg #[.slice none 0 0, .slice none 0 0]) := by kernel_rfl
theorem ZL35 : (.agg #[.slice none 0 0, .slice none 0 0] : Value).cells.toList = [.slice none 0 0, .slice none 0 0] := rfl
theorem TI32 : TI Try.prog 32 false 1 := ⟨⟨_, Try.underlying32, rfl⟩, by kernel_rfl⟩
theorem FI35_0 : FI Try.prog 35 0 0 1 := ⟨_, _, _, Try.underlying35, rfl, rfl, TI32⟩
theorem TI9 : TI Try.prog 9 false 1 := ⟨⟨_, Try.underlying9, rfl⟩, by kernel_rfl⟩
theorem Z9 : (Try.prog.info? 9).bind (·.zero) = some (.string (⟨#[]⟩ : ByteArray)) := by kernel_rfl
theorem EI9 : EI Try.prog 9 1 16 := ei_of (z := .string (⟨#[]⟩ : ByteArray)) (by kernel_rfl) rfl (by decide) (by decide)
theorem TI33 : TI Try.prog 33 false 1 := ⟨⟨_, Try.underlying33, rfl⟩, by kernel_rfl⟩
theorem FI35_1 : FI Try.prog 35 1 1 1 := ⟨_, _, _, Try.underlying35, rfl, rfl, TI33⟩
theorem TI23 : TI Try.prog 23 true 5 := ⟨⟨_, Try.underlying23, rfl⟩, by kernel_rfl⟩
theorem Z23 : (Try.prog.info? 23).bind (·.zero) = some (.agg #[.string (⟨#[]⟩ : ByteArray), .string (⟨#[]⟩ : ByteArray), .int .i64 0, .int .i64 0, .int .i64 0]) := by kernel_rfl
theorem ZL23 : (.agg #[.string (⟨#[]⟩ : ByteArray), .string (⟨#[]⟩ : ByteArray), .int .i64 0, .int .i64 0, .int .i64 0] : Value).cells.toList = [.string (⟨#[]⟩ : ByteArray), .string (⟨#[]⟩ : ByteArray), .int .i64 0, .int .i64 0, .int .i64 0] := rfl
theorem FI23_0 : FI Try.prog 23 0 0 1 := ⟨_, _, _, Try.underlying23, rfl, rfl, TI9⟩
theorem FI23_1 : FI Try.prog 23 1 1 1 := ⟨_, _, _, Try.underlying23, rfl, rfl, TI9⟩
theorem FO6 : FOk Try.prog 6 := ⟨_, Try.func6, by kernel_rfl, by kernel_rfl⟩
theorem EI23 : EI Try.prog 23 5 56 := ei_of (z := .agg #[.string (⟨#[]⟩ : ByteArray), .string (⟨#[]⟩ : ByteArray), .int .i64 0, .int .i64 0, .int .i64 0]) (by kernel_rfl) rfl (by decide) (by decide)
theorem FO11 : FOk Try.prog 11 := ⟨_, Try.func11, by kernel_rfl, by kernel_rfl⟩
theorem FO33 : FOk Try.prog 33 := ⟨_, Try.func33, by kernel_rfl, by kernel_rfl⟩
theorem FO44 : FOk Try.prog 44 := ⟨_, Try.func44, by kernel_rfl, by kernel_rfl⟩
theorem FO27 : FOk Try.prog 27 := ⟨_, Try.func27, by kernel_rfl, by kernel_rfl⟩
theorem TI5 : TI Try.prog 5 false 1 := ⟨⟨_, Try.underlying5, rfl⟩, by kernel_rfl⟩
theorem FO50 : FOk Try.prog 50 := ⟨_, Try.func50, by kernel_rfl, by kernel_rfl⟩
theorem FO59 : FOk Try.prog 59 := ⟨_, Try.func59, by kernel_rfl, by kernel_rfl⟩
theorem FO51 : FOk Try.prog 51 := ⟨_, Try.func51, by kernel_rfl, by kernel_rfl⟩
theorem FO36 : FOk Try.prog 36 := ⟨_, Try.func36, by kernel_rfl, by kernel_rfl⟩
theorem TI3 : TI Try.prog 3 false 1 := ⟨⟨_, Try.underlying3, rfl⟩, by kernel_rfl⟩
theorem FI23_2 : FI Try.prog 23 2 2 1 := ⟨_, _, _, Try.underlying23, rfl, rfl, TI3⟩
theorem FO24 : FOk Try.prog 24 := ⟨_, Try.func24, by kernel_rfl, by kernel_rfl⟩
theorem FI23_3 : FI Try.prog 23 3 3 1 := ⟨_, _, _, Try.underlying23, rfl, rfl, TI3⟩
theorem FI23_4 : FI Try.prog 23 4 4 1 := ⟨_, _, _, Try.underlying23, rfl, rfl, TI3⟩
theorem FO23 : FOk Try.prog 23 := ⟨_, Try.func23, by kernel_rfl, by kernel_rfl⟩
theorem FO43 : FOk Try.prog 43 := ⟨_, Try.func43, by kernel_rfl, by kernel_rfl⟩
theorem FO26 : FOk Try.prog 26 := ⟨_, Try.func26, by kernel_rfl, by kernel_rfl⟩
theorem FO35 : FOk Try.prog 35 := ⟨_, Try.func35, by kernel_rfl, by kernel_rfl⟩
theorem FO49 : FOk Try.prog 49 := ⟨_, Try.func49, by kernel_rfl, by kernel_rfl⟩
theorem FO34 : FOk Try.prog 34 := ⟨_, Try.func34, by kernel_rfl, by kernel_rfl⟩
theorem FO52 : FOk Try.prog 52 := ⟨_, Try.func52, by kernel_rfl, by kernel_rfl⟩
theorem FO38 : FOk Try.prog 38 := ⟨_, Try.func38, by kernel_rfl, by kernel_rfl⟩
theorem FO37 : FOk Try.prog 37 := ⟨_, Try.func37, by kernel_rfl, by kernel_rfl⟩
theorem FO58 : FOk Try.prog 58 := ⟨_, Try.func58, by kernel_rfl, by kernel_rfl⟩
theorem FO48 : FOk Try.prog 48 := ⟨_, Try.func48, by kernel_rfl, by kernel_rfl⟩
theorem Z3 : (Try.prog.info? 3).bind (·.zero) = some (.int .i64 0) := by kernel_rfl
theorem FO47 : FOk Try.prog 47 := ⟨_, Try.func47, by kernel_rfl, by kernel_rfl⟩
theorem FO29 : FOk Try.prog 29 := ⟨_, Try.func29, by kernel_rfl, by kernel_rfl⟩
theorem FO39 : FOk Try.prog 39 := ⟨_, Try.func39, by kernel_rfl, by kernel_rfl⟩
theorem FO14 : FOk Try.prog 14 := ⟨_, Try.func14, by kernel_rfl, by kernel_rfl⟩
theorem SI35 : SI Try.prog 35 [.slice none 0 0, .slice none 0 0] [(0, 1), (1, 1)] := ⟨⟨_, Try.underlying35, (.cons ⟨rfl, _, TI32⟩ (.cons ⟨rfl, _, TI33⟩ .nil))⟩, Z35⟩
theorem FO53 : FOk Try.prog 53 := ⟨_, Try.func53, by kernel_rfl, by kernel_rfl⟩
theorem FO55 : FOk Try.prog 55 := ⟨_, Try.func55, by kernel_rfl, by kernel_rfl⟩
theorem FO54 : FOk Try.prog 54 := ⟨_, Try.func54, by kernel_rfl, by kernel_rfl⟩
theorem FO40 : FOk Try.prog 40 := ⟨_, Try.func40, by kernel_rfl, by kernel_rfl⟩
theorem FO16 : FOk Try.prog 16 := ⟨_, Try.func16, by kernel_rfl, by kernel_rfl⟩
theorem FO25 : FOk Try.prog 25 := ⟨_, Try.func25, by kernel_rfl, by kernel_rfl⟩
theorem FO45 : FOk Try.prog 45 := ⟨_, Try.func45, by kernel_rfl, by kernel_rfl⟩
theorem FO31 : FOk Try.prog 31 := ⟨_, Try.func31, by kernel_rfl, by kernel_rfl⟩
theorem FO46 : FOk Try.prog 46 := ⟨_, Try.func46, by kernel_rfl, by kernel_rfl⟩
theorem FO28 : FOk Try.prog 28 := ⟨_, Try.func28, by kernel_rfl, by kernel_rfl⟩
theorem FO12 : FOk Try.prog 12 := ⟨_, Try.func12, by kernel_rfl, by kernel_rfl⟩
theorem FO32 : FOk Try.prog 32 := ⟨_, Try.func32, by kernel_rfl, by kernel_rfl⟩
theorem FO30 : FOk Try.prog 30 := ⟨_, Try.func30, by kernel_rfl, by kernel_rfl⟩
theorem FO13 : FOk Try.prog 13 := ⟨_, Try.func13, by kernel_rfl, by kernel_rfl⟩
theorem FO18 : FOk Try.prog 18 := ⟨_, Try.func18, by kernel_rfl, by kernel_rfl⟩
theorem FO41 : FOk Try.prog 41 := ⟨_, Try.func41, by kernel_rfl, by kernel_rfl⟩
theorem FO8 : FOk Try.prog 8 := ⟨_, Try.func8, by kernel_rfl, by kernel_rfl⟩
theorem FO19 : FOk Try.prog 19 := ⟨_, Try.func19, by kernel_rfl, by kernel_rfl⟩
theorem FO42 : FOk Try.prog 42 := ⟨_, Try.func42, by kernel_rfl, by kernel_rfl⟩
theorem FO17 : FOk Try.prog 17 := ⟨_, Try.func17, by kernel_rfl, by kernel_rfl⟩
theorem SI23 : SI Try.prog 23 [.string (⟨#[]⟩ : ByteArray), .string (⟨#[]⟩ : ByteArray), .int .i64 0, .int .i64 0, .int .i64 0] [(0, 1), (1, 1), (2, 1), (3, 1), (4, 1)] := ⟨⟨_, Try.underlying23, (.cons ⟨rfl, _, TI9⟩ (.cons ⟨rfl, _, TI9⟩ (.cons ⟨rfl, _, TI3⟩ (.cons ⟨rfl, _, TI3⟩ (.cons ⟨rfl, _, TI3⟩ .nil)))))⟩, Z23⟩
theorem FO7 : FOk Try.prog 7 := ⟨_, Try.func7, by kernel_rfl, by kernel_rfl⟩
theorem FO9 : FOk Try.prog 9 := ⟨_, Try.func9, by kernel_rfl, by kernel_rfl⟩
theorem EQ23 (a0 : ByteArray) (a1 : ByteArray) (a2 : Int) (a3 : Int) (a4 : Int) (b0 : ByteArray) (b1 : ByteArray) (b2 : Int) (b3 : Int) (b4 : Int) : EqV Try.prog 10000 23 (.agg #[.string a0, .string a1, .int .i64 a2, .int .i64 a3, .int .i64 a4]) (.agg #[.string b0, .string b1, .int .i64 b2, .int .i64 b3, .int .i64 b4]) ((a0 == b0) && ((a1 == b1) && ((a2 == b2) && ((a3 == b3) && (a4 == b4))))) := (.struct Try.underlying23 (by kernel_rfl) (.cons (by decide) TI9 (fun _ => rfl) rfl rfl rfl rfl (.string Try.underlying9) (.cons (by decide) TI9 (fun _ => rfl) rfl rfl rfl rfl (.string Try.underlying9) (.cons (by decide) TI3 (fun _ => rfl) rfl rfl rfl rfl (.int Try.underlying3) (.cons (by decide) TI3 (fun _ => rfl) rfl rfl rfl rfl (.int Try.underlying3) (.one (by decide) TI3 (fun _ => rfl) rfl rfl rfl rfl (.int Try.underlying3)))))))
theorem EG23 : Try.prog.eqGuardType Try.prog.depth 23 = false := by kernel_rfl
theorem FO15 : FOk Try.prog 15 := ⟨_, Try.func15, by kernel_rfl, by kernel_rfl⟩
theorem FO21 : FOk Try.prog 21 := ⟨_, Try.func21, by kernel_rfl, by kernel_rfl⟩
theorem FO22 : FOk Try.prog 22 := ⟨_, Try.func22, by kernel_rfl, by kernel_rfl⟩
theorem FO20 : FOk Try.prog 20 := ⟨_, Try.func20, by kernel_rfl, by kernel_rfl⟩
def tarrylaw07_cut.f (a0_0 : ByteArray) (a0_1 : ByteArray) (a0_2 : Int) (a0_3 : Int) (a0_4 : Int) : Option (ByteArray × ByteArray × Int × Int × Int) := (if 0 ≤ mn (a0_0.size : Int) 18 then (if (mn (a0_0.size : Int) 18) ≤ (a0_0.size : Int) then (if 0 ≤ mn (a0_1.size : Int) 18 then (if (mn (a0_1.size : Int) 18) ≤ (a0_1.size : Int) then (some (a0_0.extract 0 ((mn (a0_0.size : Int) 18).toNat), a0_1.extract 0 ((mn (a0_1.size : Int) 18).toNat), a0_2, a0_3, a0_4)) else none) else none) else none) else none)
def tarrylaw07_few.l5 (k : Nat) (l0_1 : List S22) (l82 : List ByteArray) : Nat → Int → (List S22) → Option (List ByteArray × List S22)
  | 0, _, _ => none
  | ml5 + 1, i339, l342 => (if i339 < (((l0_1.take ((mn (l0_1.length : Int) 18).toNat)).drop 0).length : Int) then (if 0 ≤ i339 then ((((l0_1.take ((mn (l0_1.length : Int) 18).toNat)).drop 0)[i339.toNat]?).bind fun x367 => ((tarrylaw07_cut.f x367.f0 x367.f1 x367.f2 x367.f3 x367.f4).bind fun ⟨t371, t372, t373, t374, t375⟩ => (if (l342.length + ([(⟨t371, t372, t373, t374, t375⟩ : S22)] : List S22).length) * 56 ≤ 140737488355328 then (tarrylaw07_few.l5 k l0_1 l82 ml5 (wrap64 (i339 + 1)) (l342 ++ ([(⟨t371, t372, t373, t374, t375⟩ : S22)] : List S22))) else none))) else none) else (some (l82, l342)))
def tarrylaw07_few.l1 (k : Nat) (l0_0 : List ByteArray) (l0_1 : List S22) : Nat → Int → (List ByteArray) → Option (List ByteArray × List S22)
  | 0, _, _ => none
  | ml1 + 1, i79, l82 => (if i79 < (((l0_0.take ((mn (l0_0.length : Int) 10).toNat)).drop 0).length : Int) then (if 0 ≤ i79 then ((((l0_0.take ((mn (l0_0.length : Int) 10).toNat)).drop 0)[i79.toNat]?).bind fun x240 => (if 0 ≤ mn (x240.size : Int) 18 then (if (mn (x240.size : Int) 18) ≤ (x240.size : Int) then (if (l82.length + ([x240.extract 0 ((mn (x240.size : Int) 18).toNat)] : List ByteArray).length) * 16 ≤ 140737488355328 then (tarrylaw07_few.l1 k l0_0 l0_1 ml1 (wrap64 (i79 + 1)) (l82 ++ ([x240.extract 0 ((mn (x240.size : Int) 18).toNat)] : List ByteArray))) else none) else none) else none)) else none) else (if 0 ≤ mn (l0_1.length : Int) 18 then (if (mn (l0_1.length : Int) 18) ≤ (l0_1.length : Int) then (tarrylaw07_few.l5 k l0_1 l82 k 0 ([] : List S22)) else none) else none))
def tarrylaw07_few.f (k : Nat) (l0_0 : List ByteArray) (l0_1 : List S22) : Option (List ByteArray × List S22) := (if 0 ≤ mn (l0_0.length : Int) 10 then (if (mn (l0_0.length : Int) 10) ≤ (l0_0.length : Int) then (tarrylaw07_few.l1 k l0_0 l0_1 k 0 ([] : List ByteArray)) else none) else none)
def goods_Right_1.f (a0_0 : ByteArray) (a0_1 : ByteArray) (a0_2 : Int) (a0_3 : Int) (a0_4 : Int) (a1_0 : ByteArray) (a1_1 : ByteArray) (a1_2 : Int) (a1_3 : Int) (a1_4 : Int) : Option (Bool) := (if (a0_0 == a1_0) = true then (some (a0_1 == a1_1)) else (some false))
def slices_IndexFunc_api_Sub_api_Sub.l1 (k : Nat) (a1_0_0 : ByteArray) (a1_0_1 : ByteArray) (a1_0_2 : Int) (a1_0_3 : Int) (a1_0_4 : Int) (l0 : List S22) : Nat → Int → Option (Int)
  | 0, _ => none
  | ml1 + 1, i488 => (if i488 < (l0.length : Int) then (if 0 ≤ i488 then ((l0[i488.toNat]?).bind fun x517 => ((goods_Right_1.f x517.f0 x517.f1 x517.f2 x517.f3 x517.f4 a1_0_0 a1_0_1 a1_0_2 a1_0_3 a1_0_4).bind fun t520 => (if t520 = true then (some i488) else (slices_IndexFunc_api_Sub_api_Sub.l1 k a1_0_0 a1_0_1 a1_0_2 a1_0_3 a1_0_4 l0 ml1 (wrap64 (i488 + 1)))))) else none) else (some (-1)))
def slices_IndexFunc_api_Sub_api_Sub.f (k : Nat) (l0 : List S22) (a1_0_0 : ByteArray) (a1_0_1 : ByteArray) (a1_0_2 : Int) (a1_0_3 : Int) (a1_0_4 : Int) : Option (Int) := (slices_IndexFunc_api_Sub_api_Sub.l1 k a1_0_0 a1_0_1 a1_0_2 a1_0_3 a1_0_4 l0 k 0)
def slices_ContainsFunc_api_Sub_api_Sub.f (k : Nat) (l0 : List S22) (a1_0_0 : ByteArray) (a1_0_1 : ByteArray) (a1_0_2 : Int) (a1_0_3 : Int) (a1_0_4 : Int) : Option (Bool) := ((slices_IndexFunc_api_Sub_api_Sub.f k l0 a1_0_0 a1_0_1 a1_0_2 a1_0_3 a1_0_4).bind fun t523 => (some (decide (t523 ≥ 0))))
def goods_name_1.f (a0 : Int) : Option (Bool) := (if a0 < 97 then (if a0 < 48 then (some true) else (some (decide (a0 > 57)))) else (if a0 > 122 then (if a0 < 48 then (some true) else (some (decide (a0 > 57)))) else (some false)))
def slices_IndexFunc_byte_byte.l1 (k : Nat) (l0 : List Int) : Nat → Int → Option (Int)
  | 0, _ => none
  | ml1 + 1, i624 => (if i624 < (l0.length : Int) then (if 0 ≤ i624 then ((l0[i624.toNat]?).bind fun x653 => ((goods_name_1.f x653).bind fun t656 => (if t656 = true then (some i624) else (slices_IndexFunc_byte_byte.l1 k l0 ml1 (wrap64 (i624 + 1)))))) else none) else (some (-1)))
def slices_IndexFunc_byte_byte.f (k : Nat) (l0 : List Int) : Option (Int) := (slices_IndexFunc_byte_byte.l1 k l0 k 0)
def slices_ContainsFunc_byte_byte.f (k : Nat) (l0 : List Int) : Option (Bool) := ((slices_IndexFunc_byte_byte.f k l0).bind fun t659 => (some (decide (t659 ≥ 0))))
def goods_name.f (k : Nat) (a0 : ByteArray) : Option (Bool) := (if (a0 == (⟨#[]⟩ : ByteArray)) = true then (some false) else (if (a0.size : Int) ≤ 16 then (if a0.size ≤ 140737488355328 then ((slices_ContainsFunc_byte_byte.f k (byI a0)).bind fun t672 => (if t672 = true then (some false) else (some true))) else none) else (some false)))
def goods_in.f (a0 : Int) (a1 : Int) : Option (Bool) := (if a0 ≥ 1 then (some (decide (a0 ≤ a1))) else (some false))
def goods_may.f (k : Nat) (a0_0 : ByteArray) (a0_1 : ByteArray) (a0_2 : Int) (a0_3 : Int) (a0_4 : Int) : Option (Bool) := ((goods_name.f k a0_0).bind fun t697 => (if t697 = true then ((goods_name.f k a0_1).bind fun t700 => (if t700 = true then (if (a0_0 == a0_1) = true then (some false) else ((goods_in.f a0_2 9).bind fun t705 => (if t705 = true then ((goods_in.f a0_3 100).bind fun t708 => (if t708 = true then ((goods_in.f a0_4 100).bind fun t711 => (some t711)) else (some false))) else (some false)))) else (some false))) else (some false)))
def slices_Index_string_string.l1 (k : Nat) (a1 : ByteArray) (l0 : List ByteArray) : Nat → Int → Option (Int)
  | 0, _ => none
  | ml1 + 1, i775 => (if i775 < (l0.length : Int) then (if 0 ≤ i775 then ((l0[i775.toNat]?).bind fun x801 => (if (a1 == x801) = true then (some i775) else (slices_Index_string_string.l1 k a1 l0 ml1 (wrap64 (i775 + 1))))) else none) else (some (-1)))
def slices_Index_string_string.f (k : Nat) (l0 : List ByteArray) (a1 : ByteArray) : Option (Int) := (slices_Index_string_string.l1 k a1 l0 k 0)
def slices_Contains_string_string.f (k : Nat) (l0 : List ByteArray) (a1 : ByteArray) : Option (Bool) := ((slices_Index_string_string.f k l0 a1).bind fun t806 => (some (decide (t806 ≥ 0))))
def goods_Right_2.f (k : Nat) (a0 : ByteArray) : Option (Bool) := ((goods_name.f k a0).bind fun t1119 => (if t1119 = true then (some false) else (some true)))
def slices_IndexFunc_string_string.l1 (k : Nat) (l0 : List ByteArray) : Nat → Int → Option (Int)
  | 0, _ => none
  | ml1 + 1, i1181 => (if i1181 < (l0.length : Int) then (if 0 ≤ i1181 then ((l0[i1181.toNat]?).bind fun x1210 => ((goods_Right_2.f k x1210).bind fun t1213 => (if t1213 = true then (some i1181) else (slices_IndexFunc_string_string.l1 k l0 ml1 (wrap64 (i1181 + 1)))))) else none) else (some (-1)))
def slices_IndexFunc_string_string.f (k : Nat) (l0 : List ByteArray) : Option (Int) := (slices_IndexFunc_string_string.l1 k l0 k 0)
def slices_ContainsFunc_string_string.f (k : Nat) (l0 : List ByteArray) : Option (Bool) := ((slices_IndexFunc_string_string.f k l0).bind fun t1216 => (some (decide (t1216 ≥ 0))))
def internal_bytealg_CompareString.f (a0 : ByteArray) (a1 : ByteArray) : Option (Int) := (some (Lib.compareBytes a0.data.toList a1.data.toList))
def strings_Compare.f (a0 : ByteArray) (a1 : ByteArray) : Option (Int) := ((internal_bytealg_CompareString.f a0 a1).bind fun t1235 => (some t1235))
def goods_rising_string.l1 (k : Nat) (a1 : Int) (l0 : List ByteArray) : Nat → Int → Option (Bool)
  | 0, _ => none
  | ml1 + 1, i1307 => (if i1307 < (l0.length : Int) then (if 0 ≤ wrap64 (i1307 - 1) then ((l0[(wrap64 (i1307 - 1)).toNat]?).bind fun x1342 => (if 0 ≤ i1307 then ((l0[i1307.toNat]?).bind fun x1344 => ((strings_Compare.f x1342 x1344).bind fun t1345 => (if t1345 ≥ 0 then (some false) else (goods_rising_string.l1 k a1 l0 ml1 (wrap64 (i1307 + 1)))))) else none)) else none) else (some (decide ((l0.length : Int) ≤ a1))))
def goods_rising_string.f (k : Nat) (l0 : List ByteArray) (a1 : Int) : Option (Bool) := (goods_rising_string.l1 k a1 l0 k 1)
def cmp_isNaN_int.f (a0 : Int) : Option (Bool) := (some (a0 != a0))
def cmp_Compare_int.f (a0 : Int) (a1 : Int) : Option (Int) := ((cmp_isNaN_int.f a0).bind fun t1368 => ((cmp_isNaN_int.f a1).bind fun t1370 => (if t1368 = true then (if t1370 = true then (some 0) else (some (-1))) else (if t1370 = true then (some 1) else (if a0 < a1 then (some (-1)) else (if a0 > a1 then (some 1) else (some 0)))))))
def cmp_Or_int.l1 (k : Nat) (l0 : List Int) : Nat → Int → Option (Int)
  | 0, _ => none
  | ml1 + 1, i1450 => (if i1450 < (l0.length : Int) then (if 0 ≤ i1450 then ((l0[i1450.toNat]?).bind fun x1476 => (if x1476 = 0 then (cmp_Or_int.l1 k l0 ml1 (wrap64 (i1450 + 1))) else (some x1476))) else none) else (some 0))
def cmp_Or_int.f (k : Nat) (l0 : List Int) : Option (Int) := (cmp_Or_int.l1 k l0 k 0)
def goods_compare.f (k : Nat) (a0_0 : ByteArray) (a0_1 : ByteArray) (a0_2 : Int) (a0_3 : Int) (a0_4 : Int) (a1_0 : ByteArray) (a1_1 : ByteArray) (a1_2 : Int) (a1_3 : Int) (a1_4 : Int) : Option (Int) := ((strings_Compare.f a0_0 a1_0).bind fun t1365 => ((cmp_Compare_int.f a0_2 a1_2).bind fun t1388 => ((cmp_Or_int.f k ([t1365, t1388] : List Int)).bind fun t1481 => (some t1481))))
def goods_rising_Sub.l1 (k : Nat) (a1 : Int) (l0 : List S22) : Nat → Int → Option (Bool)
  | 0, _ => none
  | ml1 + 1, i1553 => (if i1553 < (l0.length : Int) then (if 0 ≤ wrap64 (i1553 - 1) then ((l0[(wrap64 (i1553 - 1)).toNat]?).bind fun x1588 => (if 0 ≤ i1553 then ((l0[i1553.toNat]?).bind fun x1590 => ((goods_compare.f k x1588.f0 x1588.f1 x1588.f2 x1588.f3 x1588.f4 x1590.f0 x1590.f1 x1590.f2 x1590.f3 x1590.f4).bind fun t1591 => (if t1591 ≥ 0 then (some false) else (goods_rising_Sub.l1 k a1 l0 ml1 (wrap64 (i1553 + 1)))))) else none)) else none) else (some (decide ((l0.length : Int) ≤ a1))))
def goods_rising_Sub.f (k : Nat) (l0 : List S22) (a1 : Int) : Option (Bool) := (goods_rising_Sub.l1 k a1 l0 k 1)
def goods_Right.l1 (k : Nat) (l0_0 : List ByteArray) (l0_1 : List S22) : Nat → Int → Option (Bool)
  | 0, _ => none
  | ml1 + 1, i1042 => (if i1042 < (l0_1.length : Int) then (if 0 ≤ i1042 then ((l0_1[i1042.toNat]?).bind fun x1635 => (if i1042 ≤ (l0_1.length : Int) then ((slices_ContainsFunc_api_Sub_api_Sub.f k ((l0_1.take i1042.toNat).drop 0) x1635.f0 x1635.f1 x1635.f2 x1635.f3 x1635.f4).bind fun t1642 => (if t1642 = true then (some false) else ((goods_may.f k x1635.f0 x1635.f1 x1635.f2 x1635.f3 x1635.f4).bind fun t1655 => (if t1655 = true then ((slices_Contains_string_string.f k l0_0 x1635.f0).bind fun t1658 => (if t1658 = true then ((slices_Contains_string_string.f k l0_0 x1635.f1).bind fun t1661 => (if t1661 = true then (goods_Right.l1 k l0_0 l0_1 ml1 (wrap64 (i1042 + 1))) else (some false))) else (some false))) else (some false))))) else none)) else none) else ((slices_ContainsFunc_string_string.f k l0_0).bind fun t1667 => (if t1667 = true then (some false) else ((goods_rising_string.f k l0_0 8).bind fun t1675 => (if t1675 = true then ((goods_rising_Sub.f k l0_1 16).bind fun t1678 => (some t1678)) else (some false))))))
def goods_Right.f (k : Nat) (l0_0 : List ByteArray) (l0_1 : List S22) : Option (Bool) := (goods_Right.l1 k l0_0 l0_1 k 0)
def slices_BinarySearchFunc_string_string_string.l1 (k : Nat) (a1 : ByteArray) (l0 : List ByteArray) : Nat → Int → Int → Option (Int × Bool)
  | 0, _, _ => none
  | ml1 + 1, i1778, i1779 => (if i1778 < i1779 then (if 0 ≤ wrap64 ((IntKind.u64.wrap (wrap64 (i1778 + i1779))).fdiv (2 ^ min (1 : Int).toNat IntKind.u64.bits)) then ((l0[(wrap64 ((IntKind.u64.wrap (wrap64 (i1778 + i1779))).fdiv (2 ^ min (1 : Int).toNat IntKind.u64.bits))).toNat]?).bind fun x1815 => ((strings_Compare.f x1815 a1).bind fun t1818 => (if t1818 < 0 then (slices_BinarySearchFunc_string_string_string.l1 k a1 l0 ml1 (wrap64 ((wrap64 ((IntKind.u64.wrap (wrap64 (i1778 + i1779))).fdiv (2 ^ min (1 : Int).toNat IntKind.u64.bits))) + 1)) i1779) else (slices_BinarySearchFunc_string_string_string.l1 k a1 l0 ml1 i1778 (wrap64 ((IntKind.u64.wrap (wrap64 (i1778 + i1779))).fdiv (2 ^ min (1 : Int).toNat IntKind.u64.bits))))))) else none) else (if i1778 < (l0.length : Int) then (if 0 ≤ i1778 then ((l0[i1778.toNat]?).bind fun x1834 => ((strings_Compare.f x1834 a1).bind fun t1837 => (some (i1778, (t1837 == 0))))) else none) else (some (i1778, false))))
def slices_BinarySearchFunc_string_string_string.f (k : Nat) (l0 : List ByteArray) (a1 : ByteArray) : Option (Int × Bool) := (slices_BinarySearchFunc_string_string_string.l1 k a1 l0 k 0 (l0.length : Int))
def slices_Clone_string_string.f (l0 : List ByteArray) : Option (List ByteArray) := if l0.length * 16 ≤ 140737488355328 then some l0 else none
def slices_Insert_string_string.f (l0 : List ByteArray) (a1 : Int) (l2 : List ByteArray) : Option (List ByteArray) := if 0 ≤ a1 ∧ a1 ≤ (l0.length : Int) ∧ (l0.length + l2.length) * 16 ≤ 140737488355328 then some (l0.take a1.toNat ++ l2 ++ l0.drop a1.toNat) else none
def goods_put_string.f (k : Nat) (l0 : List ByteArray) (a1 : ByteArray) : Option (List ByteArray) := ((slices_BinarySearchFunc_string_string_string.f k l0 a1).bind fun ⟨t1840, t1841⟩ => ((slices_Clone_string_string.f l0).bind fun r1843 => ((slices_Insert_string_string.f r1843 t1840 ([a1] : List ByteArray)).bind fun r1849 => (some r1849))))
def goods_Know.f (k : Nat) (l0_0 : List ByteArray) (l0_1 : List S22) (a1 : ByteArray) : Option (List ByteArray × List S22 × Int) := ((goods_Right.f k l0_0 l0_1).bind fun t1892 => (if t1892 = true then ((goods_name.f k a1).bind fun t1895 => (if t1895 = true then ((slices_Contains_string_string.f k l0_0 a1).bind fun t1898 => (if t1898 = true then (some (([] : List ByteArray), ([] : List S22), 9)) else (if (l0_0.length : Int) = 8 then (some (([] : List ByteArray), ([] : List S22), 7)) else ((goods_put_string.f k l0_0 a1).bind fun r1907 => (some (r1907, l0_1, 0)))))) else (some (([] : List ByteArray), ([] : List S22), 1)))) else (some (([] : List ByteArray), ([] : List S22), 1))))
def goods_Rule_1.f (a0_0 : ByteArray) (a0_1 : ByteArray) (a0_2 : Int) (a0_3 : Int) (a0_4 : Int) (a1_0 : ByteArray) (a1_1 : ByteArray) (a1_2 : Int) (a1_3 : Int) (a1_4 : Int) : Option (Bool) := (if (a0_0 == a1_0) = true then (if a0_2 = a1_2 then (some true) else (some (a0_1 == a1_1))) else (some false))
def slices_IndexFunc_api_Sub_api_Sub_s30.l1 (k : Nat) (a1_0_0 : ByteArray) (a1_0_1 : ByteArray) (a1_0_2 : Int) (a1_0_3 : Int) (a1_0_4 : Int) (l0 : List S22) : Nat → Int → Option (Int)
  | 0, _ => none
  | ml1 + 1, i2031 => (if i2031 < (l0.length : Int) then (if 0 ≤ i2031 then ((l0[i2031.toNat]?).bind fun x2060 => ((goods_Rule_1.f x2060.f0 x2060.f1 x2060.f2 x2060.f3 x2060.f4 a1_0_0 a1_0_1 a1_0_2 a1_0_3 a1_0_4).bind fun t2063 => (if t2063 = true then (some i2031) else (slices_IndexFunc_api_Sub_api_Sub_s30.l1 k a1_0_0 a1_0_1 a1_0_2 a1_0_3 a1_0_4 l0 ml1 (wrap64 (i2031 + 1)))))) else none) else (some (-1)))
def slices_IndexFunc_api_Sub_api_Sub_s30.f (k : Nat) (l0 : List S22) (a1_0_0 : ByteArray) (a1_0_1 : ByteArray) (a1_0_2 : Int) (a1_0_3 : Int) (a1_0_4 : Int) : Option (Int) := (slices_IndexFunc_api_Sub_api_Sub_s30.l1 k a1_0_0 a1_0_1 a1_0_2 a1_0_3 a1_0_4 l0 k 0)
def slices_ContainsFunc_api_Sub_api_Sub_s30.f (k : Nat) (l0 : List S22) (a1_0_0 : ByteArray) (a1_0_1 : ByteArray) (a1_0_2 : Int) (a1_0_3 : Int) (a1_0_4 : Int) : Option (Bool) := ((slices_IndexFunc_api_Sub_api_Sub_s30.f k l0 a1_0_0 a1_0_1 a1_0_2 a1_0_3 a1_0_4).bind fun t2066 => (some (decide (t2066 ≥ 0))))
def slices_BinarySearchFunc_api_Sub_api_Sub_api_Sub.l1 (k : Nat) (a1_0 : ByteArray) (a1_1 : ByteArray) (a1_2 : Int) (a1_3 : Int) (a1_4 : Int) (l0 : List S22) : Nat → Int → Int → Option (Int × Bool)
  | 0, _, _ => none
  | ml1 + 1, i2167, i2168 => (if i2167 < i2168 then (if 0 ≤ wrap64 ((IntKind.u64.wrap (wrap64 (i2167 + i2168))).fdiv (2 ^ min (1 : Int).toNat IntKind.u64.bits)) then ((l0[(wrap64 ((IntKind.u64.wrap (wrap64 (i2167 + i2168))).fdiv (2 ^ min (1 : Int).toNat IntKind.u64.bits))).toNat]?).bind fun x2191 => ((goods_compare.f k x2191.f0 x2191.f1 x2191.f2 x2191.f3 x2191.f4 a1_0 a1_1 a1_2 a1_3 a1_4).bind fun t2192 => (if t2192 < 0 then (slices_BinarySearchFunc_api_Sub_api_Sub_api_Sub.l1 k a1_0 a1_1 a1_2 a1_3 a1_4 l0 ml1 (wrap64 ((wrap64 ((IntKind.u64.wrap (wrap64 (i2167 + i2168))).fdiv (2 ^ min (1 : Int).toNat IntKind.u64.bits))) + 1)) i2168) else (slices_BinarySearchFunc_api_Sub_api_Sub_api_Sub.l1 k a1_0 a1_1 a1_2 a1_3 a1_4 l0 ml1 i2167 (wrap64 ((IntKind.u64.wrap (wrap64 (i2167 + i2168))).fdiv (2 ^ min (1 : Int).toNat IntKind.u64.bits))))))) else none) else (if i2167 < (l0.length : Int) then (if 0 ≤ i2167 then ((l0[i2167.toNat]?).bind fun x2199 => ((goods_compare.f k x2199.f0 x2199.f1 x2199.f2 x2199.f3 x2199.f4 a1_0 a1_1 a1_2 a1_3 a1_4).bind fun t2200 => (some (i2167, (t2200 == 0))))) else none) else (some (i2167, false))))
def slices_BinarySearchFunc_api_Sub_api_Sub_api_Sub.f (k : Nat) (l0 : List S22) (a1_0 : ByteArray) (a1_1 : ByteArray) (a1_2 : Int) (a1_3 : Int) (a1_4 : Int) : Option (Int × Bool) := (slices_BinarySearchFunc_api_Sub_api_Sub_api_Sub.l1 k a1_0 a1_1 a1_2 a1_3 a1_4 l0 k 0 (l0.length : Int))
def slices_Clone_api_Sub_api_Sub.f (l0 : List S22) : Option (List S22) := if l0.length * 56 ≤ 140737488355328 then some l0 else none
def slices_Insert_api_Sub_api_Sub.f (l0 : List S22) (a1 : Int) (l2 : List S22) : Option (List S22) := if 0 ≤ a1 ∧ a1 ≤ (l0.length : Int) ∧ (l0.length + l2.length) * 56 ≤ 140737488355328 then some (l0.take a1.toNat ++ l2 ++ l0.drop a1.toNat) else none
def goods_put_Sub.f (k : Nat) (l0 : List S22) (a1_0 : ByteArray) (a1_1 : ByteArray) (a1_2 : Int) (a1_3 : Int) (a1_4 : Int) : Option (List S22) := ((slices_BinarySearchFunc_api_Sub_api_Sub_api_Sub.f k l0 a1_0 a1_1 a1_2 a1_3 a1_4).bind fun ⟨t2203, t2204⟩ => ((slices_Clone_api_Sub_api_Sub.f l0).bind fun r2206 => ((slices_Insert_api_Sub_api_Sub.f r2206 t2203 ([(⟨a1_0, a1_1, a1_2, a1_3, a1_4⟩ : S22)] : List S22)).bind fun r2212 => (some r2212))))
def goods_Rule.f (k : Nat) (l0_0 : List ByteArray) (l0_1 : List S22) (a1_0 : ByteArray) (a1_1 : ByteArray) (a1_2 : Int) (a1_3 : Int) (a1_4 : Int) : Option (List ByteArray × List S22 × Int) := ((goods_Right.f k l0_0 l0_1).bind fun t2272 => (if t2272 = true then ((goods_may.f k a1_0 a1_1 a1_2 a1_3 a1_4).bind fun t2275 => (if t2275 = true then ((slices_Contains_string_string.f k l0_0 a1_0).bind fun t2284 => (if t2284 = true then ((slices_Contains_string_string.f k l0_0 a1_1).bind fun t2287 => (if t2287 = true then ((slices_ContainsFunc_api_Sub_api_Sub_s30.f k l0_1 a1_0 a1_1 a1_2 a1_3 a1_4).bind fun t2290 => (if t2290 = true then (some (([] : List ByteArray), ([] : List S22), 9)) else (if (l0_1.length : Int) = 16 then (some (([] : List ByteArray), ([] : List S22), 7)) else ((goods_put_Sub.f k l0_1 a1_0 a1_1 a1_2 a1_3 a1_4).bind fun r2299 => (some (l0_0, r2299, 0)))))) else (some (([] : List ByteArray), ([] : List S22), 8)))) else (some (([] : List ByteArray), ([] : List S22), 8)))) else (some (([] : List ByteArray), ([] : List S22), 1)))) else (some (([] : List ByteArray), ([] : List S22), 1))))
def goods_For_1.f (a0_0 : ByteArray) (a0_1 : ByteArray) (a0_2 : Int) (a0_3 : Int) (a0_4 : Int) (a1_0 : ByteArray) : Option (Bool) := (some (a0_0 != a1_0))
def slices_IndexFunc_api_Sub_api_Sub_s38.l1 (k : Nat) (a1_0_0 : ByteArray) (l0 : List S22) : Nat → Int → Option (Int)
  | 0, _ => none
  | ml1 + 1, i2422 => (if i2422 < (l0.length : Int) then (if 0 ≤ i2422 then ((l0[i2422.toNat]?).bind fun x2451 => ((goods_For_1.f x2451.f0 x2451.f1 x2451.f2 x2451.f3 x2451.f4 a1_0_0).bind fun t2454 => (if t2454 = true then (some i2422) else (slices_IndexFunc_api_Sub_api_Sub_s38.l1 k a1_0_0 l0 ml1 (wrap64 (i2422 + 1)))))) else none) else (some (-1)))
def slices_IndexFunc_api_Sub_api_Sub_s38.f (k : Nat) (l0 : List S22) (a1_0_0 : ByteArray) : Option (Int) := (slices_IndexFunc_api_Sub_api_Sub_s38.l1 k a1_0_0 l0 k 0)
def slices_DeleteFunc_api_Sub_api_Sub.f (ix : Option Int) (p : S22 → Option Bool) (l0 : List S22) : Option (List S22) := ix.bind fun i => if i = -1 then some l0 else if 0 ≤ i ∧ i < (l0.length : Int) then (keepM p (l0.drop (i.toNat + 1))).bind fun r => some (l0.take i.toNat ++ r) else none
def goods_For.f (k : Nat) (l0_0 : List ByteArray) (l0_1 : List S22) (a1 : ByteArray) : Option (List S22 × Int) := ((goods_Right.f k l0_0 l0_1).bind fun t2341 => (if t2341 = true then ((slices_Contains_string_string.f k l0_0 a1).bind fun t2347 => (if t2347 = true then ((slices_Clone_api_Sub_api_Sub.f l0_1).bind fun r2350 => ((slices_DeleteFunc_api_Sub_api_Sub.f (slices_IndexFunc_api_Sub_api_Sub_s38.f k r2350 a1) (fun x => goods_For_1.f x.f0 x.f1 x.f2 x.f3 x.f4 a1) r2350).bind fun r2457 => (some (r2457, 0)))) else (some (([] : List S22), 8)))) else (some (([] : List S22), 1))))
def tarryref07_Name.l1 (k : Nat) (a0 : ByteArray) : Nat → Int → Option (Bool)
  | 0, _ => none
  | ml1 + 1, i2697 => (if i2697 < (a0.size : Int) then (if 0 ≤ i2697 then (if i2697 < (a0.size : Int) then (if (bt a0 i2697) < 97 then (if (bt a0 i2697) < 48 then (some false) else (if (bt a0 i2697) > 57 then (some false) else (tarryref07_Name.l1 k a0 ml1 (wrap64 (i2697 + 1))))) else (if (bt a0 i2697) > 122 then (if (bt a0 i2697) < 48 then (some false) else (if (bt a0 i2697) > 57 then (some false) else (tarryref07_Name.l1 k a0 ml1 (wrap64 (i2697 + 1))))) else (tarryref07_Name.l1 k a0 ml1 (wrap64 (i2697 + 1))))) else none) else none) else (if (a0.size : Int) > 0 then (some (decide ((a0.size : Int) ≤ 16))) else (some false)))
def tarryref07_Name.f (k : Nat) (a0 : ByteArray) : Option (Bool) := (tarryref07_Name.l1 k a0 k 0)
def tarryref07_Less.l1 (k : Nat) (a0 : ByteArray) (a1 : ByteArray) : Nat → Int → Option (Bool)
  | 0, _ => none
  | ml1 + 1, i2953 => (if i2953 < (a0.size : Int) then (if i2953 < (a1.size : Int) then (if 0 ≤ i2953 then (if i2953 < (a0.size : Int) then (if i2953 < (a1.size : Int) then (if (bt a0 i2953) = (bt a1 i2953) then (tarryref07_Less.l1 k a0 a1 ml1 (wrap64 (i2953 + 1))) else (some (decide ((bt a0 i2953) < (bt a1 i2953))))) else none) else none) else none) else (some (decide ((a0.size : Int) < (a1.size : Int))))) else (some (decide ((a0.size : Int) < (a1.size : Int)))))
def tarryref07_Less.f (k : Nat) (a0 : ByteArray) (a1 : ByteArray) : Option (Bool) := (tarryref07_Less.l1 k a0 a1 k 0)
def tarryref07_May.f (k : Nat) (a0_0 : ByteArray) (a0_1 : ByteArray) (a0_2 : Int) (a0_3 : Int) (a0_4 : Int) : Option (Bool) := ((tarryref07_Name.f k a0_0).bind fun t3200 => (if t3200 = true then ((tarryref07_Name.f k a0_1).bind fun t3203 => (if t3203 = true then (if (a0_0 == a0_1) = true then (some false) else (if a0_2 ≥ 1 then (if a0_2 ≤ 9 then (if a0_3 ≥ 1 then (if a0_3 ≤ 100 then (if a0_4 ≥ 1 then (some (decide (a0_4 ≤ 100))) else (some false)) else (some false)) else (some false)) else (some false)) else (some false))) else (some false))) else (some false)))
def tarryref07_Has.l1 (k : Nat) (a1 : ByteArray) (l0 : List ByteArray) : Nat → Int → Option (Bool)
  | 0, _ => none
  | ml1 + 1, i3280 => (if i3280 < (l0.length : Int) then (if 0 ≤ i3280 then ((l0[i3280.toNat]?).bind fun x3306 => (if (x3306 == a1) = true then (some true) else (tarryref07_Has.l1 k a1 l0 ml1 (wrap64 (i3280 + 1))))) else none) else (some false))
def tarryref07_Has.f (k : Nat) (l0 : List ByteArray) (a1 : ByteArray) : Option (Bool) := (tarryref07_Has.l1 k a1 l0 k 0)
def tarryref07_above.f (k : Nat) (a0_0 : ByteArray) (a0_1 : ByteArray) (a0_2 : Int) (a0_3 : Int) (a0_4 : Int) (a1_0 : ByteArray) (a1_1 : ByteArray) (a1_2 : Int) (a1_3 : Int) (a1_4 : Int) : Option (Bool) := ((tarryref07_Less.f k a1_0 a0_0).bind fun t3544 => (if t3544 = true then (some true) else (if (a0_0 == a1_0) = true then (some (decide (a0_2 > a1_2))) else (some false))))
def tarryref07_Right.l32 (k : Nat) (rec_l29 : Int → Option (Bool)) (i8885 : Int) (l0_1 : List S22) (x9508 : S22) : Nat → Int → Option (Bool)
  | 0, _ => none
  | ml32 + 1, i9572 => (if i9572 < (((l0_1.take i8885.toNat).drop 0).length : Int) then (if 0 ≤ i9572 then ((((l0_1.take i8885.toNat).drop 0)[i9572.toNat]?).bind fun x9616 => (if (x9616.f0 == x9508.f0) = true then (if (x9616.f1 == x9508.f1) = true then (some false) else (tarryref07_Right.l32 k rec_l29 i8885 l0_1 x9508 ml32 (wrap64 (i9572 + 1)))) else (tarryref07_Right.l32 k rec_l29 i8885 l0_1 x9508 ml32 (wrap64 (i9572 + 1))))) else none) else (rec_l29 (wrap64 (i8885 + 1))))
def tarryref07_Right.l33 (k : Nat) (rec_l29 : Int → Option (Bool)) (i8885 : Int) (l0_1 : List S22) (x9508 : S22) : Nat → Int → Option (Bool)
  | 0, _ => none
  | ml33 + 1, i9655 => (if i9655 < (((l0_1.take i8885.toNat).drop 0).length : Int) then (if 0 ≤ i9655 then ((((l0_1.take i8885.toNat).drop 0)[i9655.toNat]?).bind fun x9699 => (if (x9699.f0 == x9508.f0) = true then (if (x9699.f1 == x9508.f1) = true then (some false) else (tarryref07_Right.l33 k rec_l29 i8885 l0_1 x9508 ml33 (wrap64 (i9655 + 1)))) else (tarryref07_Right.l33 k rec_l29 i8885 l0_1 x9508 ml33 (wrap64 (i9655 + 1))))) else none) else (rec_l29 (wrap64 (i8885 + 1))))
def tarryref07_Right.l29 (k : Nat) (l0_0 : List ByteArray) (l0_1 : List S22) : Nat → Int → Option (Bool)
  | 0, _ => none
  | ml29 + 1, i8885 => (if i8885 < (l0_1.length : Int) then (if 0 ≤ i8885 then ((l0_1[i8885.toNat]?).bind fun x9508 => ((tarryref07_May.f k x9508.f0 x9508.f1 x9508.f2 x9508.f3 x9508.f4).bind fun t9528 => (if t9528 = true then ((tarryref07_Has.f k l0_0 x9508.f0).bind fun t9531 => (if t9531 = true then ((tarryref07_Has.f k l0_0 x9508.f1).bind fun t9534 => (if t9534 = true then (if i8885 > 0 then (if 0 ≤ wrap64 (i8885 - 1) then ((l0_1[(wrap64 (i8885 - 1)).toNat]?).bind fun x9540 => ((tarryref07_above.f k x9508.f0 x9508.f1 x9508.f2 x9508.f3 x9508.f4 x9540.f0 x9540.f1 x9540.f2 x9540.f3 x9540.f4).bind fun t9541 => (if t9541 = true then (if i8885 ≤ (l0_1.length : Int) then (tarryref07_Right.l32 k (tarryref07_Right.l29 k l0_0 l0_1 ml29) i8885 l0_1 x9508 k 0) else none) else (some false)))) else none) else (if i8885 ≤ (l0_1.length : Int) then (tarryref07_Right.l33 k (tarryref07_Right.l29 k l0_0 l0_1 ml29) i8885 l0_1 x9508 k 0) else none)) else (some false))) else (some false))) else (some false)))) else none) else (if (l0_0.length : Int) ≤ 8 then (some (decide ((l0_1.length : Int) ≤ 16))) else (some false)))
def tarryref07_Right.j22 (k : Nat) (l0_0 : List ByteArray) (l0_1 : List S22)  : Option (Bool) := (tarryref07_Right.l29 k l0_0 l0_1 k 0)
def tarryref07_Right.l23 (k : Nat) (l0_0 : List ByteArray) (l0_1 : List S22) : Nat → Int → Option (Bool)
  | 0, _ => none
  | ml23 + 1, i7537 => (if i7537 < (l0_0.length : Int) then (if 0 ≤ i7537 then ((l0_0[i7537.toNat]?).bind fun x7617 => ((tarryref07_Name.f k x7617).bind fun t7630 => (if t7630 = true then (if i7537 > 0 then (if 0 ≤ wrap64 (i7537 - 1) then ((l0_0[(wrap64 (i7537 - 1)).toNat]?).bind fun x7636 => ((tarryref07_Less.f k x7636 x7617).bind fun t7637 => (if t7637 = true then (tarryref07_Right.l23 k l0_0 l0_1 ml23 (wrap64 (i7537 + 1))) else (some false)))) else none) else (tarryref07_Right.l23 k l0_0 l0_1 ml23 (wrap64 (i7537 + 1)))) else (some false)))) else none) else (tarryref07_Right.j22 k l0_0 l0_1))
def tarryref07_Right.f (k : Nat) (l0_0 : List ByteArray) (l0_1 : List S22) : Option (Bool) := (tarryref07_Right.l23 k l0_0 l0_1 k 0)
def goods_Units.f (k : Nat) (a0_0 : ByteArray) (a0_1 : ByteArray) (a0_2 : Int) (a0_3 : Int) (a0_4 : Int) (a1 : Int) : Option (Int × Int) := ((goods_may.f k a0_0 a0_1 a0_2 a0_3 a0_4).bind fun t9739 => (if t9739 = true then ((goods_in.f a1 1073741824).bind fun t9742 => (if t9742 = true then (if a0_4 ≠ 0 then (if (IntKind.i64.wrap ((wrap64 ((wrap64 ((wrap64 (a1 * a0_3)) + a0_4)) - 1)).tdiv a0_4)) > 1073741824 then (some (0, 2)) else (some (IntKind.i64.wrap ((wrap64 ((wrap64 ((wrap64 (a1 * a0_3)) + a0_4)) - 1)).tdiv a0_4), 0))) else none) else (some (0, 1)))) else (some (0, 1))))
def tarrylaw07_alive.f (k : Nat)  : Option (Bool) := ((goods_Units.f k (⟨#[97]⟩ : ByteArray) (⟨#[98]⟩ : ByteArray) 1 3 2 5).bind fun ⟨t9750, t9751⟩ => (if t9751 = 0 then (some (t9750 == 8)) else (some false)))
def tarryref07_Like.l5 (k : Nat) (l0_1 : List S22) (l1_1 : List S22) : Nat → Int → Option (Bool)
  | 0, _ => none
  | ml5 + 1, i10014 => (if i10014 < (l0_1.length : Int) then (if 0 ≤ i10014 then ((l0_1[i10014.toNat]?).bind fun x10037 => ((l1_1[i10014.toNat]?).bind fun x10038 => (if (((x10037.f0 == x10038.f0) && ((x10037.f1 == x10038.f1) && ((x10037.f2 == x10038.f2) && ((x10037.f3 == x10038.f3) && (x10037.f4 == x10038.f4)))))) = true then (tarryref07_Like.l5 k l0_1 l1_1 ml5 (wrap64 (i10014 + 1))) else (some false)))) else none) else (some true))
def tarryref07_Like.l1 (k : Nat) (l0_0 : List ByteArray) (l0_1 : List S22) (l1_0 : List ByteArray) (l1_1 : List S22) : Nat → Int → Option (Bool)
  | 0, _ => none
  | ml1 + 1, i9858 => (if i9858 < (l0_0.length : Int) then (if 0 ≤ i9858 then ((l0_0[i9858.toNat]?).bind fun x9961 => ((l1_0[i9858.toNat]?).bind fun x9962 => (if (x9961 == x9962) = true then (tarryref07_Like.l1 k l0_0 l0_1 l1_0 l1_1 ml1 (wrap64 (i9858 + 1))) else (some false)))) else none) else (tarryref07_Like.l5 k l0_1 l1_1 k 0))
def tarryref07_Like.f (k : Nat) (l0_0 : List ByteArray) (l0_1 : List S22) (l1_0 : List ByteArray) (l1_1 : List S22) : Option (Bool) := (if (l0_0.length : Int) = (l1_0.length : Int) then (if (l0_1.length : Int) = (l1_1.length : Int) then (tarryref07_Like.l1 k l0_0 l0_1 l1_0 l1_1 k 0) else (some false)) else (some false))
def tarryref07_For.l1 (k : Nat) (a1 : ByteArray) (l0_1 : List S22) : Nat → (List S22) → Int → Option (List S22)
  | 0, _, _ => none
  | ml1 + 1, l10230, i10231 => (if i10231 < (l0_1.length : Int) then (if 0 ≤ i10231 then ((l0_1[i10231.toNat]?).bind fun x10275 => (if (x10275.f0 == a1) = true then (if (l10230.length + ([x10275] : List S22).length) * 56 ≤ 140737488355328 then (tarryref07_For.l1 k a1 l0_1 ml1 (l10230 ++ ([x10275] : List S22)) (wrap64 (i10231 + 1))) else none) else (tarryref07_For.l1 k a1 l0_1 ml1 l10230 (wrap64 (i10231 + 1))))) else none) else (some l10230))
def tarryref07_For.f (k : Nat) (l0_0 : List ByteArray) (l0_1 : List S22) (a1 : ByteArray) : Option (List S22) := (tarryref07_For.l1 k a1 l0_1 k ([] : List S22) 0)
def tarryref07_Rule.l1 (k : Nat) (a1_0 : ByteArray) (a1_1 : ByteArray) (a1_2 : Int) (a1_3 : Int) (a1_4 : Int) (l0_0 : List ByteArray) (l0_1 : List S22) : Nat → (List S22) → Bool → Int → Option (List ByteArray × List S22)
  | 0, _, _, _ => none
  | ml1 + 1, l11301, q11302, i11303 => (if i11303 < (l0_1.length : Int) then (if 0 ≤ i11303 then ((l0_1[i11303.toNat]?).bind fun x11457 => (if q11302 = true then (if (l11301.length + ([x11457] : List S22).length) * 56 ≤ 140737488355328 then (tarryref07_Rule.l1 k a1_0 a1_1 a1_2 a1_3 a1_4 l0_0 l0_1 ml1 (l11301 ++ ([x11457] : List S22)) true (wrap64 (i11303 + 1))) else none) else ((tarryref07_above.f k x11457.f0 x11457.f1 x11457.f2 x11457.f3 x11457.f4 a1_0 a1_1 a1_2 a1_3 a1_4).bind fun t11482 => (if t11482 = true then (if (l11301.length + ([(⟨a1_0, a1_1, a1_2, a1_3, a1_4⟩ : S22)] : List S22).length) * 56 ≤ 140737488355328 then (if ((l11301 ++ ([(⟨a1_0, a1_1, a1_2, a1_3, a1_4⟩ : S22)] : List S22)).length + ([x11457] : List S22).length) * 56 ≤ 140737488355328 then (tarryref07_Rule.l1 k a1_0 a1_1 a1_2 a1_3 a1_4 l0_0 l0_1 ml1 ((l11301 ++ ([(⟨a1_0, a1_1, a1_2, a1_3, a1_4⟩ : S22)] : List S22)) ++ ([x11457] : List S22)) true (wrap64 (i11303 + 1))) else none) else none) else (if (l11301.length + ([x11457] : List S22).length) * 56 ≤ 140737488355328 then (tarryref07_Rule.l1 k a1_0 a1_1 a1_2 a1_3 a1_4 l0_0 l0_1 ml1 (l11301 ++ ([x11457] : List S22)) false (wrap64 (i11303 + 1))) else none))))) else none) else (if q11302 = true then (some (l0_0, l11301)) else (if (l11301.length + ([(⟨a1_0, a1_1, a1_2, a1_3, a1_4⟩ : S22)] : List S22).length) * 56 ≤ 140737488355328 then (some (l0_0, (l11301 ++ ([(⟨a1_0, a1_1, a1_2, a1_3, a1_4⟩ : S22)] : List S22)))) else none)))
def tarryref07_Rule.f (k : Nat) (l0_0 : List ByteArray) (l0_1 : List S22) (a1_0 : ByteArray) (a1_1 : ByteArray) (a1_2 : Int) (a1_3 : Int) (a1_4 : Int) : Option (List ByteArray × List S22) := (tarryref07_Rule.l1 k a1_0 a1_1 a1_2 a1_3 a1_4 l0_0 l0_1 k ([] : List S22) false 0)
def tarryref07_Know.l1 (k : Nat) (a1 : ByteArray) (l0_0 : List ByteArray) (l0_1 : List S22) : Nat → (List ByteArray) → Bool → Int → Option (List ByteArray × List S22)
  | 0, _, _, _ => none
  | ml1 + 1, l22941, q22942, i22943 => (if i22943 < (l0_0.length : Int) then (if 0 ≤ i22943 then ((l0_0[i22943.toNat]?).bind fun x23094 => (if q22942 = true then (if (l22941.length + ([x23094] : List ByteArray).length) * 16 ≤ 140737488355328 then (tarryref07_Know.l1 k a1 l0_0 l0_1 ml1 (l22941 ++ ([x23094] : List ByteArray)) true (wrap64 (i22943 + 1))) else none) else ((tarryref07_Less.f k a1 x23094).bind fun t23118 => (if t23118 = true then (if (l22941.length + ([a1] : List ByteArray).length) * 16 ≤ 140737488355328 then (if ((l22941 ++ ([a1] : List ByteArray)).length + ([x23094] : List ByteArray).length) * 16 ≤ 140737488355328 then (tarryref07_Know.l1 k a1 l0_0 l0_1 ml1 ((l22941 ++ ([a1] : List ByteArray)) ++ ([x23094] : List ByteArray)) true (wrap64 (i22943 + 1))) else none) else none) else (if (l22941.length + ([x23094] : List ByteArray).length) * 16 ≤ 140737488355328 then (tarryref07_Know.l1 k a1 l0_0 l0_1 ml1 (l22941 ++ ([x23094] : List ByteArray)) false (wrap64 (i22943 + 1))) else none))))) else none) else (if q22942 = true then (some (l22941, l0_1)) else (if (l22941.length + ([a1] : List ByteArray).length) * 16 ≤ 140737488355328 then (some ((l22941 ++ ([a1] : List ByteArray)), l0_1)) else none)))
def tarryref07_Know.f (k : Nat) (l0_0 : List ByteArray) (l0_1 : List S22) (a1 : ByteArray) : Option (List ByteArray × List S22) := (tarryref07_Know.l1 k a1 l0_0 l0_1 k ([] : List ByteArray) false 0)
def tarrylaw07_GoodsKnow.j2138 (k : Nat) (r2311 : List ByteArray) (r2312 : List S22) (r382 : List ByteArray) (r383 : List S22) (t2313 : Int) (t391 : ByteArray) (t392 : ByteArray) (t393 : Int) (t394 : Int) (t395 : Int) (i154349 : Int) : Option (Bool) := (if t2313 = i154349 then (if i154349 = 0 then ((tarryref07_Rule.f k r382 r383 t391 t392 t393 t394 t395).bind fun ⟨r154354, r154355⟩ => ((tarryref07_Like.f k r2311 r2312 r154354 r154355).bind fun t154361 => (if t154361 = true then (some true) else (if i154349 = 0 then none else ((tarryref07_Like.f k r2311 r2312 [] []).bind fun t154368 => (some t154368)))))) else (if i154349 = 0 then none else ((tarryref07_Like.f k r2311 r2312 [] []).bind fun t154374 => (some t154374)))) else none)
def tarrylaw07_GoodsKnow.j2133 (k : Nat) (r2311 : List ByteArray) (r2312 : List S22) (r382 : List ByteArray) (r383 : List S22) (t2313 : Int) (t391 : ByteArray) (t392 : ByteArray) (t393 : Int) (t394 : Int) (t395 : Int) (q154095 : Bool) : Option (Bool) := ((tarryref07_May.f k t391 t392 t393 t394 t395).bind fun t154331 => (if t154331 = true then ((tarryref07_Has.f k r382 t391).bind fun t154340 => (if t154340 = true then ((tarryref07_Has.f k r382 t392).bind fun t154343 => (if t154343 = true then (if q154095 = true then (tarrylaw07_GoodsKnow.j2138 k r2311 r2312 r382 r383 t2313 t391 t392 t393 t394 t395 9) else (if (r383.length : Int) = 16 then (tarrylaw07_GoodsKnow.j2138 k r2311 r2312 r382 r383 t2313 t391 t392 t393 t394 t395 7) else (tarrylaw07_GoodsKnow.j2138 k r2311 r2312 r382 r383 t2313 t391 t392 t393 t394 t395 0))) else (tarrylaw07_GoodsKnow.j2138 k r2311 r2312 r382 r383 t2313 t391 t392 t393 t394 t395 8))) else (tarrylaw07_GoodsKnow.j2138 k r2311 r2312 r382 r383 t2313 t391 t392 t393 t394 t395 8))) else (tarrylaw07_GoodsKnow.j2138 k r2311 r2312 r382 r383 t2313 t391 t392 t393 t394 t395 1)))
def tarrylaw07_GoodsKnow.l2134 (k : Nat) (r2311 : List ByteArray) (r2312 : List S22) (r382 : List ByteArray) (r383 : List S22) (t2313 : Int) (t391 : ByteArray) (t392 : ByteArray) (t393 : Int) (t394 : Int) (t395 : Int) : Nat → Bool → Int → Option (Bool)
  | 0, _, _ => none
  | ml2134 + 1, q154043, i154044 => (if i154044 < (r383.length : Int) then (if 0 ≤ i154044 then ((r383[i154044.toNat]?).bind fun x154085 => (if q154043 = true then (tarrylaw07_GoodsKnow.l2134 k r2311 r2312 r382 r383 t2313 t391 t392 t393 t394 t395 ml2134 true (wrap64 (i154044 + 1))) else (if (x154085.f0 == t391) = true then (if x154085.f2 = t393 then (tarrylaw07_GoodsKnow.l2134 k r2311 r2312 r382 r383 t2313 t391 t392 t393 t394 t395 ml2134 true (wrap64 (i154044 + 1))) else (tarrylaw07_GoodsKnow.l2134 k r2311 r2312 r382 r383 t2313 t391 t392 t393 t394 t395 ml2134 (x154085.f1 == t392) (wrap64 (i154044 + 1)))) else (tarrylaw07_GoodsKnow.l2134 k r2311 r2312 r382 r383 t2313 t391 t392 t393 t394 t395 ml2134 false (wrap64 (i154044 + 1)))))) else none) else (tarrylaw07_GoodsKnow.j2133 k r2311 r2312 r382 r383 t2313 t391 t392 t393 t394 t395 q154043))
def tarrylaw07_GoodsKnow.j2122 (k : Nat) (r2311 : List ByteArray) (r2312 : List S22) (r382 : List ByteArray) (r383 : List S22) (t2313 : Int) (t391 : ByteArray) (t392 : ByteArray) (t393 : Int) (t394 : Int) (t395 : Int)  : Option (Bool) := (tarrylaw07_GoodsKnow.l2134 k r2311 r2312 r382 r383 t2313 t391 t392 t393 t394 t395 k false 0)
def tarrylaw07_GoodsKnow.j2056 (k : Nat) (a1 : ByteArray) (r2311 : List ByteArray) (r2312 : List S22) (r2463 : List S22) (r382 : List ByteArray) (r383 : List S22) (t2313 : Int) (t2464 : Int) (t391 : ByteArray) (t392 : ByteArray) (t393 : Int) (t394 : Int) (t395 : Int)  : Option (Bool) := ((tarryref07_Has.f k r382 (a1.extract 0 ((mn (a1.size : Int) 18).toNat))).bind fun t153283 => (if t153283 = true then (if t2464 = 0 then ((tarryref07_For.f k r382 r383 (a1.extract 0 ((mn (a1.size : Int) 18).toNat))).bind fun r153299 => ((tarryref07_Like.f k [] r2463 [] r153299).bind fun t153305 => (if t153305 = true then (tarrylaw07_GoodsKnow.j2122 k r2311 r2312 r382 r383 t2313 t391 t392 t393 t394 t395) else none))) else none) else (if t2464 = 8 then (if (r2463.length : Int) = 0 then (tarrylaw07_GoodsKnow.j2122 k r2311 r2312 r382 r383 t2313 t391 t392 t393 t394 t395) else none) else none)))
def tarrylaw07_GoodsKnow.j1727 (k : Nat) (a1 : ByteArray) (r1915 : List ByteArray) (r1916 : List S22) (r2311 : List ByteArray) (r2312 : List S22) (r2463 : List S22) (r382 : List ByteArray) (r383 : List S22) (t1917 : Int) (t2313 : Int) (t2464 : Int) (t391 : ByteArray) (t392 : ByteArray) (t393 : Int) (t394 : Int) (t395 : Int) (i127066 : Int) : Option (Bool) := (if t1917 = i127066 then (if i127066 = 0 then ((tarryref07_Know.f k r382 r383 (a1.extract 0 ((mn (a1.size : Int) 18).toNat))).bind fun ⟨r148907, r148908⟩ => ((tarryref07_Like.f k r1915 r1916 r148907 r148908).bind fun t148914 => (if t148914 = true then (if i127066 = 0 then (tarrylaw07_GoodsKnow.j2056 k a1 r2311 r2312 r2463 r382 r383 t2313 t2464 t391 t392 t393 t394 t395) else ((tarryref07_Like.f k r1915 r1916 [] []).bind fun t148921 => (if t148921 = true then (tarrylaw07_GoodsKnow.j2056 k a1 r2311 r2312 r2463 r382 r383 t2313 t2464 t391 t392 t393 t394 t395) else none))) else none))) else (if i127066 = 0 then (tarrylaw07_GoodsKnow.j2056 k a1 r2311 r2312 r2463 r382 r383 t2313 t2464 t391 t392 t393 t394 t395) else ((tarryref07_Like.f k r1915 r1916 [] []).bind fun t148928 => (if t148928 = true then (tarrylaw07_GoodsKnow.j2056 k a1 r2311 r2312 r2463 r382 r383 t2313 t2464 t391 t392 t393 t394 t395) else none)))) else none)
def tarrylaw07_GoodsKnow.j1069 (k : Nat) (a1 : ByteArray) (r1915 : List ByteArray) (r1916 : List S22) (r2311 : List ByteArray) (r2312 : List S22) (r2463 : List S22) (r382 : List ByteArray) (r383 : List S22) (t1917 : Int) (t2313 : Int) (t2464 : Int) (t391 : ByteArray) (t392 : ByteArray) (t393 : Int) (t394 : Int) (t395 : Int) (q83293 : Bool) : Option (Bool) := (if q83293 = true then (if t1917 = 1 then (if t2313 = 1 then (if t2464 = 1 then (if (r2463.length : Int) = 0 then ((tarryref07_Like.f k r1915 r1916 [] []).bind fun t83322 => (if t83322 = true then ((tarryref07_Like.f k r2311 r2312 [] []).bind fun t83327 => (some t83327)) else none)) else none) else none) else none) else none) else ((tarryref07_Name.f k (a1.extract 0 ((mn (a1.size : Int) 18).toNat))).bind fun t127058 => (if t127058 = true then ((tarryref07_Has.f k r382 (a1.extract 0 ((mn (a1.size : Int) 18).toNat))).bind fun t127061 => (if t127061 = true then (tarrylaw07_GoodsKnow.j1727 k a1 r1915 r1916 r2311 r2312 r2463 r382 r383 t1917 t2313 t2464 t391 t392 t393 t394 t395 9) else (if (r382.length : Int) = 8 then (tarrylaw07_GoodsKnow.j1727 k a1 r1915 r1916 r2311 r2312 r2463 r382 r383 t1917 t2313 t2464 t391 t392 t393 t394 t395 7) else (tarrylaw07_GoodsKnow.j1727 k a1 r1915 r1916 r2311 r2312 r2463 r382 r383 t1917 t2313 t2464 t391 t392 t393 t394 t395 0)))) else (tarrylaw07_GoodsKnow.j1727 k a1 r1915 r1916 r2311 r2312 r2463 r382 r383 t1917 t2313 t2464 t391 t392 t393 t394 t395 1))))
def tarrylaw07_GoodsKnow.f (k : Nat) (l0_0 : List ByteArray) (l0_1 : List S22) (a1 : ByteArray) (a2_0 : ByteArray) (a2_1 : ByteArray) (a2_2 : Int) (a2_3 : Int) (a2_4 : Int) : Option (Bool) := ((tarrylaw07_few.f k l0_0 l0_1).bind fun ⟨r382, r383⟩ => (if 0 ≤ mn (a1.size : Int) 18 then (if (mn (a1.size : Int) 18) ≤ (a1.size : Int) then ((tarrylaw07_cut.f a2_0 a2_1 a2_2 a2_3 a2_4).bind fun ⟨t391, t392, t393, t394, t395⟩ => ((goods_Know.f k r382 r383 (a1.extract 0 ((mn (a1.size : Int) 18).toNat))).bind fun ⟨r1915, r1916, t1917⟩ => ((goods_Rule.f k r382 r383 t391 t392 t393 t394 t395).bind fun ⟨r2311, r2312, t2313⟩ => ((goods_For.f k r382 r383 (a1.extract 0 ((mn (a1.size : Int) 18).toNat))).bind fun ⟨r2463, t2464⟩ => ((goods_Right.f k r382 r383).bind fun t9762 => ((tarryref07_Right.f k r382 r383).bind fun t9764 => (if t9762 = t9764 then ((tarrylaw07_alive.f k).bind fun t9768 => (if t9768 = true then ((tarryref07_Right.f k r382 r383).bind fun t83290 => (if t83290 = true then (tarrylaw07_GoodsKnow.j1069 k a1 r1915 r1916 r2311 r2312 r2463 r382 r383 t1917 t2313 t2464 t391 t392 t393 t394 t395 false) else (tarrylaw07_GoodsKnow.j1069 k a1 r1915 r1916 r2311 r2312 r2463 r382 r383 t1917 t2313 t2464 t391 t392 t393 t394 t395 true))) else none)) else none))))))) else none) else none))
/-- THE ONE PURE STATEMENT. -/
def tarrylaw07_GoodsKnow.Pure : Prop := ∀ (l0_0 : List ByteArray) (l0_1 : List S22) (a1 : ByteArray) (a2_0 : ByteArray) (a2_1 : ByteArray) (a2_2 : Int) (a2_3 : Int) (a2_4 : Int), allOk (fun x : ByteArray => x.size ≤ 9223372036854775807) l0_0 → allOk ok22 l0_1 → a1.size ≤ 140737488351232 → a2_0.size ≤ 9223372036854775807 → a2_1.size ≤ 9223372036854775807 → (Lit.int .i64 a2_2).wf = true → (Lit.int .i64 a2_3).wf = true → (Lit.int .i64 a2_4).wf = true → ∃ k, tarrylaw07_GoodsKnow.f k l0_0 l0_1 a1 a2_0 a2_1 a2_2 a2_3 a2_4 = some true

end Go.Proofs.Ytoiihpmncphplaa.PGoodsKnow
