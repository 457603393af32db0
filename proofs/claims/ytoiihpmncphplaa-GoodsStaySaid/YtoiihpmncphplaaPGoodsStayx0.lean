/- Written by a program of this repo: what the program's functions do, each as a Lean function, shown of the loaded code; or a statement's row over that; no condition of its own. -/
import Derived.Test.YtoiihpmncphplaaProg
import Derived.Test.YtoiihpmncphplaaV13
namespace Go.Proofs.Ytoiihpmncphplaa.PGoodsStay
open Go Go.RowKit Go.Proofs.YtoiihpmncphplaaV
set_option linter.unusedVariables false
set_option linter.unusedSimpArgs false

structure S22 where
  f0 : ByteArray
  f1 : ByteArray
  f2 : Int
  f3 : Int
  f4 : Int
def enc22 (x : S22) : List Value := [.string x.f0, .string x.f1, .int .i64 x.f2, .int .i64 x.f3, .int .i64 x.f4]
theorem enc22_ok (a : S22) : (enc22 a).length = 5 ∧ ∀ u ∈ enc22 a, u.oneCell' = true := ⟨rfl, by intro u hu; simp only [enc22, List.mem_cons, List.not_mem_nil, or_false] at hu; rcases hu with rfl | rfl | rfl | rfl | rfl <;> rfl⟩
def ok22 (x : S22) : Prop := x.f0.size ≤ 9223372036854775807 ∧ x.f1.size ≤ 9223372036854775807 ∧ (Lit.int .i64 x.f2).wf = true ∧ (Lit.int .i64 x.f3).wf = true ∧ (Lit.int .i64 x.f4).wf = true
def enc_str (x : ByteArray) : List Value := [.string x]
theorem enc_str_ok (a : ByteArray) : (enc_str a).length = 1 ∧ ∀ u ∈ enc_str a, u.oneCell' = true := ⟨rfl, by intro u hu; simp only [enc_str, List.mem_cons, List.not_mem_nil, or_false] at hu; rcases hu with rfl; rfl⟩
def enc_intu8 (x : Int) : List Value := [.int .u8 x]
theorem enc_intu8_ok (a : Int) : (enc_intu8 a).length = 1 ∧ ∀ u ∈ enc_intu8 a, u.oneCell' = true := ⟨rfl, by intro u hu; simp only [enc_intu8, List.mem_cons, List.not_mem_nil, or_false] at hu; rcases hu with rfl; rfl⟩
def enc_inti64 (x : Int) : List Value := [.int .i64 x]
theorem enc_inti64_ok (a : Int) : (enc_inti64 a).length = 1 ∧ ∀ u ∈ enc_inti64 a, u.oneCell' = true := ⟨rfl, by intro u hu; simp only [enc_inti64, List.mem_cons, List.not_mem_nil, or_false] at hu; rcases hu with rfl; rfl⟩
theorem VC.join0 {E : Env} {P : Program} {Q : Exit → Act → World → Prop} {s : St}  {c1 c2 : Code} (I : St) (F : Prop) (hx : VC P E c1 (Exit.then (fun a w => F ∧ Inv E (I) a w) Q) s) (hy : F → VC P E c2 Q (I)) : VC P E (.seq c1 c2) Q s :=
  fun a w hi => wp_seq (Code.wp_mono (fun e a w h => by
    cases e <;> first | exact h | (obtain ⟨hf, hi⟩ := h; exact hy  hf a w hi)) (hx a w hi))
theorem VN.meet0 {E : Env} {Q : Exit → Act → World → Prop} {s : St}  {I : St} {F : Prop}  (bs rs : List Nat) (hf : F) (hl : Le s (I) bs rs) : VN E (Exit.then (fun a w => F ∧ Inv E (I) a w) Q) s :=
  fun a w hi => ⟨hf, hi.le hl⟩
theorem VC.join1 {E : Env} {P : Program} {Q : Exit → Act → World → Prop} {s : St} {α0 : Type} {c1 c2 : Code} (I : α0 → St) (F : α0 → Prop) (hx : VC P E c1 (Exit.then (fun a w => ∃ (x0 : α0), F x0 ∧ Inv E (I x0) a w) Q) s) (hy : ∀ (x0 : α0), F x0 → VC P E c2 Q (I x0)) : VC P E (.seq c1 c2) Q s :=
  fun a w hi => wp_seq (Code.wp_mono (fun e a w h => by
    cases e <;> first | exact h | (obtain ⟨x0, hf, hi⟩ := h; exact hy x0 hf a w hi)) (hx a w hi))
theorem VN.meet1 {E : Env} {Q : Exit → Act → World → Prop} {s : St} {α0 : Type} {I : α0 → St} {F : α0 → Prop} (x0 : α0) (bs rs : List Nat) (hf : F x0) (hl : Le s (I x0) bs rs) : VN E (Exit.then (fun a w => ∃ (x0 : α0), F x0 ∧ Inv E (I x0) a w) Q) s :=
  fun a w hi => ⟨x0, hf, hi.le hl⟩
theorem VC.join2 {E : Env} {P : Program} {Q : Exit → Act → World → Prop} {s : St} {α0 : Type} {α1 : Type} {c1 c2 : Code} (I : α0 → α1 → St) (F : α0 → α1 → Prop) (hx : VC P E c1 (Exit.then (fun a w => ∃ (x0 : α0) (x1 : α1), F x0 x1 ∧ Inv E (I x0 x1) a w) Q) s) (hy : ∀ (x0 : α0) (x1 : α1), F x0 x1 → VC P E c2 Q (I x0 x1)) : VC P E (.seq c1 c2) Q s :=
  fun a w hi => wp_seq (Code.wp_mono (fun e a w h => by
    cases e <;> first | exact h | (obtain ⟨x0, x1, hf, hi⟩ := h; exact hy x0 x1 hf a w hi)) (hx a w hi))
theorem VN.meet2 {E : Env} {Q : Exit → Act → World → Prop} {s : St} {α0 : Type} {α1 : Type} {I : α0 → α1 → St} {F : α0 → α1 → Prop} (x0 : α0) (x1 : α1) (bs rs : List Nat) (hf : F x0 x1) (hl : Le s (I x0 x1) bs rs) : VN E (Exit.then (fun a w => ∃ (x0 : α0) (x1 : α1), F x0 x1 ∧ Inv E (I x0 x1) a w) Q) s :=
  fun a w hi => ⟨x0, x1, hf, hi.le hl⟩
theorem VC.loop1 {E : Env} {P : Program} {Q : Exit → Act → World → Prop} {s : St} {α0 : Type} {c : Code} (I : α0 → St) (F : Nat → α0 → Prop) (k : Nat) (x0 : α0) (bs rs : List Nat) (hf : F k x0) (hl : Le s (I x0) bs rs) (hz : ∀ (x0 : α0), ¬ F 0 x0) (h : ∀ k, (∀ (x0 : α0), F k x0 → VLp P E c Q k (I x0)) → ∀ (x0 : α0), F (k + 1) x0 → VC P E c (Exit.then (Code.rounds P c Q k) Q) (I x0)) : VC P E (.loop c) Q s := by
  have key : ∀ k (x0 : α0), F k x0 → VLp P E c Q k (I x0) := by
    intro k
    induction k with
    | zero => intro x0 hf; exact absurd hf (hz x0)
    | succ k ih => intro x0 hf; exact VLp.succ (h k ih x0 hf)
  exact fun a w hi => wp_loop_rounds k (key k x0 hf a w (hi.le hl))
theorem VC.loop2 {E : Env} {P : Program} {Q : Exit → Act → World → Prop} {s : St} {α0 : Type} {α1 : Type} {c : Code} (I : α0 → α1 → St) (F : Nat → α0 → α1 → Prop) (k : Nat) (x0 : α0) (x1 : α1) (bs rs : List Nat) (hf : F k x0 x1) (hl : Le s (I x0 x1) bs rs) (hz : ∀ (x0 : α0) (x1 : α1), ¬ F 0 x0 x1) (h : ∀ k, (∀ (x0 : α0) (x1 : α1), F k x0 x1 → VLp P E c Q k (I x0 x1)) → ∀ (x0 : α0) (x1 : α1), F (k + 1) x0 x1 → VC P E c (Exit.then (Code.rounds P c Q k) Q) (I x0 x1)) : VC P E (.loop c) Q s := by
  have key : ∀ k (x0 : α0) (x1 : α1), F k x0 x1 → VLp P E c Q k (I x0 x1) := by
    intro k
    induction k with
    | zero => intro x0 x1 hf; exact absurd hf (hz x0 x1)
    | succ k ih => intro x0 x1 hf; exact VLp.succ (h k ih x0 x1 hf)
  exact fun a w hi => wp_loop_rounds k (key k x0 x1 hf a w (hi.le hl))
theorem VC.loop3 {E : Env} {P : Program} {Q : Exit → Act → World → Prop} {s : St} {α0 : Type} {α1 : Type} {α2 : Type} {c : Code} (I : α0 → α1 → α2 → St) (F : Nat → α0 → α1 → α2 → Prop) (k : Nat) (x0 : α0) (x1 : α1) (x2 : α2) (bs rs : List Nat) (hf : F k x0 x1 x2) (hl : Le s (I x0 x1 x2) bs rs) (hz : ∀ (x0 : α0) (x1 : α1) (x2 : α2), ¬ F 0 x0 x1 x2) (h : ∀ k, (∀ (x0 : α0) (x1 : α1) (x2 : α2), F k x0 x1 x2 → VLp P E c Q k (I x0 x1 x2)) → ∀ (x0 : α0) (x1 : α1) (x2 : α2), F (k + 1) x0 x1 x2 → VC P E c (Exit.then (Code.rounds P c Q k) Q) (I x0 x1 x2)) : VC P E (.loop c) Q s := by
  have key : ∀ k (x0 : α0) (x1 : α1) (x2 : α2), F k x0 x1 x2 → VLp P E c Q k (I x0 x1 x2) := by
    intro k
    induction k with
    | zero => intro x0 x1 x2 hf; exact absurd hf (hz x0 x1 x2)
    | succ k ih => intro x0 x1 x2 hf; exact VLp.succ (h k ih x0 x1 x2 hf)
  exact fun a w hi => wp_loop_rounds k (key k x0 x1 x2 hf a w (hi.le hl))
theorem VC.stop0 {E : Env} {P : Program} {Q : Exit → Act → World → Prop} {s : St}  {c1 : Code} (I : St) (F : Prop) (hx : VC P E c1 (Exit.then (fun a w => F ∧ Inv E (I) a w) Q) s) (hy : F → VN E Q (I)) : VC P E c1 Q s :=
  fun a w hi => Code.wp_mono (fun e a w h => by
    cases e <;> first | exact h | (obtain ⟨hf, hi⟩ := h; exact hy  hf a w hi)) (hx a w hi)
theorem VC.stop1 {E : Env} {P : Program} {Q : Exit → Act → World → Prop} {s : St} {α0 : Type} {c1 : Code} (I : α0 → St) (F : α0 → Prop) (hx : VC P E c1 (Exit.then (fun a w => ∃ (x0 : α0), F x0 ∧ Inv E (I x0) a w) Q) s) (hy : ∀ (x0 : α0), F x0 → VN E Q (I x0)) : VC P E c1 Q s :=
  fun a w hi => Code.wp_mono (fun e a w h => by
    cases e <;> first | exact h | (obtain ⟨x0, hf, hi⟩ := h; exact hy x0 hf a w hi)) (hx a w hi)
theorem VC.stop2 {E : Env} {P : Program} {Q : Exit → Act → World → Prop} {s : St} {α0 : Type} {α1 : Type} {c1 : Code} (I : α0 → α1 → St) (F : α0 → α1 → Prop) (hx : VC P E c1 (Exit.then (fun a w => ∃ (x0 : α0) (x1 : α1), F x0 x1 ∧ Inv E (I x0 x1) a w) Q) s) (hy : ∀ (x0 : α0) (x1 : α1), F x0 x1 → VN E Q (I x0 x1)) : VC P E c1 Q s :=
  fun a w hi => Code.wp_mono (fun e a w h => by
    cases e <;> first | exact h | (obtain ⟨x0, x1, hf, hi⟩ := h; exact hy x0 x1 hf a w hi)) (hx a w hi)
theorem TI35 : TI Try.prog 35 true 2 := ⟨⟨_, Try.underlying35, rfl⟩, by kernel_rfl⟩
theorem Z35 : (Try.prog.info? 35).bind (·.zero) = some (.agg #[.slice none 0 0, .slice none 0 0]) := by kernel_rfl
theorem ZL35 : (.agg #[.slice none 0 0, .slice none 0 0] : Value).cells.toList = [.slice none 0 0, .slice none 0 0] := rfl
theorem TI32 : TI Try.prog 32 false 1 := ⟨⟨_, Try.underlying32, rfl⟩, by kernel_rfl⟩
theorem FI35_0 : FI Try.prog 35 0 0 1 := ⟨_, _, _, Try.underlying35, rfl, rfl, TI32⟩
theorem TI9 : TI Try.prog 9 false 1 := ⟨⟨_, Try.underlying9, rfl⟩, by kernel_rfl⟩
theorem Z9 : (Try.prog.info? 9).bind (·.zero) = some (.string (⟨#[]⟩ : ByteArray)) := by kernel_rfl
theorem EI9 : EI Try.prog 9 1 16 := ei_of (z := .string (⟨#[]⟩ : ByteArray)) (by kernel_rfl) rfl (by decide) (by decide)
theorem TI33 : TI Try.prog 33 false 1 := ⟨⟨_, Try.underlying33, rfl⟩, by kernel_rfl⟩
theorem FI35_1 : FI Try.prog 35 1 1 1 := ⟨_, _, _, Try.underlying35, rfl, rfl, TI33⟩
theorem TI23 : TI Try.prog 23 true 5 := ⟨⟨_, Try.underlying23, rfl⟩, by kernel_rfl⟩
theorem Z23 : (Try.prog.info? 23).bind (·.zero) = some (.agg #[.string (⟨#[]⟩ : ByteArray), .string (⟨#[]⟩ : ByteArray), .int .i64 0, .int .i64 0, .int .i64 0]) := by kernel_rfl
theorem ZL23 : (.agg #[.string (⟨#[]⟩ : ByteArray), .string (⟨#[]⟩ : ByteArray), .int .i64 0, .int .i64 0, .int .i64 0] : Value).cells.toList = [.string (⟨#[]⟩ : ByteArray), .string (⟨#[]⟩ : ByteArray), .int .i64 0, .int .i64 0, .int .i64 0] := rfl
theorem FI23_0 : FI Try.prog 23 0 0 1 := ⟨_, _, _, Try.underlying23, rfl, rfl, TI9⟩
theorem FI23_1 : FI Try.prog 23 1 1 1 := ⟨_, _, _, Try.underlying23, rfl, rfl, TI9⟩
theorem FO6 : FOk Try.prog 6 := ⟨_, Try.func6, by kernel_rfl, by kernel_rfl⟩
theorem EI23 : EI Try.prog 23 5 56 := ei_of (z := .agg #[.string (⟨#[]⟩ : ByteArray), .string (⟨#[]⟩ : ByteArray), .int .i64 0, .int .i64 0, .int .i64 0]) (by kernel_rfl) rfl (by decide) (by decide)
theorem FO11 : FOk Try.prog 11 := ⟨_, Try.func11, by kernel_rfl, by kernel_rfl⟩
theorem FO33 : FOk Try.prog 33 := ⟨_, Try.func33, by kernel_rfl, by kernel_rfl⟩
theorem FO44 : FOk Try.prog 44 := ⟨_, Try.func44, by kernel_rfl, by kernel_rfl⟩
theorem FO27 : FOk Try.prog 27 := ⟨_, Try.func27, by kernel_rfl, by kernel_rfl⟩
theorem TI5 : TI Try.prog 5 false 1 := ⟨⟨_, Try.underlying5, rfl⟩, by kernel_rfl⟩
theorem FO50 : FOk Try.prog 50 := ⟨_, Try.func50, by kernel_rfl, by kernel_rfl⟩
theorem FO59 : FOk Try.prog 59 := ⟨_, Try.func59, by kernel_rfl, by kernel_rfl⟩
theorem FO51 : FOk Try.prog 51 := ⟨_, Try.func51, by kernel_rfl, by kernel_rfl⟩
theorem FO36 : FOk Try.prog 36 := ⟨_, Try.func36, by kernel_rfl, by kernel_rfl⟩
theorem TI3 : TI Try.prog 3 false 1 := ⟨⟨_, Try.underlying3, rfl⟩, by kernel_rfl⟩
theorem FI23_2 : FI Try.prog 23 2 2 1 := ⟨_, _, _, Try.underlying23, rfl, rfl, TI3⟩
theorem FO24 : FOk Try.prog 24 := ⟨_, Try.func24, by kernel_rfl, by kernel_rfl⟩
theorem FI23_3 : FI Try.prog 23 3 3 1 := ⟨_, _, _, Try.underlying23, rfl, rfl, TI3⟩
theorem FI23_4 : FI Try.prog 23 4 4 1 := ⟨_, _, _, Try.underlying23, rfl, rfl, TI3⟩
theorem FO23 : FOk Try.prog 23 := ⟨_, Try.func23, by kernel_rfl, by kernel_rfl⟩
theorem FO43 : FOk Try.prog 43 := ⟨_, Try.func43, by kernel_rfl, by kernel_rfl⟩
theorem FO26 : FOk Try.prog 26 := ⟨_, Try.func26, by kernel_rfl, by kernel_rfl⟩
theorem FO35 : FOk Try.prog 35 := ⟨_, Try.func35, by kernel_rfl, by kernel_rfl⟩
theorem FO49 : FOk Try.prog 49 := ⟨_, Try.func49, by kernel_rfl, by kernel_rfl⟩
theorem FO34 : FOk Try.prog 34 := ⟨_, Try.func34, by kernel_rfl, by kernel_rfl⟩
theorem FO52 : FOk Try.prog 52 := ⟨_, Try.func52, by kernel_rfl, by kernel_rfl⟩
theorem FO38 : FOk Try.prog 38 := ⟨_, Try.func38, by kernel_rfl, by kernel_rfl⟩
theorem FO37 : FOk Try.prog 37 := ⟨_, Try.func37, by kernel_rfl, by kernel_rfl⟩
theorem FO58 : FOk Try.prog 58 := ⟨_, Try.func58, by kernel_rfl, by kernel_rfl⟩
theorem FO48 : FOk Try.prog 48 := ⟨_, Try.func48, by kernel_rfl, by kernel_rfl⟩
theorem Z3 : (Try.prog.info? 3).bind (·.zero) = some (.int .i64 0) := by kernel_rfl
theorem FO47 : FOk Try.prog 47 := ⟨_, Try.func47, by kernel_rfl, by kernel_rfl⟩
theorem FO29 : FOk Try.prog 29 := ⟨_, Try.func29, by kernel_rfl, by kernel_rfl⟩
theorem FO39 : FOk Try.prog 39 := ⟨_, Try.func39, by kernel_rfl, by kernel_rfl⟩
theorem FO14 : FOk Try.prog 14 := ⟨_, Try.func14, by kernel_rfl, by kernel_rfl⟩
theorem FO25 : FOk Try.prog 25 := ⟨_, Try.func25, by kernel_rfl, by kernel_rfl⟩
theorem SI35 : SI Try.prog 35 [.slice none 0 0, .slice none 0 0] [(0, 1), (1, 1)] := ⟨⟨_, Try.underlying35, (.cons ⟨rfl, _, TI32⟩ (.cons ⟨rfl, _, TI33⟩ .nil))⟩, Z35⟩
theorem FO45 : FOk Try.prog 45 := ⟨_, Try.func45, by kernel_rfl, by kernel_rfl⟩
theorem FO31 : FOk Try.prog 31 := ⟨_, Try.func31, by kernel_rfl, by kernel_rfl⟩
theorem FO46 : FOk Try.prog 46 := ⟨_, Try.func46, by kernel_rfl, by kernel_rfl⟩
theorem FO28 : FOk Try.prog 28 := ⟨_, Try.func28, by kernel_rfl, by kernel_rfl⟩
theorem FO12 : FOk Try.prog 12 := ⟨_, Try.func12, by kernel_rfl, by kernel_rfl⟩
theorem SI23 : SI Try.prog 23 [.string (⟨#[]⟩ : ByteArray), .string (⟨#[]⟩ : ByteArray), .int .i64 0, .int .i64 0, .int .i64 0] [(0, 1), (1, 1), (2, 1), (3, 1), (4, 1)] := ⟨⟨_, Try.underlying23, (.cons ⟨rfl, _, TI9⟩ (.cons ⟨rfl, _, TI9⟩ (.cons ⟨rfl, _, TI3⟩ (.cons ⟨rfl, _, TI3⟩ (.cons ⟨rfl, _, TI3⟩ .nil)))))⟩, Z23⟩
theorem FO7 : FOk Try.prog 7 := ⟨_, Try.func7, by kernel_rfl, by kernel_rfl⟩
theorem FO9 : FOk Try.prog 9 := ⟨_, Try.func9, by kernel_rfl, by kernel_rfl⟩
theorem FO32 : FOk Try.prog 32 := ⟨_, Try.func32, by kernel_rfl, by kernel_rfl⟩
theorem FO30 : FOk Try.prog 30 := ⟨_, Try.func30, by kernel_rfl, by kernel_rfl⟩
theorem FO13 : FOk Try.prog 13 := ⟨_, Try.func13, by kernel_rfl, by kernel_rfl⟩
theorem EQ23 (a0 : ByteArray) (a1 : ByteArray) (a2 : Int) (a3 : Int) (a4 : Int) (b0 : ByteArray) (b1 : ByteArray) (b2 : Int) (b3 : Int) (b4 : Int) : EqV Try.prog 10000 23 (.agg #[.string a0, .string a1, .int .i64 a2, .int .i64 a3, .int .i64 a4]) (.agg #[.string b0, .string b1, .int .i64 b2, .int .i64 b3, .int .i64 b4]) ((a0 == b0) && ((a1 == b1) && ((a2 == b2) && ((a3 == b3) && (a4 == b4))))) := (.struct Try.underlying23 (by kernel_rfl) (.cons (by decide) TI9 (fun _ => rfl) rfl rfl rfl rfl (.string Try.underlying9) (.cons (by decide) TI9 (fun _ => rfl) rfl rfl rfl rfl (.string Try.underlying9) (.cons (by decide) TI3 (fun _ => rfl) rfl rfl rfl rfl (.int Try.underlying3) (.cons (by decide) TI3 (fun _ => rfl) rfl rfl rfl rfl (.int Try.underlying3) (.one (by decide) TI3 (fun _ => rfl) rfl rfl rfl rfl (.int Try.underlying3)))))))
theorem EG23 : Try.prog.eqGuardType Try.prog.depth 23 = false := by kernel_rfl
theorem FO15 : FOk Try.prog 15 := ⟨_, Try.func15, by kernel_rfl, by kernel_rfl⟩
def tarrylaw07_cut.f (a0_0 : ByteArray) (a0_1 : ByteArray) (a0_2 : Int) (a0_3 : Int) (a0_4 : Int) : Option (ByteArray × ByteArray × Int × Int × Int) := (if 0 ≤ mn (a0_0.size : Int) 18 then (if (mn (a0_0.size : Int) 18) ≤ (a0_0.size : Int) then (if 0 ≤ mn (a0_1.size : Int) 18 then (if (mn (a0_1.size : Int) 18) ≤ (a0_1.size : Int) then (some (a0_0.extract 0 ((mn (a0_0.size : Int) 18).toNat), a0_1.extract 0 ((mn (a0_1.size : Int) 18).toNat), a0_2, a0_3, a0_4)) else none) else none) else none) else none)
def tarrylaw07_few.l5 (k : Nat) (l0_1 : List S22) (l83 : List ByteArray) : Nat → Int → (List S22) → Option (List ByteArray × List S22)
  | 0, _, _ => none
  | ml5 + 1, i340, l343 => (if i340 < (((l0_1.take ((mn (l0_1.length : Int) 18).toNat)).drop 0).length : Int) then (if 0 ≤ i340 then ((((l0_1.take ((mn (l0_1.length : Int) 18).toNat)).drop 0)[i340.toNat]?).bind fun x368 => ((tarrylaw07_cut.f x368.f0 x368.f1 x368.f2 x368.f3 x368.f4).bind fun ⟨t372, t373, t374, t375, t376⟩ => (if (l343.length + ([(⟨t372, t373, t374, t375, t376⟩ : S22)] : List S22).length) * 56 ≤ 140737488355328 then (tarrylaw07_few.l5 k l0_1 l83 ml5 (wrap64 (i340 + 1)) (l343 ++ ([(⟨t372, t373, t374, t375, t376⟩ : S22)] : List S22))) else none))) else none) else (some (l83, l343)))
def tarrylaw07_few.l1 (k : Nat) (l0_0 : List ByteArray) (l0_1 : List S22) : Nat → Int → (List ByteArray) → Option (List ByteArray × List S22)
  | 0, _, _ => none
  | ml1 + 1, i80, l83 => (if i80 < (((l0_0.take ((mn (l0_0.length : Int) 10).toNat)).drop 0).length : Int) then (if 0 ≤ i80 then ((((l0_0.take ((mn (l0_0.length : Int) 10).toNat)).drop 0)[i80.toNat]?).bind fun x241 => (if 0 ≤ mn (x241.size : Int) 18 then (if (mn (x241.size : Int) 18) ≤ (x241.size : Int) then (if (l83.length + ([x241.extract 0 ((mn (x241.size : Int) 18).toNat)] : List ByteArray).length) * 16 ≤ 140737488355328 then (tarrylaw07_few.l1 k l0_0 l0_1 ml1 (wrap64 (i80 + 1)) (l83 ++ ([x241.extract 0 ((mn (x241.size : Int) 18).toNat)] : List ByteArray))) else none) else none) else none)) else none) else (if 0 ≤ mn (l0_1.length : Int) 18 then (if (mn (l0_1.length : Int) 18) ≤ (l0_1.length : Int) then (tarrylaw07_few.l5 k l0_1 l83 k 0 ([] : List S22)) else none) else none))
def tarrylaw07_few.f (k : Nat) (l0_0 : List ByteArray) (l0_1 : List S22) : Option (List ByteArray × List S22) := (if 0 ≤ mn (l0_0.length : Int) 10 then (if (mn (l0_0.length : Int) 10) ≤ (l0_0.length : Int) then (tarrylaw07_few.l1 k l0_0 l0_1 k 0 ([] : List ByteArray)) else none) else none)
def goods_Right_1.f (a0_0 : ByteArray) (a0_1 : ByteArray) (a0_2 : Int) (a0_3 : Int) (a0_4 : Int) (a1_0 : ByteArray) (a1_1 : ByteArray) (a1_2 : Int) (a1_3 : Int) (a1_4 : Int) : Option (Bool) := (if (a0_0 == a1_0) = true then (some (a0_1 == a1_1)) else (some false))
def slices_IndexFunc_api_Sub_api_Sub.l1 (k : Nat) (a1_0_0 : ByteArray) (a1_0_1 : ByteArray) (a1_0_2 : Int) (a1_0_3 : Int) (a1_0_4 : Int) (l0 : List S22) : Nat → Int → Option (Int)
  | 0, _ => none
  | ml1 + 1, i494 => (if i494 < (l0.length : Int) then (if 0 ≤ i494 then ((l0[i494.toNat]?).bind fun x523 => ((goods_Right_1.f x523.f0 x523.f1 x523.f2 x523.f3 x523.f4 a1_0_0 a1_0_1 a1_0_2 a1_0_3 a1_0_4).bind fun t526 => (if t526 = true then (some i494) else (slices_IndexFunc_api_Sub_api_Sub.l1 k a1_0_0 a1_0_1 a1_0_2 a1_0_3 a1_0_4 l0 ml1 (wrap64 (i494 + 1)))))) else none) else (some (-1)))
def slices_IndexFunc_api_Sub_api_Sub.f (k : Nat) (l0 : List S22) (a1_0_0 : ByteArray) (a1_0_1 : ByteArray) (a1_0_2 : Int) (a1_0_3 : Int) (a1_0_4 : Int) : Option (Int) := (slices_IndexFunc_api_Sub_api_Sub.l1 k a1_0_0 a1_0_1 a1_0_2 a1_0_3 a1_0_4 l0 k 0)
def slices_ContainsFunc_api_Sub_api_Sub.f (k : Nat) (l0 : List S22) (a1_0_0 : ByteArray) (a1_0_1 : ByteArray) (a1_0_2 : Int) (a1_0_3 : Int) (a1_0_4 : Int) : Option (Bool) := ((slices_IndexFunc_api_Sub_api_Sub.f k l0 a1_0_0 a1_0_1 a1_0_2 a1_0_3 a1_0_4).bind fun t529 => (some (decide (t529 ≥ 0))))
def goods_name_1.f (a0 : Int) : Option (Bool) := (if a0 < 97 then (if a0 < 48 then (some true) else (some (decide (a0 > 57)))) else (if a0 > 122 then (if a0 < 48 then (some true) else (some (decide (a0 > 57)))) else (some false)))
def slices_IndexFunc_byte_byte.l1 (k : Nat) (l0 : List Int) : Nat → Int → Option (Int)
  | 0, _ => none
  | ml1 + 1, i630 => (if i630 < (l0.length : Int) then (if 0 ≤ i630 then ((l0[i630.toNat]?).bind fun x659 => ((goods_name_1.f x659).bind fun t662 => (if t662 = true then (some i630) else (slices_IndexFunc_byte_byte.l1 k l0 ml1 (wrap64 (i630 + 1)))))) else none) else (some (-1)))
def slices_IndexFunc_byte_byte.f (k : Nat) (l0 : List Int) : Option (Int) := (slices_IndexFunc_byte_byte.l1 k l0 k 0)
def slices_ContainsFunc_byte_byte.f (k : Nat) (l0 : List Int) : Option (Bool) := ((slices_IndexFunc_byte_byte.f k l0).bind fun t665 => (some (decide (t665 ≥ 0))))
def goods_name.f (k : Nat) (a0 : ByteArray) : Option (Bool) := (if (a0 == (⟨#[]⟩ : ByteArray)) = true then (some false) else (if (a0.size : Int) ≤ 16 then (if a0.size ≤ 140737488355328 then ((slices_ContainsFunc_byte_byte.f k (byI a0)).bind fun t678 => (if t678 = true then (some false) else (some true))) else none) else (some false)))
def goods_in.f (a0 : Int) (a1 : Int) : Option (Bool) := (if a0 ≥ 1 then (some (decide (a0 ≤ a1))) else (some false))
def goods_may.f (k : Nat) (a0_0 : ByteArray) (a0_1 : ByteArray) (a0_2 : Int) (a0_3 : Int) (a0_4 : Int) : Option (Bool) := ((goods_name.f k a0_0).bind fun t703 => (if t703 = true then ((goods_name.f k a0_1).bind fun t706 => (if t706 = true then (if (a0_0 == a0_1) = true then (some false) else ((goods_in.f a0_2 9).bind fun t711 => (if t711 = true then ((goods_in.f a0_3 100).bind fun t714 => (if t714 = true then ((goods_in.f a0_4 100).bind fun t717 => (some t717)) else (some false))) else (some false)))) else (some false))) else (some false)))
def slices_Index_string_string.l1 (k : Nat) (a1 : ByteArray) (l0 : List ByteArray) : Nat → Int → Option (Int)
  | 0, _ => none
  | ml1 + 1, i781 => (if i781 < (l0.length : Int) then (if 0 ≤ i781 then ((l0[i781.toNat]?).bind fun x807 => (if (a1 == x807) = true then (some i781) else (slices_Index_string_string.l1 k a1 l0 ml1 (wrap64 (i781 + 1))))) else none) else (some (-1)))
def slices_Index_string_string.f (k : Nat) (l0 : List ByteArray) (a1 : ByteArray) : Option (Int) := (slices_Index_string_string.l1 k a1 l0 k 0)
def slices_Contains_string_string.f (k : Nat) (l0 : List ByteArray) (a1 : ByteArray) : Option (Bool) := ((slices_Index_string_string.f k l0 a1).bind fun t812 => (some (decide (t812 ≥ 0))))
def goods_Right_2.f (k : Nat) (a0 : ByteArray) : Option (Bool) := ((goods_name.f k a0).bind fun t1125 => (if t1125 = true then (some false) else (some true)))
def slices_IndexFunc_string_string.l1 (k : Nat) (l0 : List ByteArray) : Nat → Int → Option (Int)
  | 0, _ => none
  | ml1 + 1, i1187 => (if i1187 < (l0.length : Int) then (if 0 ≤ i1187 then ((l0[i1187.toNat]?).bind fun x1216 => ((goods_Right_2.f k x1216).bind fun t1219 => (if t1219 = true then (some i1187) else (slices_IndexFunc_string_string.l1 k l0 ml1 (wrap64 (i1187 + 1)))))) else none) else (some (-1)))
def slices_IndexFunc_string_string.f (k : Nat) (l0 : List ByteArray) : Option (Int) := (slices_IndexFunc_string_string.l1 k l0 k 0)
def slices_ContainsFunc_string_string.f (k : Nat) (l0 : List ByteArray) : Option (Bool) := ((slices_IndexFunc_string_string.f k l0).bind fun t1222 => (some (decide (t1222 ≥ 0))))
def internal_bytealg_CompareString.f (a0 : ByteArray) (a1 : ByteArray) : Option (Int) := (some (Lib.compareBytes a0.data.toList a1.data.toList))
def strings_Compare.f (a0 : ByteArray) (a1 : ByteArray) : Option (Int) := ((internal_bytealg_CompareString.f a0 a1).bind fun t1241 => (some t1241))
def goods_rising_string.l1 (k : Nat) (a1 : Int) (l0 : List ByteArray) : Nat → Int → Option (Bool)
  | 0, _ => none
  | ml1 + 1, i1313 => (if i1313 < (l0.length : Int) then (if 0 ≤ wrap64 (i1313 - 1) then ((l0[(wrap64 (i1313 - 1)).toNat]?).bind fun x1348 => (if 0 ≤ i1313 then ((l0[i1313.toNat]?).bind fun x1350 => ((strings_Compare.f x1348 x1350).bind fun t1351 => (if t1351 ≥ 0 then (some false) else (goods_rising_string.l1 k a1 l0 ml1 (wrap64 (i1313 + 1)))))) else none)) else none) else (some (decide ((l0.length : Int) ≤ a1))))
def goods_rising_string.f (k : Nat) (l0 : List ByteArray) (a1 : Int) : Option (Bool) := (goods_rising_string.l1 k a1 l0 k 1)
def cmp_isNaN_int.f (a0 : Int) : Option (Bool) := (some (a0 != a0))
def cmp_Compare_int.f (a0 : Int) (a1 : Int) : Option (Int) := ((cmp_isNaN_int.f a0).bind fun t1374 => ((cmp_isNaN_int.f a1).bind fun t1376 => (if t1374 = true then (if t1376 = true then (some 0) else (some (-1))) else (if t1376 = true then (some 1) else (if a0 < a1 then (some (-1)) else (if a0 > a1 then (some 1) else (some 0)))))))
def cmp_Or_int.l1 (k : Nat) (l0 : List Int) : Nat → Int → Option (Int)
  | 0, _ => none
  | ml1 + 1, i1456 => (if i1456 < (l0.length : Int) then (if 0 ≤ i1456 then ((l0[i1456.toNat]?).bind fun x1482 => (if x1482 = 0 then (cmp_Or_int.l1 k l0 ml1 (wrap64 (i1456 + 1))) else (some x1482))) else none) else (some 0))
def cmp_Or_int.f (k : Nat) (l0 : List Int) : Option (Int) := (cmp_Or_int.l1 k l0 k 0)
def goods_compare.f (k : Nat) (a0_0 : ByteArray) (a0_1 : ByteArray) (a0_2 : Int) (a0_3 : Int) (a0_4 : Int) (a1_0 : ByteArray) (a1_1 : ByteArray) (a1_2 : Int) (a1_3 : Int) (a1_4 : Int) : Option (Int) := ((strings_Compare.f a0_0 a1_0).bind fun t1371 => ((cmp_Compare_int.f a0_2 a1_2).bind fun t1394 => ((cmp_Or_int.f k ([t1371, t1394] : List Int)).bind fun t1487 => (some t1487))))
def goods_rising_Sub.l1 (k : Nat) (a1 : Int) (l0 : List S22) : Nat → Int → Option (Bool)
  | 0, _ => none
  | ml1 + 1, i1559 => (if i1559 < (l0.length : Int) then (if 0 ≤ wrap64 (i1559 - 1) then ((l0[(wrap64 (i1559 - 1)).toNat]?).bind fun x1594 => (if 0 ≤ i1559 then ((l0[i1559.toNat]?).bind fun x1596 => ((goods_compare.f k x1594.f0 x1594.f1 x1594.f2 x1594.f3 x1594.f4 x1596.f0 x1596.f1 x1596.f2 x1596.f3 x1596.f4).bind fun t1597 => (if t1597 ≥ 0 then (some false) else (goods_rising_Sub.l1 k a1 l0 ml1 (wrap64 (i1559 + 1)))))) else none)) else none) else (some (decide ((l0.length : Int) ≤ a1))))
def goods_rising_Sub.f (k : Nat) (l0 : List S22) (a1 : Int) : Option (Bool) := (goods_rising_Sub.l1 k a1 l0 k 1)
def goods_Right.l1 (k : Nat) (l0_0 : List ByteArray) (l0_1 : List S22) : Nat → Int → Option (Bool)
  | 0, _ => none
  | ml1 + 1, i1048 => (if i1048 < (l0_1.length : Int) then (if 0 ≤ i1048 then ((l0_1[i1048.toNat]?).bind fun x1641 => (if i1048 ≤ (l0_1.length : Int) then ((slices_ContainsFunc_api_Sub_api_Sub.f k ((l0_1.take i1048.toNat).drop 0) x1641.f0 x1641.f1 x1641.f2 x1641.f3 x1641.f4).bind fun t1648 => (if t1648 = true then (some false) else ((goods_may.f k x1641.f0 x1641.f1 x1641.f2 x1641.f3 x1641.f4).bind fun t1661 => (if t1661 = true then ((slices_Contains_string_string.f k l0_0 x1641.f0).bind fun t1664 => (if t1664 = true then ((slices_Contains_string_string.f k l0_0 x1641.f1).bind fun t1667 => (if t1667 = true then (goods_Right.l1 k l0_0 l0_1 ml1 (wrap64 (i1048 + 1))) else (some false))) else (some false))) else (some false))))) else none)) else none) else ((slices_ContainsFunc_string_string.f k l0_0).bind fun t1673 => (if t1673 = true then (some false) else ((goods_rising_string.f k l0_0 8).bind fun t1681 => (if t1681 = true then ((goods_rising_Sub.f k l0_1 16).bind fun t1684 => (some t1684)) else (some false))))))
def goods_Right.f (k : Nat) (l0_0 : List ByteArray) (l0_1 : List S22) : Option (Bool) := (goods_Right.l1 k l0_0 l0_1 k 0)
def goods_Rule_1.f (a0_0 : ByteArray) (a0_1 : ByteArray) (a0_2 : Int) (a0_3 : Int) (a0_4 : Int) (a1_0 : ByteArray) (a1_1 : ByteArray) (a1_2 : Int) (a1_3 : Int) (a1_4 : Int) : Option (Bool) := (if (a0_0 == a1_0) = true then (if a0_2 = a1_2 then (some true) else (some (a0_1 == a1_1))) else (some false))
def slices_IndexFunc_api_Sub_api_Sub_s25.l1 (k : Nat) (a1_0_0 : ByteArray) (a1_0_1 : ByteArray) (a1_0_2 : Int) (a1_0_3 : Int) (a1_0_4 : Int) (l0 : List S22) : Nat → Int → Option (Int)
  | 0, _ => none
  | ml1 + 1, i1788 => (if i1788 < (l0.length : Int) then (if 0 ≤ i1788 then ((l0[i1788.toNat]?).bind fun x1817 => ((goods_Rule_1.f x1817.f0 x1817.f1 x1817.f2 x1817.f3 x1817.f4 a1_0_0 a1_0_1 a1_0_2 a1_0_3 a1_0_4).bind fun t1820 => (if t1820 = true then (some i1788) else (slices_IndexFunc_api_Sub_api_Sub_s25.l1 k a1_0_0 a1_0_1 a1_0_2 a1_0_3 a1_0_4 l0 ml1 (wrap64 (i1788 + 1)))))) else none) else (some (-1)))
def slices_IndexFunc_api_Sub_api_Sub_s25.f (k : Nat) (l0 : List S22) (a1_0_0 : ByteArray) (a1_0_1 : ByteArray) (a1_0_2 : Int) (a1_0_3 : Int) (a1_0_4 : Int) : Option (Int) := (slices_IndexFunc_api_Sub_api_Sub_s25.l1 k a1_0_0 a1_0_1 a1_0_2 a1_0_3 a1_0_4 l0 k 0)
def slices_ContainsFunc_api_Sub_api_Sub_s25.f (k : Nat) (l0 : List S22) (a1_0_0 : ByteArray) (a1_0_1 : ByteArray) (a1_0_2 : Int) (a1_0_3 : Int) (a1_0_4 : Int) : Option (Bool) := ((slices_IndexFunc_api_Sub_api_Sub_s25.f k l0 a1_0_0 a1_0_1 a1_0_2 a1_0_3 a1_0_4).bind fun t1823 => (some (decide (t1823 ≥ 0))))
def slices_BinarySearchFunc_api_Sub_api_Sub_api_Sub.l1 (k : Nat) (a1_0 : ByteArray) (a1_1 : ByteArray) (a1_2 : Int) (a1_3 : Int) (a1_4 : Int) (l0 : List S22) : Nat → Int → Int → Option (Int × Bool)
  | 0, _, _ => none
  | ml1 + 1, i1924, i1925 => (if i1924 < i1925 then (if 0 ≤ wrap64 ((IntKind.u64.wrap (wrap64 (i1924 + i1925))).fdiv (2 ^ min (1 : Int).toNat IntKind.u64.bits)) then ((l0[(wrap64 ((IntKind.u64.wrap (wrap64 (i1924 + i1925))).fdiv (2 ^ min (1 : Int).toNat IntKind.u64.bits))).toNat]?).bind fun x1948 => ((goods_compare.f k x1948.f0 x1948.f1 x1948.f2 x1948.f3 x1948.f4 a1_0 a1_1 a1_2 a1_3 a1_4).bind fun t1949 => (if t1949 < 0 then (slices_BinarySearchFunc_api_Sub_api_Sub_api_Sub.l1 k a1_0 a1_1 a1_2 a1_3 a1_4 l0 ml1 (wrap64 ((wrap64 ((IntKind.u64.wrap (wrap64 (i1924 + i1925))).fdiv (2 ^ min (1 : Int).toNat IntKind.u64.bits))) + 1)) i1925) else (slices_BinarySearchFunc_api_Sub_api_Sub_api_Sub.l1 k a1_0 a1_1 a1_2 a1_3 a1_4 l0 ml1 i1924 (wrap64 ((IntKind.u64.wrap (wrap64 (i1924 + i1925))).fdiv (2 ^ min (1 : Int).toNat IntKind.u64.bits))))))) else none) else (if i1924 < (l0.length : Int) then (if 0 ≤ i1924 then ((l0[i1924.toNat]?).bind fun x1956 => ((goods_compare.f k x1956.f0 x1956.f1 x1956.f2 x1956.f3 x1956.f4 a1_0 a1_1 a1_2 a1_3 a1_4).bind fun t1957 => (some (i1924, (t1957 == 0))))) else none) else (some (i1924, false))))
def slices_BinarySearchFunc_api_Sub_api_Sub_api_Sub.f (k : Nat) (l0 : List S22) (a1_0 : ByteArray) (a1_1 : ByteArray) (a1_2 : Int) (a1_3 : Int) (a1_4 : Int) : Option (Int × Bool) := (slices_BinarySearchFunc_api_Sub_api_Sub_api_Sub.l1 k a1_0 a1_1 a1_2 a1_3 a1_4 l0 k 0 (l0.length : Int))
def slices_Clone_api_Sub_api_Sub.f (l0 : List S22) : Option (List S22) := if l0.length * 56 ≤ 140737488355328 then some l0 else none
def slices_Insert_api_Sub_api_Sub.f (l0 : List S22) (a1 : Int) (l2 : List S22) : Option (List S22) := if 0 ≤ a1 ∧ a1 ≤ (l0.length : Int) ∧ (l0.length + l2.length) * 56 ≤ 140737488355328 then some (l0.take a1.toNat ++ l2 ++ l0.drop a1.toNat) else none
def goods_put_Sub.f (k : Nat) (l0 : List S22) (a1_0 : ByteArray) (a1_1 : ByteArray) (a1_2 : Int) (a1_3 : Int) (a1_4 : Int) : Option (List S22) := ((slices_BinarySearchFunc_api_Sub_api_Sub_api_Sub.f k l0 a1_0 a1_1 a1_2 a1_3 a1_4).bind fun ⟨t1960, t1961⟩ => ((slices_Clone_api_Sub_api_Sub.f l0).bind fun r1963 => ((slices_Insert_api_Sub_api_Sub.f r1963 t1960 ([(⟨a1_0, a1_1, a1_2, a1_3, a1_4⟩ : S22)] : List S22)).bind fun r1969 => (some r1969))))
def goods_Rule.f (k : Nat) (l0_0 : List ByteArray) (l0_1 : List S22) (a1_0 : ByteArray) (a1_1 : ByteArray) (a1_2 : Int) (a1_3 : Int) (a1_4 : Int) : Option (List ByteArray × List S22 × Int) := ((goods_Right.f k l0_0 l0_1).bind fun t2029 => (if t2029 = true then ((goods_may.f k a1_0 a1_1 a1_2 a1_3 a1_4).bind fun t2032 => (if t2032 = true then ((slices_Contains_string_string.f k l0_0 a1_0).bind fun t2041 => (if t2041 = true then ((slices_Contains_string_string.f k l0_0 a1_1).bind fun t2044 => (if t2044 = true then ((slices_ContainsFunc_api_Sub_api_Sub_s25.f k l0_1 a1_0 a1_1 a1_2 a1_3 a1_4).bind fun t2047 => (if t2047 = true then (some (([] : List ByteArray), ([] : List S22), 9)) else (if (l0_1.length : Int) = 16 then (some (([] : List ByteArray), ([] : List S22), 7)) else ((goods_put_Sub.f k l0_1 a1_0 a1_1 a1_2 a1_3 a1_4).bind fun r2056 => (some (l0_0, r2056, 0)))))) else (some (([] : List ByteArray), ([] : List S22), 8)))) else (some (([] : List ByteArray), ([] : List S22), 8)))) else (some (([] : List ByteArray), ([] : List S22), 1)))) else (some (([] : List ByteArray), ([] : List S22), 1))))
def goods_Units.f (k : Nat) (a0_0 : ByteArray) (a0_1 : ByteArray) (a0_2 : Int) (a0_3 : Int) (a0_4 : Int) (a1 : Int) : Option (Int × Int) := ((goods_may.f k a0_0 a0_1 a0_2 a0_3 a0_4).bind fun t2098 => (if t2098 = true then ((goods_in.f a1 1073741824).bind fun t2101 => (if t2101 = true then (if a0_4 ≠ 0 then (if (IntKind.i64.wrap ((wrap64 ((wrap64 ((wrap64 (a1 * a0_3)) + a0_4)) - 1)).tdiv a0_4)) > 1073741824 then (some (0, 2)) else (some (IntKind.i64.wrap ((wrap64 ((wrap64 ((wrap64 (a1 * a0_3)) + a0_4)) - 1)).tdiv a0_4), 0))) else none) else (some (0, 1)))) else (some (0, 1))))
def tarrylaw07_alive.f (k : Nat)  : Option (Bool) := ((goods_Units.f k (⟨#[97]⟩ : ByteArray) (⟨#[98]⟩ : ByteArray) 1 3 2 5).bind fun ⟨t2109, t2110⟩ => (if t2110 = 0 then (some (t2109 == 8)) else (some false)))
def goods_For_1.f (a0_0 : ByteArray) (a0_1 : ByteArray) (a0_2 : Int) (a0_3 : Int) (a0_4 : Int) (a1_0 : ByteArray) : Option (Bool) := (some (a0_0 != a1_0))
def slices_IndexFunc_api_Sub_api_Sub_s35.l1 (k : Nat) (a1_0_0 : ByteArray) (l0 : List S22) : Nat → Int → Option (Int)
  | 0, _ => none
  | ml1 + 1, i2224 => (if i2224 < (l0.length : Int) then (if 0 ≤ i2224 then ((l0[i2224.toNat]?).bind fun x2253 => ((goods_For_1.f x2253.f0 x2253.f1 x2253.f2 x2253.f3 x2253.f4 a1_0_0).bind fun t2256 => (if t2256 = true then (some i2224) else (slices_IndexFunc_api_Sub_api_Sub_s35.l1 k a1_0_0 l0 ml1 (wrap64 (i2224 + 1)))))) else none) else (some (-1)))
def slices_IndexFunc_api_Sub_api_Sub_s35.f (k : Nat) (l0 : List S22) (a1_0_0 : ByteArray) : Option (Int) := (slices_IndexFunc_api_Sub_api_Sub_s35.l1 k a1_0_0 l0 k 0)
def slices_DeleteFunc_api_Sub_api_Sub.f (ix : Option Int) (p : S22 → Option Bool) (l0 : List S22) : Option (List S22) := ix.bind fun i => if i = -1 then some l0 else if 0 ≤ i ∧ i < (l0.length : Int) then (keepM p (l0.drop (i.toNat + 1))).bind fun r => some (l0.take i.toNat ++ r) else none
def goods_For.f (k : Nat) (l0_0 : List ByteArray) (l0_1 : List S22) (a1 : ByteArray) : Option (List S22 × Int) := ((goods_Right.f k l0_0 l0_1).bind fun t2143 => (if t2143 = true then ((slices_Contains_string_string.f k l0_0 a1).bind fun t2149 => (if t2149 = true then ((slices_Clone_api_Sub_api_Sub.f l0_1).bind fun r2152 => ((slices_DeleteFunc_api_Sub_api_Sub.f (slices_IndexFunc_api_Sub_api_Sub_s35.f k r2152 a1) (fun x => goods_For_1.f x.f0 x.f1 x.f2 x.f3 x.f4 a1) r2152).bind fun r2259 => (some (r2259, 0)))) else (some (([] : List S22), 8)))) else (some (([] : List S22), 1))))
def tarryref07_Like.l5 (k : Nat) (l0_1 : List S22) (l1_1 : List S22) : Nat → Int → Option (Bool)
  | 0, _ => none
  | ml5 + 1, i2681 => (if i2681 < (l0_1.length : Int) then (if 0 ≤ i2681 then ((l0_1[i2681.toNat]?).bind fun x2704 => ((l1_1[i2681.toNat]?).bind fun x2705 => (if (((x2704.f0 == x2705.f0) && ((x2704.f1 == x2705.f1) && ((x2704.f2 == x2705.f2) && ((x2704.f3 == x2705.f3) && (x2704.f4 == x2705.f4)))))) = true then (tarryref07_Like.l5 k l0_1 l1_1 ml5 (wrap64 (i2681 + 1))) else (some false)))) else none) else (some true))
def tarryref07_Like.l1 (k : Nat) (l0_0 : List ByteArray) (l0_1 : List S22) (l1_0 : List ByteArray) (l1_1 : List S22) : Nat → Int → Option (Bool)
  | 0, _ => none
  | ml1 + 1, i2525 => (if i2525 < (l0_0.length : Int) then (if 0 ≤ i2525 then ((l0_0[i2525.toNat]?).bind fun x2628 => ((l1_0[i2525.toNat]?).bind fun x2629 => (if (x2628 == x2629) = true then (tarryref07_Like.l1 k l0_0 l0_1 l1_0 l1_1 ml1 (wrap64 (i2525 + 1))) else (some false)))) else none) else (tarryref07_Like.l5 k l0_1 l1_1 k 0))
def tarryref07_Like.f (k : Nat) (l0_0 : List ByteArray) (l0_1 : List S22) (l1_0 : List ByteArray) (l1_1 : List S22) : Option (Bool) := (if (l0_0.length : Int) = (l1_0.length : Int) then (if (l0_1.length : Int) = (l1_1.length : Int) then (tarryref07_Like.l1 k l0_0 l0_1 l1_0 l1_1 k 0) else (some false)) else (some false))
def tarrylaw07_GoodsStay.j2 (k : Nat) (r2068 : List ByteArray) (r2069 : List S22) (r383 : List ByteArray) (r384 : List S22) (t2266 : Int) (t390 : ByteArray) (t391 : ByteArray) (t392 : Int) (t393 : Int) (t394 : Int) (t396 : ByteArray) (t397 : ByteArray) (t398 : Int) (t399 : Int) (t400 : Int) (i2882 : Int) : Option (Bool) := (if t2266 = 0 then (if i2882 = 1 then ((goods_Right.f k r2068 r2069).bind fun t2917 => (if t2917 = true then ((tarrylaw07_alive.f k).bind fun t2920 => (if t2920 = true then ((goods_Rule.f k r2068 r2069 t396 t397 t398 t399 t400).bind fun ⟨r2923, r2924, t2925⟩ => ((goods_Rule.f k r383 r384 t396 t397 t398 t399 t400).bind fun ⟨r2932, r2933, t2934⟩ => (if t2925 = 0 then ((goods_Rule.f k r2932 r2933 t390 t391 t392 t393 t394).bind fun ⟨r2945, r2946, t2947⟩ => (if t2934 = 0 then (if t2947 = 0 then ((tarryref07_Like.f k r2923 r2924 r2945 r2946).bind fun t2964 => (some t2964)) else none) else none)) else (some true)))) else none)) else none)) else none) else none)
def tarrylaw07_GoodsStay.l3 (k : Nat) (r2068 : List ByteArray) (r2069 : List S22) (r2265 : List S22) (r383 : List ByteArray) (r384 : List S22) (t2266 : Int) (t390 : ByteArray) (t391 : ByteArray) (t392 : Int) (t393 : Int) (t394 : Int) (t396 : ByteArray) (t397 : ByteArray) (t398 : Int) (t399 : Int) (t400 : Int) : Nat → Int → Int → Option (Bool)
  | 0, _, _ => none
  | ml3 + 1, i2838, i2839 => (if i2839 < (r2265.length : Int) then (if 0 ≤ i2839 then ((r2265[i2839.toNat]?).bind fun x2874 => (if x2874.f2 = t392 then (if (((x2874.f0 == t390) && ((x2874.f1 == t391) && ((x2874.f2 == t392) && ((x2874.f3 == t393) && (x2874.f4 == t394)))))) = true then (tarrylaw07_GoodsStay.l3 k r2068 r2069 r2265 r383 r384 t2266 t390 t391 t392 t393 t394 t396 t397 t398 t399 t400 ml3 (wrap64 (i2838 + 1)) (wrap64 (i2839 + 1))) else none) else (tarrylaw07_GoodsStay.l3 k r2068 r2069 r2265 r383 r384 t2266 t390 t391 t392 t393 t394 t396 t397 t398 t399 t400 ml3 i2838 (wrap64 (i2839 + 1))))) else none) else (tarrylaw07_GoodsStay.j2 k r2068 r2069 r383 r384 t2266 t390 t391 t392 t393 t394 t396 t397 t398 t399 t400 i2838))
def tarrylaw07_GoodsStay.f (k : Nat) (l0_0 : List ByteArray) (l0_1 : List S22) (a1_0 : ByteArray) (a1_1 : ByteArray) (a1_2 : Int) (a1_3 : Int) (a1_4 : Int) (a2_0 : ByteArray) (a2_1 : ByteArray) (a2_2 : Int) (a2_3 : Int) (a2_4 : Int) : Option (Bool) := ((tarrylaw07_few.f k l0_0 l0_1).bind fun ⟨r383, r384⟩ => ((tarrylaw07_cut.f a1_0 a1_1 a1_2 a1_3 a1_4).bind fun ⟨t390, t391, t392, t393, t394⟩ => ((tarrylaw07_cut.f a2_0 a2_1 a2_2 a2_3 a2_4).bind fun ⟨t396, t397, t398, t399, t400⟩ => ((goods_Rule.f k r383 r384 t390 t391 t392 t393 t394).bind fun ⟨r2068, r2069, t2070⟩ => (if t2070 = 0 then ((goods_For.f k r2068 r2069 t390).bind fun ⟨r2265, t2266⟩ => (tarrylaw07_GoodsStay.l3 k r2068 r2069 r2265 r383 r384 t2266 t390 t391 t392 t393 t394 t396 t397 t398 t399 t400 k 0 0)) else ((tarrylaw07_alive.f k).bind fun t2966 => (some t2966)))))))
/-- THE ONE PURE STATEMENT. -/
def tarrylaw07_GoodsStay.Pure : Prop := ∀ (l0_0 : List ByteArray) (l0_1 : List S22) (a1_0 : ByteArray) (a1_1 : ByteArray) (a1_2 : Int) (a1_3 : Int) (a1_4 : Int) (a2_0 : ByteArray) (a2_1 : ByteArray) (a2_2 : Int) (a2_3 : Int) (a2_4 : Int), allOk (fun x : ByteArray => x.size ≤ 9223372036854775807) l0_0 → allOk ok22 l0_1 → a1_0.size ≤ 9223372036854775807 → a1_1.size ≤ 9223372036854775807 → (Lit.int .i64 a1_2).wf = true → (Lit.int .i64 a1_3).wf = true → (Lit.int .i64 a1_4).wf = true → a2_0.size ≤ 9223372036854775807 → a2_1.size ≤ 9223372036854775807 → (Lit.int .i64 a2_2).wf = true → (Lit.int .i64 a2_3).wf = true → (Lit.int .i64 a2_4).wf = true → ∃ k, tarrylaw07_GoodsStay.f k l0_0 l0_1 a1_0 a1_1 a1_2 a1_3 a1_4 a2_0 a2_1 a2_2 a2_3 a2_4 = some true

end Go.Proofs.Ytoiihpmncphplaa.PGoodsStay
