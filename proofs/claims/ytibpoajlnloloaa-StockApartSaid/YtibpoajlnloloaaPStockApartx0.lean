/- Written by a program of this repo: what the program's functions do, each as a Lean function, shown of the loaded code; or a statement's row over that; no condition of its own. -/
import Derived.Test.YtibpoajlnloloaaProg
import Derived.Test.YtibpoajlnloloaaV11
namespace Go.Proofs.Ytibpoajlnloloaa.PStockApart
open Go Go.RowKit Go.Proofs.YtibpoajlnloloaaV
set_option linter.unusedVariables false
set_option linter.unusedSimpArgs false

structure S32 where
  f0 : ByteArray
  f1 : Int
  f2 : Int
  f3 : Int
  f4 : Int
  f5 : Int
def enc32 (x : S32) : List Value := [.string x.f0, .int .i64 x.f1, .int .i64 x.f2, .int .i64 x.f3, .int .i64 x.f4, .int .i64 x.f5]
theorem enc32_ok (a : S32) : (enc32 a).length = 6 ∧ ∀ u ∈ enc32 a, u.oneCell' = true := ⟨rfl, by intro u hu; simp only [enc32, List.mem_cons, List.not_mem_nil, or_false] at hu; rcases hu with rfl | rfl | rfl | rfl | rfl | rfl <;> rfl⟩
def ok32 (x : S32) : Prop := x.f0.size ≤ 9223372036854775807 ∧ (Lit.int .i64 x.f1).wf = true ∧ (Lit.int .i64 x.f2).wf = true ∧ (Lit.int .i64 x.f3).wf = true ∧ (Lit.int .i64 x.f4).wf = true ∧ (Lit.int .i64 x.f5).wf = true
structure S71 where
  f0 : ByteArray
  f1 : ByteArray
  f2 : Int
  f3 : Int
  f4 : Int
def enc71 (x : S71) : List Value := [.string x.f0, .string x.f1, .int .i64 x.f2, .int .i64 x.f3, .int .i64 x.f4]
theorem enc71_ok (a : S71) : (enc71 a).length = 5 ∧ ∀ u ∈ enc71 a, u.oneCell' = true := ⟨rfl, by intro u hu; simp only [enc71, List.mem_cons, List.not_mem_nil, or_false] at hu; rcases hu with rfl | rfl | rfl | rfl | rfl <;> rfl⟩
def ok71 (x : S71) : Prop := x.f0.size ≤ 9223372036854775807 ∧ x.f1.size ≤ 9223372036854775807 ∧ (Lit.int .i64 x.f2).wf = true ∧ (Lit.int .i64 x.f3).wf = true ∧ (Lit.int .i64 x.f4).wf = true
def enc_inti64 (x : Int) : List Value := [.int .i64 x]
theorem enc_inti64_ok (a : Int) : (enc_inti64 a).length = 1 ∧ ∀ u ∈ enc_inti64 a, u.oneCell' = true := ⟨rfl, by intro u hu; simp only [enc_inti64, List.mem_cons, List.not_mem_nil, or_false] at hu; rcases hu with rfl; rfl⟩
def enc_str (x : ByteArray) : List Value := [.string x]
theorem enc_str_ok (a : ByteArray) : (enc_str a).length = 1 ∧ ∀ u ∈ enc_str a, u.oneCell' = true := ⟨rfl, by intro u hu; simp only [enc_str, List.mem_cons, List.not_mem_nil, or_false] at hu; rcases hu with rfl; rfl⟩
def enc_intu8 (x : Int) : List Value := [.int .u8 x]
theorem enc_intu8_ok (a : Int) : (enc_intu8 a).length = 1 ∧ ∀ u ∈ enc_intu8 a, u.oneCell' = true := ⟨rfl, by intro u hu; simp only [enc_intu8, List.mem_cons, List.not_mem_nil, or_false] at hu; rcases hu with rfl; rfl⟩
theorem VC.join0 {E : Env} {P : Program} {Q : Exit → Act → World → Prop} {s : St}  {c1 c2 : Code} (I : St) (F : Prop) (hx : VC P E c1 (Exit.then (fun a w => F ∧ Inv E (I) a w) Q) s) (hy : F → VC P E c2 Q (I)) : VC P E (.seq c1 c2) Q s :=
  fun a w hi => wp_seq (Code.wp_mono (fun e a w h => by
    cases e <;> first | exact h | (obtain ⟨hf, hi⟩ := h; exact hy  hf a w hi)) (hx a w hi))
theorem VN.meet0 {E : Env} {Q : Exit → Act → World → Prop} {s : St}  {I : St} {F : Prop}  (bs rs : List Nat) (hf : F) (hl : Le s (I) bs rs) : VN E (Exit.then (fun a w => F ∧ Inv E (I) a w) Q) s :=
  fun a w hi => ⟨hf, hi.le hl⟩
theorem VC.join1 {E : Env} {P : Program} {Q : Exit → Act → World → Prop} {s : St} {α0 : Type} {c1 c2 : Code} (I : α0 → St) (F : α0 → Prop) (hx : VC P E c1 (Exit.then (fun a w => ∃ (x0 : α0), F x0 ∧ Inv E (I x0) a w) Q) s) (hy : ∀ (x0 : α0), F x0 → VC P E c2 Q (I x0)) : VC P E (.seq c1 c2) Q s :=
  fun a w hi => wp_seq (Code.wp_mono (fun e a w h => by
    cases e <;> first | exact h | (obtain ⟨x0, hf, hi⟩ := h; exact hy x0 hf a w hi)) (hx a w hi))
theorem VN.meet1 {E : Env} {Q : Exit → Act → World → Prop} {s : St} {α0 : Type} {I : α0 → St} {F : α0 → Prop} (x0 : α0) (bs rs : List Nat) (hf : F x0) (hl : Le s (I x0) bs rs) : VN E (Exit.then (fun a w => ∃ (x0 : α0), F x0 ∧ Inv E (I x0) a w) Q) s :=
  fun a w hi => ⟨x0, hf, hi.le hl⟩
theorem VC.loop1 {E : Env} {P : Program} {Q : Exit → Act → World → Prop} {s : St} {α0 : Type} {c : Code} (I : α0 → St) (F : Nat → α0 → Prop) (k : Nat) (x0 : α0) (bs rs : List Nat) (hf : F k x0) (hl : Le s (I x0) bs rs) (hz : ∀ (x0 : α0), ¬ F 0 x0) (h : ∀ k, (∀ (x0 : α0), F k x0 → VLp P E c Q k (I x0)) → ∀ (x0 : α0), F (k + 1) x0 → VC P E c (Exit.then (Code.rounds P c Q k) Q) (I x0)) : VC P E (.loop c) Q s := by
  have key : ∀ k (x0 : α0), F k x0 → VLp P E c Q k (I x0) := by
    intro k
    induction k with
    | zero => intro x0 hf; exact absurd hf (hz x0)
    | succ k ih => intro x0 hf; exact VLp.succ (h k ih x0 hf)
  exact fun a w hi => wp_loop_rounds k (key k x0 hf a w (hi.le hl))
theorem VC.loop2 {E : Env} {P : Program} {Q : Exit → Act → World → Prop} {s : St} {α0 : Type} {α1 : Type} {c : Code} (I : α0 → α1 → St) (F : Nat → α0 → α1 → Prop) (k : Nat) (x0 : α0) (x1 : α1) (bs rs : List Nat) (hf : F k x0 x1) (hl : Le s (I x0 x1) bs rs) (hz : ∀ (x0 : α0) (x1 : α1), ¬ F 0 x0 x1) (h : ∀ k, (∀ (x0 : α0) (x1 : α1), F k x0 x1 → VLp P E c Q k (I x0 x1)) → ∀ (x0 : α0) (x1 : α1), F (k + 1) x0 x1 → VC P E c (Exit.then (Code.rounds P c Q k) Q) (I x0 x1)) : VC P E (.loop c) Q s := by
  have key : ∀ k (x0 : α0) (x1 : α1), F k x0 x1 → VLp P E c Q k (I x0 x1) := by
    intro k
    induction k with
    | zero => intro x0 x1 hf; exact absurd hf (hz x0 x1)
    | succ k ih => intro x0 x1 hf; exact VLp.succ (h k ih x0 x1 hf)
  exact fun a w hi => wp_loop_rounds k (key k x0 x1 hf a w (hi.le hl))
theorem VC.loop3 {E : Env} {P : Program} {Q : Exit → Act → World → Prop} {s : St} {α0 : Type} {α1 : Type} {α2 : Type} {c : Code} (I : α0 → α1 → α2 → St) (F : Nat → α0 → α1 → α2 → Prop) (k : Nat) (x0 : α0) (x1 : α1) (x2 : α2) (bs rs : List Nat) (hf : F k x0 x1 x2) (hl : Le s (I x0 x1 x2) bs rs) (hz : ∀ (x0 : α0) (x1 : α1) (x2 : α2), ¬ F 0 x0 x1 x2) (h : ∀ k, (∀ (x0 : α0) (x1 : α1) (x2 : α2), F k x0 x1 x2 → VLp P E c Q k (I x0 x1 x2)) → ∀ (x0 : α0) (x1 : α1) (x2 : α2), F (k + 1) x0 x1 x2 → VC P E c (Exit.then (Code.rounds P c Q k) Q) (I x0 x1 x2)) : VC P E (.loop c) Q s := by
  have key : ∀ k (x0 : α0) (x1 : α1) (x2 : α2), F k x0 x1 x2 → VLp P E c Q k (I x0 x1 x2) := by
    intro k
    induction k with
    | zero => intro x0 x1 x2 hf; exact absurd hf (hz x0 x1 x2)
    | succ k ih => intro x0 x1 x2 hf; exact VLp.succ (h k ih x0 x1 x2 hf)
  exact fun a w hi => wp_loop_rounds k (key k x0 x1 x2 hf a w (hi.le hl))
theorem VC.stop0 {E : Env} {P : Program} {Q : Exit → Act → World → Prop} {s : St}  {c1 : Code} (I : St) (F : Prop) (hx : VC P E c1 (Exit.then (fun a w => F ∧ Inv E (I) a w) Q) s) (hy : F → VN E Q (I)) : VC P E c1 Q s :=
  fun a w hi => Code.wp_mono (fun e a w h => by
    cases e <;> first | exact h | (obtain ⟨hf, hi⟩ := h; exact hy  hf a w hi)) (hx a w hi)
theorem VC.stop1 {E : Env} {P : Program} {Q : Exit → Act → World → Prop} {s : St} {α0 : Type} {c1 : Code} (I : α0 → St) (F : α0 → Prop) (hx : VC P E c1 (Exit.then (fun a w => ∃ (x0 : α0), F x0 ∧ Inv E (I x0) a w) Q) s) (hy : ∀ (x0 : α0), F x0 → VN E Q (I x0)) : VC P E c1 Q s :=
  fun a w hi => Code.wp_mono (fun e a w h => by
    cases e <;> first | exact h | (obtain ⟨x0, hf, hi⟩ := h; exact hy x0 hf a w hi)) (hx a w hi)
theorem TI33 : TI Try.prog 33 true 6 := ⟨⟨_, Try.underlying33, rfl⟩, by kernel_rfl⟩
theorem Z33 : (Try.prog.info? 33).bind (·.zero) = some (.agg #[.string (⟨#[]⟩ : ByteArray), .int .i64 0, .int .i64 0, .int .i64 0, .int .i64 0, .int .i64 0]) := by kernel_rfl
theorem TI9 : TI Try.prog 9 false 1 := ⟨⟨_, Try.underlying9, rfl⟩, by kernel_rfl⟩
theorem FI33_0 : FI Try.prog 33 0 0 1 := ⟨_, _, _, Try.underlying33, rfl, rfl, TI9⟩
theorem EI33 : EI Try.prog 33 6 56 := ei_of (z := .agg #[.string (⟨#[]⟩ : ByteArray), .int .i64 0, .int .i64 0, .int .i64 0, .int .i64 0, .int .i64 0]) (by kernel_rfl) rfl (by decide) (by decide)
theorem FO11 : FOk Try.prog 11 := ⟨_, Try.func11, by kernel_rfl, by kernel_rfl⟩
theorem TI3 : TI Try.prog 3 false 1 := ⟨⟨_, Try.underlying3, rfl⟩, by kernel_rfl⟩
theorem FI33_1 : FI Try.prog 33 1 1 1 := ⟨_, _, _, Try.underlying33, rfl, rfl, TI3⟩
theorem FI33_2 : FI Try.prog 33 2 2 1 := ⟨_, _, _, Try.underlying33, rfl, rfl, TI3⟩
theorem FI33_3 : FI Try.prog 33 3 3 1 := ⟨_, _, _, Try.underlying33, rfl, rfl, TI3⟩
theorem FI33_4 : FI Try.prog 33 4 4 1 := ⟨_, _, _, Try.underlying33, rfl, rfl, TI3⟩
theorem FI33_5 : FI Try.prog 33 5 5 1 := ⟨_, _, _, Try.underlying33, rfl, rfl, TI3⟩
theorem Z3 : (Try.prog.info? 3).bind (·.zero) = some (.int .i64 0) := by kernel_rfl
theorem Z9 : (Try.prog.info? 9).bind (·.zero) = some (.string (⟨#[]⟩ : ByteArray)) := by kernel_rfl
theorem TI60 : TI Try.prog 60 false 1 := ⟨⟨_, Try.underlying60, rfl⟩, by kernel_rfl⟩
theorem TI61 : TI Try.prog 61 false 1 := ⟨⟨_, Try.underlying61, rfl⟩, by kernel_rfl⟩
theorem Z63 : (Try.prog.info? 63).bind (·.zero) = some (.agg #[.slice none 0 0, .slice none 0 0]) := by kernel_rfl
theorem SI63 : SI Try.prog 63 [.slice none 0 0, .slice none 0 0] [(0, 1), (1, 1)] := ⟨⟨_, Try.underlying63, (.cons ⟨rfl, _, TI60⟩ (.cons ⟨rfl, _, TI61⟩ .nil))⟩, Z63⟩
theorem FI63_1 : FI Try.prog 63 1 1 1 := ⟨_, _, _, Try.underlying63, rfl, rfl, TI61⟩
theorem TI72 : TI Try.prog 72 true 5 := ⟨⟨_, Try.underlying72, rfl⟩, by kernel_rfl⟩
theorem Z72 : (Try.prog.info? 72).bind (·.zero) = some (.agg #[.string (⟨#[]⟩ : ByteArray), .string (⟨#[]⟩ : ByteArray), .int .i64 0, .int .i64 0, .int .i64 0]) := by kernel_rfl
theorem FI72_0 : FI Try.prog 72 0 0 1 := ⟨_, _, _, Try.underlying72, rfl, rfl, TI9⟩
theorem FI72_1 : FI Try.prog 72 1 1 1 := ⟨_, _, _, Try.underlying72, rfl, rfl, TI9⟩
theorem FO47 : FOk Try.prog 47 := ⟨_, Try.func47, by kernel_rfl, by kernel_rfl⟩
theorem FO59 : FOk Try.prog 59 := ⟨_, Try.func59, by kernel_rfl, by kernel_rfl⟩
theorem FO46 : FOk Try.prog 46 := ⟨_, Try.func46, by kernel_rfl, by kernel_rfl⟩
theorem TI5 : TI Try.prog 5 false 1 := ⟨⟨_, Try.underlying5, rfl⟩, by kernel_rfl⟩
theorem FO63 : FOk Try.prog 63 := ⟨_, Try.func63, by kernel_rfl, by kernel_rfl⟩
theorem FO69 : FOk Try.prog 69 := ⟨_, Try.func69, by kernel_rfl, by kernel_rfl⟩
theorem FO64 : FOk Try.prog 64 := ⟨_, Try.func64, by kernel_rfl, by kernel_rfl⟩
theorem FO52 : FOk Try.prog 52 := ⟨_, Try.func52, by kernel_rfl, by kernel_rfl⟩
theorem FI72_2 : FI Try.prog 72 2 2 1 := ⟨_, _, _, Try.underlying72, rfl, rfl, TI3⟩
theorem FO60 : FOk Try.prog 60 := ⟨_, Try.func60, by kernel_rfl, by kernel_rfl⟩
theorem FI72_3 : FI Try.prog 72 3 3 1 := ⟨_, _, _, Try.underlying72, rfl, rfl, TI3⟩
theorem FI72_4 : FI Try.prog 72 4 4 1 := ⟨_, _, _, Try.underlying72, rfl, rfl, TI3⟩
theorem FO48 : FOk Try.prog 48 := ⟨_, Try.func48, by kernel_rfl, by kernel_rfl⟩
theorem FI63_0 : FI Try.prog 63 0 0 1 := ⟨_, _, _, Try.underlying63, rfl, rfl, TI60⟩
theorem FO61 : FOk Try.prog 61 := ⟨_, Try.func61, by kernel_rfl, by kernel_rfl⟩
theorem FO49 : FOk Try.prog 49 := ⟨_, Try.func49, by kernel_rfl, by kernel_rfl⟩
theorem FO51 : FOk Try.prog 51 := ⟨_, Try.func51, by kernel_rfl, by kernel_rfl⟩
theorem FO62 : FOk Try.prog 62 := ⟨_, Try.func62, by kernel_rfl, by kernel_rfl⟩
theorem FO50 : FOk Try.prog 50 := ⟨_, Try.func50, by kernel_rfl, by kernel_rfl⟩
theorem FO56 : FOk Try.prog 56 := ⟨_, Try.func56, by kernel_rfl, by kernel_rfl⟩
theorem FO41 : FOk Try.prog 41 := ⟨_, Try.func41, by kernel_rfl, by kernel_rfl⟩
theorem FO53 : FOk Try.prog 53 := ⟨_, Try.func53, by kernel_rfl, by kernel_rfl⟩
theorem FO70 : FOk Try.prog 70 := ⟨_, Try.func70, by kernel_rfl, by kernel_rfl⟩
theorem FO66 : FOk Try.prog 66 := ⟨_, Try.func66, by kernel_rfl, by kernel_rfl⟩
theorem FO65 : FOk Try.prog 65 := ⟨_, Try.func65, by kernel_rfl, by kernel_rfl⟩
theorem FO55 : FOk Try.prog 55 := ⟨_, Try.func55, by kernel_rfl, by kernel_rfl⟩
theorem FO54 : FOk Try.prog 54 := ⟨_, Try.func54, by kernel_rfl, by kernel_rfl⟩
theorem FO38 : FOk Try.prog 38 := ⟨_, Try.func38, by kernel_rfl, by kernel_rfl⟩
theorem FO23 : FOk Try.prog 23 := ⟨_, Try.func23, by kernel_rfl, by kernel_rfl⟩
theorem FO22 : FOk Try.prog 22 := ⟨_, Try.func22, by kernel_rfl, by kernel_rfl⟩
theorem FO44 : FOk Try.prog 44 := ⟨_, Try.func44, by kernel_rfl, by kernel_rfl⟩
theorem FO58 : FOk Try.prog 58 := ⟨_, Try.func58, by kernel_rfl, by kernel_rfl⟩
theorem FO45 : FOk Try.prog 45 := ⟨_, Try.func45, by kernel_rfl, by kernel_rfl⟩
theorem FO27 : FOk Try.prog 27 := ⟨_, Try.func27, by kernel_rfl, by kernel_rfl⟩
theorem FO9 : FOk Try.prog 9 := ⟨_, Try.func9, by kernel_rfl, by kernel_rfl⟩
theorem FO40 : FOk Try.prog 40 := ⟨_, Try.func40, by kernel_rfl, by kernel_rfl⟩
theorem FO39 : FOk Try.prog 39 := ⟨_, Try.func39, by kernel_rfl, by kernel_rfl⟩
theorem FO24 : FOk Try.prog 24 := ⟨_, Try.func24, by kernel_rfl, by kernel_rfl⟩
theorem FO25 : FOk Try.prog 25 := ⟨_, Try.func25, by kernel_rfl, by kernel_rfl⟩
theorem SI33 : SI Try.prog 33 [.string (⟨#[]⟩ : ByteArray), .int .i64 0, .int .i64 0, .int .i64 0, .int .i64 0, .int .i64 0] [(0, 1), (1, 1), (2, 1), (3, 1), (4, 1), (5, 1)] := ⟨⟨_, Try.underlying33, (.cons ⟨rfl, _, TI9⟩ (.cons ⟨rfl, _, TI3⟩ (.cons ⟨rfl, _, TI3⟩ (.cons ⟨rfl, _, TI3⟩ (.cons ⟨rfl, _, TI3⟩ (.cons ⟨rfl, _, TI3⟩ .nil))))))⟩, Z33⟩
theorem FO26 : FOk Try.prog 26 := ⟨_, Try.func26, by kernel_rfl, by kernel_rfl⟩
theorem FO8 : FOk Try.prog 8 := ⟨_, Try.func8, by kernel_rfl, by kernel_rfl⟩
theorem FO29 : FOk Try.prog 29 := ⟨_, Try.func29, by kernel_rfl, by kernel_rfl⟩
theorem FO28 : FOk Try.prog 28 := ⟨_, Try.func28, by kernel_rfl, by kernel_rfl⟩
theorem FO13 : FOk Try.prog 13 := ⟨_, Try.func13, by kernel_rfl, by kernel_rfl⟩
theorem EQ33 (a0 : ByteArray) (a1 : Int) (a2 : Int) (a3 : Int) (a4 : Int) (a5 : Int) (b0 : ByteArray) (b1 : Int) (b2 : Int) (b3 : Int) (b4 : Int) (b5 : Int) : EqV Try.prog 10000 33 (.agg #[.string a0, .int .i64 a1, .int .i64 a2, .int .i64 a3, .int .i64 a4, .int .i64 a5]) (.agg #[.string b0, .int .i64 b1, .int .i64 b2, .int .i64 b3, .int .i64 b4, .int .i64 b5]) ((a0 == b0) && ((a1 == b1) && ((a2 == b2) && ((a3 == b3) && ((a4 == b4) && (a5 == b5)))))) := (.struct Try.underlying33 (by kernel_rfl) (.cons (by decide) TI9 (fun _ => rfl) rfl rfl rfl rfl (.string Try.underlying9) (.cons (by decide) TI3 (fun _ => rfl) rfl rfl rfl rfl (.int Try.underlying3) (.cons (by decide) TI3 (fun _ => rfl) rfl rfl rfl rfl (.int Try.underlying3) (.cons (by decide) TI3 (fun _ => rfl) rfl rfl rfl rfl (.int Try.underlying3) (.cons (by decide) TI3 (fun _ => rfl) rfl rfl rfl rfl (.int Try.underlying3) (.one (by decide) TI3 (fun _ => rfl) rfl rfl rfl rfl (.int Try.underlying3))))))))
theorem EG33 : Try.prog.eqGuardType Try.prog.depth 33 = false := by kernel_rfl
theorem FO10 : FOk Try.prog 10 := ⟨_, Try.func10, by kernel_rfl, by kernel_rfl⟩
theorem FO30 : FOk Try.prog 30 := ⟨_, Try.func30, by kernel_rfl, by kernel_rfl⟩
theorem FO15 : FOk Try.prog 15 := ⟨_, Try.func15, by kernel_rfl, by kernel_rfl⟩
theorem FO31 : FOk Try.prog 31 := ⟨_, Try.func31, by kernel_rfl, by kernel_rfl⟩
theorem FO16 : FOk Try.prog 16 := ⟨_, Try.func16, by kernel_rfl, by kernel_rfl⟩
theorem FO37 : FOk Try.prog 37 := ⟨_, Try.func37, by kernel_rfl, by kernel_rfl⟩
theorem FO21 : FOk Try.prog 21 := ⟨_, Try.func21, by kernel_rfl, by kernel_rfl⟩
theorem FO7 : FOk Try.prog 7 := ⟨_, Try.func7, by kernel_rfl, by kernel_rfl⟩
theorem FO12 : FOk Try.prog 12 := ⟨_, Try.func12, by kernel_rfl, by kernel_rfl⟩
def tarrylaw08_few.l1 (k : Nat) (l0 : List S32) : Nat → (List S32) → Int → Option (List S32)
  | 0, _, _ => none
  | ml1 + 1, l78, i80 => (if i80 < (((l0.take ((mn (l0.length : Int) 10).toNat)).drop 0).length : Int) then (if 0 ≤ i80 then ((((l0.take ((mn (l0.length : Int) 10).toNat)).drop 0)[i80.toNat]?).bind fun x100 => (if 0 ≤ mn (x100.f0.size : Int) 18 then (if (mn (x100.f0.size : Int) 18) ≤ (x100.f0.size : Int) then (if (l78.length + ([(⟨x100.f0.extract 0 ((mn (x100.f0.size : Int) 18).toNat), x100.f1, x100.f2, x100.f3, x100.f4, x100.f5⟩ : S32)] : List S32).length) * 56 ≤ 140737488355328 then (tarrylaw08_few.l1 k l0 ml1 (l78 ++ ([(⟨x100.f0.extract 0 ((mn (x100.f0.size : Int) 18).toNat), x100.f1, x100.f2, x100.f3, x100.f4, x100.f5⟩ : S32)] : List S32)) (wrap64 (i80 + 1))) else none) else none) else none)) else none) else (some l78))
def tarrylaw08_few.f (k : Nat) (l0 : List S32) : Option (List S32) := (if 0 ≤ mn (l0.length : Int) 10 then (if (mn (l0.length : Int) 10) ≤ (l0.length : Int) then (tarrylaw08_few.l1 k l0 k ([] : List S32) 0) else none) else none)
def goods_Right_1.f (a0_0 : ByteArray) (a0_1 : ByteArray) (a0_2 : Int) (a0_3 : Int) (a0_4 : Int) (a1_0 : ByteArray) (a1_1 : ByteArray) (a1_2 : Int) (a1_3 : Int) (a1_4 : Int) : Option (Bool) := (if (a0_0 == a1_0) = true then (some (a0_1 == a1_1)) else (some false))
def slices_IndexFunc_api_Sub_api_Sub.l1 (k : Nat) (a1_0_0 : ByteArray) (a1_0_1 : ByteArray) (a1_0_2 : Int) (a1_0_3 : Int) (a1_0_4 : Int) (l0 : List S71) : Nat → Int → Option (Int)
  | 0, _ => none
  | ml1 + 1, i222 => (if i222 < (l0.length : Int) then (if 0 ≤ i222 then ((l0[i222.toNat]?).bind fun x251 => ((goods_Right_1.f x251.f0 x251.f1 x251.f2 x251.f3 x251.f4 a1_0_0 a1_0_1 a1_0_2 a1_0_3 a1_0_4).bind fun t254 => (if t254 = true then (some i222) else (slices_IndexFunc_api_Sub_api_Sub.l1 k a1_0_0 a1_0_1 a1_0_2 a1_0_3 a1_0_4 l0 ml1 (wrap64 (i222 + 1)))))) else none) else (some (-1)))
def slices_IndexFunc_api_Sub_api_Sub.f (k : Nat) (l0 : List S71) (a1_0_0 : ByteArray) (a1_0_1 : ByteArray) (a1_0_2 : Int) (a1_0_3 : Int) (a1_0_4 : Int) : Option (Int) := (slices_IndexFunc_api_Sub_api_Sub.l1 k a1_0_0 a1_0_1 a1_0_2 a1_0_3 a1_0_4 l0 k 0)
def slices_ContainsFunc_api_Sub_api_Sub.f (k : Nat) (l0 : List S71) (a1_0_0 : ByteArray) (a1_0_1 : ByteArray) (a1_0_2 : Int) (a1_0_3 : Int) (a1_0_4 : Int) : Option (Bool) := ((slices_IndexFunc_api_Sub_api_Sub.f k l0 a1_0_0 a1_0_1 a1_0_2 a1_0_3 a1_0_4).bind fun t257 => (some (decide (t257 ≥ 0))))
def goods_name_1.f (a0 : Int) : Option (Bool) := (if a0 < 97 then (if a0 < 48 then (some true) else (some (decide (a0 > 57)))) else (if a0 > 122 then (if a0 < 48 then (some true) else (some (decide (a0 > 57)))) else (some false)))
def slices_IndexFunc_byte_byte.l1 (k : Nat) (l0 : List Int) : Nat → Int → Option (Int)
  | 0, _ => none
  | ml1 + 1, i358 => (if i358 < (l0.length : Int) then (if 0 ≤ i358 then ((l0[i358.toNat]?).bind fun x387 => ((goods_name_1.f x387).bind fun t390 => (if t390 = true then (some i358) else (slices_IndexFunc_byte_byte.l1 k l0 ml1 (wrap64 (i358 + 1)))))) else none) else (some (-1)))
def slices_IndexFunc_byte_byte.f (k : Nat) (l0 : List Int) : Option (Int) := (slices_IndexFunc_byte_byte.l1 k l0 k 0)
def slices_ContainsFunc_byte_byte.f (k : Nat) (l0 : List Int) : Option (Bool) := ((slices_IndexFunc_byte_byte.f k l0).bind fun t393 => (some (decide (t393 ≥ 0))))
def goods_name.f (k : Nat) (a0 : ByteArray) : Option (Bool) := (if (a0 == (⟨#[]⟩ : ByteArray)) = true then (some false) else (if (a0.size : Int) ≤ 16 then (if a0.size ≤ 140737488355328 then ((slices_ContainsFunc_byte_byte.f k (byI a0)).bind fun t406 => (if t406 = true then (some false) else (some true))) else none) else (some false)))
def goods_in.f (a0 : Int) (a1 : Int) : Option (Bool) := (if a0 ≥ 1 then (some (decide (a0 ≤ a1))) else (some false))
def goods_may.f (k : Nat) (a0_0 : ByteArray) (a0_1 : ByteArray) (a0_2 : Int) (a0_3 : Int) (a0_4 : Int) : Option (Bool) := ((goods_name.f k a0_0).bind fun t431 => (if t431 = true then ((goods_name.f k a0_1).bind fun t434 => (if t434 = true then (if (a0_0 == a0_1) = true then (some false) else ((goods_in.f a0_2 9).bind fun t439 => (if t439 = true then ((goods_in.f a0_3 100).bind fun t442 => (if t442 = true then ((goods_in.f a0_4 100).bind fun t445 => (some t445)) else (some false))) else (some false)))) else (some false))) else (some false)))
def slices_Index_string_string.l1 (k : Nat) (a1 : ByteArray) (l0 : List ByteArray) : Nat → Int → Option (Int)
  | 0, _ => none
  | ml1 + 1, i509 => (if i509 < (l0.length : Int) then (if 0 ≤ i509 then ((l0[i509.toNat]?).bind fun x535 => (if (a1 == x535) = true then (some i509) else (slices_Index_string_string.l1 k a1 l0 ml1 (wrap64 (i509 + 1))))) else none) else (some (-1)))
def slices_Index_string_string.f (k : Nat) (l0 : List ByteArray) (a1 : ByteArray) : Option (Int) := (slices_Index_string_string.l1 k a1 l0 k 0)
def slices_Contains_string_string.f (k : Nat) (l0 : List ByteArray) (a1 : ByteArray) : Option (Bool) := ((slices_Index_string_string.f k l0 a1).bind fun t540 => (some (decide (t540 ≥ 0))))
def goods_Right_2.f (k : Nat) (a0 : ByteArray) : Option (Bool) := ((goods_name.f k a0).bind fun t853 => (if t853 = true then (some false) else (some true)))
def slices_IndexFunc_string_string.l1 (k : Nat) (l0 : List ByteArray) : Nat → Int → Option (Int)
  | 0, _ => none
  | ml1 + 1, i915 => (if i915 < (l0.length : Int) then (if 0 ≤ i915 then ((l0[i915.toNat]?).bind fun x944 => ((goods_Right_2.f k x944).bind fun t947 => (if t947 = true then (some i915) else (slices_IndexFunc_string_string.l1 k l0 ml1 (wrap64 (i915 + 1)))))) else none) else (some (-1)))
def slices_IndexFunc_string_string.f (k : Nat) (l0 : List ByteArray) : Option (Int) := (slices_IndexFunc_string_string.l1 k l0 k 0)
def slices_ContainsFunc_string_string.f (k : Nat) (l0 : List ByteArray) : Option (Bool) := ((slices_IndexFunc_string_string.f k l0).bind fun t950 => (some (decide (t950 ≥ 0))))
def internal_bytealg_CompareString.f (a0 : ByteArray) (a1 : ByteArray) : Option (Int) := (some (Lib.compareBytes a0.data.toList a1.data.toList))
def strings_Compare.f (a0 : ByteArray) (a1 : ByteArray) : Option (Int) := ((internal_bytealg_CompareString.f a0 a1).bind fun t969 => (some t969))
def goods_rising_string.l1 (k : Nat) (a1 : Int) (l0 : List ByteArray) : Nat → Int → Option (Bool)
  | 0, _ => none
  | ml1 + 1, i1041 => (if i1041 < (l0.length : Int) then (if 0 ≤ wrap64 (i1041 - 1) then ((l0[(wrap64 (i1041 - 1)).toNat]?).bind fun x1076 => (if 0 ≤ i1041 then ((l0[i1041.toNat]?).bind fun x1078 => ((strings_Compare.f x1076 x1078).bind fun t1079 => (if t1079 ≥ 0 then (some false) else (goods_rising_string.l1 k a1 l0 ml1 (wrap64 (i1041 + 1)))))) else none)) else none) else (some (decide ((l0.length : Int) ≤ a1))))
def goods_rising_string.f (k : Nat) (l0 : List ByteArray) (a1 : Int) : Option (Bool) := (goods_rising_string.l1 k a1 l0 k 1)
def cmp_isNaN_int.f (a0 : Int) : Option (Bool) := (some (a0 != a0))
def cmp_Compare_int.f (a0 : Int) (a1 : Int) : Option (Int) := ((cmp_isNaN_int.f a0).bind fun t1102 => ((cmp_isNaN_int.f a1).bind fun t1104 => (if t1102 = true then (if t1104 = true then (some 0) else (some (-1))) else (if t1104 = true then (some 1) else (if a0 < a1 then (some (-1)) else (if a0 > a1 then (some 1) else (some 0)))))))
def cmp_Or_int.l1 (k : Nat) (l0 : List Int) : Nat → Int → Option (Int)
  | 0, _ => none
  | ml1 + 1, i1184 => (if i1184 < (l0.length : Int) then (if 0 ≤ i1184 then ((l0[i1184.toNat]?).bind fun x1210 => (if x1210 = 0 then (cmp_Or_int.l1 k l0 ml1 (wrap64 (i1184 + 1))) else (some x1210))) else none) else (some 0))
def cmp_Or_int.f (k : Nat) (l0 : List Int) : Option (Int) := (cmp_Or_int.l1 k l0 k 0)
def goods_compare.f (k : Nat) (a0_0 : ByteArray) (a0_1 : ByteArray) (a0_2 : Int) (a0_3 : Int) (a0_4 : Int) (a1_0 : ByteArray) (a1_1 : ByteArray) (a1_2 : Int) (a1_3 : Int) (a1_4 : Int) : Option (Int) := ((strings_Compare.f a0_0 a1_0).bind fun t1099 => ((cmp_Compare_int.f a0_2 a1_2).bind fun t1122 => ((cmp_Or_int.f k ([t1099, t1122] : List Int)).bind fun t1215 => (some t1215))))
def goods_rising_Sub.l1 (k : Nat) (a1 : Int) (l0 : List S71) : Nat → Int → Option (Bool)
  | 0, _ => none
  | ml1 + 1, i1287 => (if i1287 < (l0.length : Int) then (if 0 ≤ wrap64 (i1287 - 1) then ((l0[(wrap64 (i1287 - 1)).toNat]?).bind fun x1322 => (if 0 ≤ i1287 then ((l0[i1287.toNat]?).bind fun x1324 => ((goods_compare.f k x1322.f0 x1322.f1 x1322.f2 x1322.f3 x1322.f4 x1324.f0 x1324.f1 x1324.f2 x1324.f3 x1324.f4).bind fun t1325 => (if t1325 ≥ 0 then (some false) else (goods_rising_Sub.l1 k a1 l0 ml1 (wrap64 (i1287 + 1)))))) else none)) else none) else (some (decide ((l0.length : Int) ≤ a1))))
def goods_rising_Sub.f (k : Nat) (l0 : List S71) (a1 : Int) : Option (Bool) := (goods_rising_Sub.l1 k a1 l0 k 1)
def goods_Right.l1 (k : Nat) (l0_0 : List ByteArray) (l0_1 : List S71) : Nat → Int → Option (Bool)
  | 0, _ => none
  | ml1 + 1, i776 => (if i776 < (l0_1.length : Int) then (if 0 ≤ i776 then ((l0_1[i776.toNat]?).bind fun x1369 => (if i776 ≤ (l0_1.length : Int) then ((slices_ContainsFunc_api_Sub_api_Sub.f k ((l0_1.take i776.toNat).drop 0) x1369.f0 x1369.f1 x1369.f2 x1369.f3 x1369.f4).bind fun t1376 => (if t1376 = true then (some false) else ((goods_may.f k x1369.f0 x1369.f1 x1369.f2 x1369.f3 x1369.f4).bind fun t1389 => (if t1389 = true then ((slices_Contains_string_string.f k l0_0 x1369.f0).bind fun t1392 => (if t1392 = true then ((slices_Contains_string_string.f k l0_0 x1369.f1).bind fun t1395 => (if t1395 = true then (goods_Right.l1 k l0_0 l0_1 ml1 (wrap64 (i776 + 1))) else (some false))) else (some false))) else (some false))))) else none)) else none) else ((slices_ContainsFunc_string_string.f k l0_0).bind fun t1401 => (if t1401 = true then (some false) else ((goods_rising_string.f k l0_0 8).bind fun t1409 => (if t1409 = true then ((goods_rising_Sub.f k l0_1 16).bind fun t1412 => (some t1412)) else (some false))))))
def goods_Right.f (k : Nat) (l0_0 : List ByteArray) (l0_1 : List S71) : Option (Bool) := (goods_Right.l1 k l0_0 l0_1 k 0)
def stock_name.f (k : Nat) (a0 : ByteArray) : Option (Bool) := ((goods_Right.f k ([a0] : List ByteArray) []).bind fun t1415 => (some t1415))
def stock_units.f (a0 : Int) : Option (Bool) := (if a0 ≥ 1 then (some (decide (a0 ≤ 1073741824))) else (some false))
def stock_may_1.f (a0 : Int) : Option (Bool) := (if a0 = 0 then (some false) else ((stock_units.f a0).bind fun t1441 => (if t1441 = true then (some false) else (some true))))
def slices_IndexFunc_int_int.l1 (k : Nat) (l0 : List Int) : Nat → Int → Option (Int)
  | 0, _ => none
  | ml1 + 1, i1503 => (if i1503 < (l0.length : Int) then (if 0 ≤ i1503 then ((l0[i1503.toNat]?).bind fun x1532 => ((stock_may_1.f x1532).bind fun t1535 => (if t1535 = true then (some i1503) else (slices_IndexFunc_int_int.l1 k l0 ml1 (wrap64 (i1503 + 1)))))) else none) else (some (-1)))
def slices_IndexFunc_int_int.f (k : Nat) (l0 : List Int) : Option (Int) := (slices_IndexFunc_int_int.l1 k l0 k 0)
def slices_ContainsFunc_int_int.f (k : Nat) (l0 : List Int) : Option (Bool) := ((slices_IndexFunc_int_int.f k l0).bind fun t1538 => (some (decide (t1538 ≥ 0))))
def stock_may.f (k : Nat) (a0_0 : ByteArray) (a0_1 : Int) (a0_2 : Int) (a0_3 : Int) (a0_4 : Int) (a0_5 : Int) : Option (Bool) := ((stock_name.f k a0_0).bind fun t1545 => (if t1545 = true then ((slices_ContainsFunc_int_int.f k ([a0_1, a0_2, a0_3, a0_4, a0_5] : List Int)).bind fun t1548 => (if t1548 = true then (some false) else (some (a0_1 == (wrap64 ((wrap64 ((wrap64 (a0_2 + a0_3)) + a0_4)) + a0_5)))))) else (some false)))
def stock_Right.l1 (k : Nat) (l0 : List S32) : Nat → Int → Option (Bool)
  | 0, _ => none
  | ml1 + 1, i1642 => (if i1642 < (l0.length : Int) then (if 0 ≤ i1642 then ((l0[i1642.toNat]?).bind fun x1693 => ((stock_may.f k x1693.f0 x1693.f1 x1693.f2 x1693.f3 x1693.f4 x1693.f5).bind fun t1697 => (if t1697 = true then (if i1642 > 0 then (if 0 ≤ wrap64 (i1642 - 1) then ((l0[(wrap64 (i1642 - 1)).toNat]?).bind fun x1703 => (if (!Op.bytesLess x1703.f0.toList x1693.f0.toList) = true then (some false) else (stock_Right.l1 k l0 ml1 (wrap64 (i1642 + 1))))) else none) else (stock_Right.l1 k l0 ml1 (wrap64 (i1642 + 1)))) else (some false)))) else none) else (some (decide ((l0.length : Int) ≤ 8))))
def stock_Right.f (k : Nat) (l0 : List S32) : Option (Bool) := (stock_Right.l1 k l0 k 0)
def stock_at_1.f (a0_0 : ByteArray) (a0_1 : Int) (a0_2 : Int) (a0_3 : Int) (a0_4 : Int) (a0_5 : Int) (a1 : ByteArray) : Option (Int) := ((strings_Compare.f a0_0 a1).bind fun t1757 => (some t1757))
def slices_BinarySearchFunc_api_Row_api_Row_string.l1 (k : Nat) (a1 : ByteArray) (l0 : List S32) : Nat → Int → Int → Option (Int × Bool)
  | 0, _, _ => none
  | ml1 + 1, i1801, i1802 => (if i1801 < i1802 then (if 0 ≤ wrap64 ((IntKind.u64.wrap (wrap64 (i1801 + i1802))).fdiv (2 ^ min (1 : Int).toNat IntKind.u64.bits)) then ((l0[(wrap64 ((IntKind.u64.wrap (wrap64 (i1801 + i1802))).fdiv (2 ^ min (1 : Int).toNat IntKind.u64.bits))).toNat]?).bind fun x1838 => ((stock_at_1.f x1838.f0 x1838.f1 x1838.f2 x1838.f3 x1838.f4 x1838.f5 a1).bind fun t1841 => (if t1841 < 0 then (slices_BinarySearchFunc_api_Row_api_Row_string.l1 k a1 l0 ml1 (wrap64 ((wrap64 ((IntKind.u64.wrap (wrap64 (i1801 + i1802))).fdiv (2 ^ min (1 : Int).toNat IntKind.u64.bits))) + 1)) i1802) else (slices_BinarySearchFunc_api_Row_api_Row_string.l1 k a1 l0 ml1 i1801 (wrap64 ((IntKind.u64.wrap (wrap64 (i1801 + i1802))).fdiv (2 ^ min (1 : Int).toNat IntKind.u64.bits))))))) else none) else (if i1801 < (l0.length : Int) then (if 0 ≤ i1801 then ((l0[i1801.toNat]?).bind fun x1857 => ((stock_at_1.f x1857.f0 x1857.f1 x1857.f2 x1857.f3 x1857.f4 x1857.f5 a1).bind fun t1860 => (some (i1801, (t1860 == 0))))) else none) else (some (i1801, false))))
def slices_BinarySearchFunc_api_Row_api_Row_string.f (k : Nat) (l0 : List S32) (a1 : ByteArray) : Option (Int × Bool) := (slices_BinarySearchFunc_api_Row_api_Row_string.l1 k a1 l0 k 0 (l0.length : Int))
def stock_at.f (k : Nat) (l0 : List S32) (a1 : ByteArray) : Option (Int × Bool) := ((slices_BinarySearchFunc_api_Row_api_Row_string.f k l0 a1).bind fun ⟨t1863, t1864⟩ => (some (t1863, t1864)))
def slices_Clone_api_Row_api_Row.f (l0 : List S32) : Option (List S32) := if l0.length * 56 ≤ 140737488355328 then some l0 else none
def slices_Insert_api_Row_api_Row.f (l0 : List S32) (a1 : Int) (l2 : List S32) : Option (List S32) := if 0 ≤ a1 ∧ a1 ≤ (l0.length : Int) ∧ (l0.length + l2.length) * 56 ≤ 140737488355328 then some (l0.take a1.toNat ++ l2 ++ l0.drop a1.toNat) else none
def stock_Receive.f (k : Nat) (l0 : List S32) (a1 : ByteArray) (a2 : Int) : Option (List S32 × Int) := ((stock_Right.f k l0).bind fun t1737 => (if t1737 = true then ((stock_units.f a2).bind fun t1740 => (if t1740 = true then ((stock_name.f k a1).bind fun t1743 => (if t1743 = true then ((stock_at.f k l0 a1).bind fun ⟨t1866, t1867⟩ => ((slices_Clone_api_Row_api_Row.f l0).bind fun r1887 => (if t1867 = true then (if 0 ≤ t1866 then ((r1887[t1866.toNat]?).bind fun x1901 => (if x1901.f1 > (wrap64 (1073741824 - a2)) then (some (([] : List S32), 2)) else ((r1887[t1866.toNat]?).bind fun x1907 => ((r1887[t1866.toNat]?).bind fun x1908 => (((r1887.set t1866.toNat (⟨x1908.f0, wrap64 (x1907.f1 + a2), x1908.f2, x1908.f3, x1908.f4, x1908.f5⟩ : S32))[t1866.toNat]?).bind fun x1911 => (((r1887.set t1866.toNat (⟨x1908.f0, wrap64 (x1907.f1 + a2), x1908.f2, x1908.f3, x1908.f4, x1908.f5⟩ : S32))[t1866.toNat]?).bind fun x1912 => (some (((r1887.set t1866.toNat (⟨x1908.f0, wrap64 (x1907.f1 + a2), x1908.f2, x1908.f3, x1908.f4, x1908.f5⟩ : S32)).set t1866.toNat (⟨x1912.f0, x1912.f1, wrap64 (x1911.f2 + a2), x1912.f3, x1912.f4, x1912.f5⟩ : S32)), 0)))))))) else none) else (if (r1887.length : Int) = 8 then (some (([] : List S32), 7)) else ((slices_Insert_api_Row_api_Row.f r1887 t1866 ([(⟨a1, 0, 0, 0, 0, 0⟩ : S32)] : List S32)).bind fun r1923 => (if 0 ≤ t1866 then ((r1923[t1866.toNat]?).bind fun x1935 => (if x1935.f1 > (wrap64 (1073741824 - a2)) then (some (([] : List S32), 2)) else ((r1923[t1866.toNat]?).bind fun x1941 => ((r1923[t1866.toNat]?).bind fun x1942 => (((r1923.set t1866.toNat (⟨x1942.f0, wrap64 (x1941.f1 + a2), x1942.f2, x1942.f3, x1942.f4, x1942.f5⟩ : S32))[t1866.toNat]?).bind fun x1945 => (((r1923.set t1866.toNat (⟨x1942.f0, wrap64 (x1941.f1 + a2), x1942.f2, x1942.f3, x1942.f4, x1942.f5⟩ : S32))[t1866.toNat]?).bind fun x1946 => (some (((r1923.set t1866.toNat (⟨x1942.f0, wrap64 (x1941.f1 + a2), x1942.f2, x1942.f3, x1942.f4, x1942.f5⟩ : S32)).set t1866.toNat (⟨x1946.f0, x1946.f1, wrap64 (x1945.f2 + a2), x1946.f3, x1946.f4, x1946.f5⟩ : S32)), 0)))))))) else none)))))) else (some (([] : List S32), 1)))) else (some (([] : List S32), 1)))) else (some (([] : List S32), 1))))
def stock_Hold_1.f  : Option (Unit) := (some ())
def stock_move.f (k : Nat) (l0 : List S32) (a1 : ByteArray) (a2 : Int) : Option (List S32 × Int) := ((stock_Right.f k l0).bind fun t1980 => (if t1980 = true then ((stock_units.f a2).bind fun t1983 => (if t1983 = true then ((stock_at.f k l0 a1).bind fun ⟨t1986, t1987⟩ => (if t1987 = true then ((slices_Clone_api_Row_api_Row.f l0).bind fun r1994 => (if 0 ≤ t1986 then ((r1994[t1986.toNat]?).bind fun x1999 => ((stock_Hold_1.f).bind fun _ => (if x1999.f2 < a2 then (some (([] : List S32), 11)) else (some (((r1994.set t1986.toNat (⟨x1999.f0, x1999.f1, wrap64 (x1999.f2 - a2), x1999.f3, x1999.f4, x1999.f5⟩ : S32)).set t1986.toNat (⟨x1999.f0, x1999.f1, wrap64 (x1999.f2 - a2), wrap64 (x1999.f3 + a2), x1999.f4, x1999.f5⟩ : S32)), 0))))) else none)) else (some (([] : List S32), 8)))) else (some (([] : List S32), 1)))) else (some (([] : List S32), 1))))
def stock_Hold.f (k : Nat) (l0 : List S32) (a1 : ByteArray) (a2 : Int) : Option (List S32 × Int) := ((stock_move.f k l0 a1 a2).bind fun ⟨r2016, t2017⟩ => (some (r2016, t2017)))
def tarrylaw08_alive.f (k : Nat)  : Option (Bool) := ((stock_Receive.f k [] (⟨#[99, 117, 112]⟩ : ByteArray) 5).bind fun ⟨r1953, t1954⟩ => ((stock_Hold.f k r1953 (⟨#[99, 117, 112]⟩ : ByteArray) 2).bind fun ⟨r2021, t2022⟩ => (if t1954 = 0 then (if t2022 = 0 then (if (r2021.length : Int) = 1 then ((r2021[0]?).bind fun x2042 => (some (((x2042.f0 == (⟨#[99, 117, 112]⟩ : ByteArray)) && ((x2042.f1 == 5) && ((x2042.f2 == 3) && ((x2042.f3 == 2) && ((x2042.f4 == 0) && (x2042.f5 == 0))))))))) else (some false)) else (some false)) else (some false))))
def stock_Release_1.f  : Option (Unit) := (some ())
def stock_move_s41.f (k : Nat) (l0 : List S32) (a1 : ByteArray) (a2 : Int) : Option (List S32 × Int) := ((stock_Right.f k l0).bind fun t2084 => (if t2084 = true then ((stock_units.f a2).bind fun t2087 => (if t2087 = true then ((stock_at.f k l0 a1).bind fun ⟨t2090, t2091⟩ => (if t2091 = true then ((slices_Clone_api_Row_api_Row.f l0).bind fun r2098 => (if 0 ≤ t2090 then ((r2098[t2090.toNat]?).bind fun x2103 => ((stock_Release_1.f).bind fun _ => (if x2103.f3 < a2 then (some (([] : List S32), 11)) else (some (((r2098.set t2090.toNat (⟨x2103.f0, x2103.f1, x2103.f2, wrap64 (x2103.f3 - a2), x2103.f4, x2103.f5⟩ : S32)).set t2090.toNat (⟨x2103.f0, x2103.f1, wrap64 (x2103.f2 + a2), wrap64 (x2103.f3 - a2), x2103.f4, x2103.f5⟩ : S32)), 0))))) else none)) else (some (([] : List S32), 8)))) else (some (([] : List S32), 1)))) else (some (([] : List S32), 1))))
def stock_Release.f (k : Nat) (l0 : List S32) (a1 : ByteArray) (a2 : Int) : Option (List S32 × Int) := ((stock_move_s41.f k l0 a1 a2).bind fun ⟨r2120, t2121⟩ => (some (r2120, t2121)))
def stock_Ship_1.f  : Option (Unit) := (some ())
def stock_move_s44.f (k : Nat) (l0 : List S32) (a1 : ByteArray) (a2 : Int) : Option (List S32 × Int) := ((stock_Right.f k l0).bind fun t2154 => (if t2154 = true then ((stock_units.f a2).bind fun t2157 => (if t2157 = true then ((stock_at.f k l0 a1).bind fun ⟨t2160, t2161⟩ => (if t2161 = true then ((slices_Clone_api_Row_api_Row.f l0).bind fun r2168 => (if 0 ≤ t2160 then ((r2168[t2160.toNat]?).bind fun x2173 => ((stock_Ship_1.f).bind fun _ => (if x2173.f3 < a2 then (some (([] : List S32), 11)) else (some (((r2168.set t2160.toNat (⟨x2173.f0, x2173.f1, x2173.f2, wrap64 (x2173.f3 - a2), x2173.f4, x2173.f5⟩ : S32)).set t2160.toNat (⟨x2173.f0, x2173.f1, x2173.f2, wrap64 (x2173.f3 - a2), wrap64 (x2173.f4 + a2), x2173.f5⟩ : S32)), 0))))) else none)) else (some (([] : List S32), 8)))) else (some (([] : List S32), 1)))) else (some (([] : List S32), 1))))
def stock_Ship.f (k : Nat) (l0 : List S32) (a1 : ByteArray) (a2 : Int) : Option (List S32 × Int) := ((stock_move_s44.f k l0 a1 a2).bind fun ⟨r2190, t2191⟩ => (some (r2190, t2191)))
def stock_Lose_1.f  : Option (Unit) := (some ())
def stock_move_s47.f (k : Nat) (l0 : List S32) (a1 : ByteArray) (a2 : Int) : Option (List S32 × Int) := ((stock_Right.f k l0).bind fun t2243 => (if t2243 = true then ((stock_units.f a2).bind fun t2246 => (if t2246 = true then ((stock_at.f k l0 a1).bind fun ⟨t2249, t2250⟩ => (if t2250 = true then ((slices_Clone_api_Row_api_Row.f l0).bind fun r2257 => (if 0 ≤ t2249 then ((r2257[t2249.toNat]?).bind fun x2262 => ((stock_Lose_1.f).bind fun _ => (if x2262.f2 < a2 then (some (([] : List S32), 11)) else (some (((r2257.set t2249.toNat (⟨x2262.f0, x2262.f1, wrap64 (x2262.f2 - a2), x2262.f3, x2262.f4, x2262.f5⟩ : S32)).set t2249.toNat (⟨x2262.f0, x2262.f1, wrap64 (x2262.f2 - a2), x2262.f3, x2262.f4, wrap64 (x2262.f5 + a2)⟩ : S32)), 0))))) else none)) else (some (([] : List S32), 8)))) else (some (([] : List S32), 1)))) else (some (([] : List S32), 1))))
def stock_Lose.f (k : Nat) (l0 : List S32) (a1 : ByteArray) (a2 : Int) : Option (List S32 × Int) := ((stock_move_s47.f k l0 a1 a2).bind fun ⟨r2279, t2280⟩ => (some (r2279, t2280)))
def tarrylaw08_does.f (k : Nat) (l0 : List S32) (a1 : ByteArray) (a2 : Int) (a3 : Int) : Option (List S32 × Int) := (if a3 = 1 then ((stock_Hold.f k l0 a1 a2).bind fun ⟨r2202, t2203⟩ => (some (r2202, t2203))) else (if a3 = 2 then ((stock_Release.f k l0 a1 a2).bind fun ⟨r2209, t2210⟩ => (some (r2209, t2210))) else (if a3 = 3 then ((stock_Ship.f k l0 a1 a2).bind fun ⟨r2216, t2217⟩ => (some (r2216, t2217))) else ((stock_Lose.f k l0 a1 a2).bind fun ⟨r2284, t2285⟩ => (some (r2284, t2285))))))
def tarryref08_Same.l1 (k : Nat) (l0 : List S32) (l1 : List S32) : Nat → Int → Option (Bool)
  | 0, _ => none
  | ml1 + 1, i2405 => (if i2405 < (l0.length : Int) then (if 0 ≤ i2405 then ((l0[i2405.toNat]?).bind fun x2428 => ((l1[i2405.toNat]?).bind fun x2429 => (if (((x2428.f0 == x2429.f0) && ((x2428.f1 == x2429.f1) && ((x2428.f2 == x2429.f2) && ((x2428.f3 == x2429.f3) && ((x2428.f4 == x2429.f4) && (x2428.f5 == x2429.f5))))))) = true then (tarryref08_Same.l1 k l0 l1 ml1 (wrap64 (i2405 + 1))) else (some false)))) else none) else (some true))
def tarryref08_Same.f (k : Nat) (l0 : List S32) (l1 : List S32) : Option (Bool) := (if (l0.length : Int) = (l1.length : Int) then (tarryref08_Same.l1 k l0 l1 k 0) else (some false))
def tarrylaw08_StockApart.f (k : Nat) (l0 : List S32) (a1 : ByteArray) (a2 : ByteArray) (a3 : Int) (a4 : Int) (a5 : Int) (a6 : Int) : Option (Bool) := ((tarrylaw08_few.f k l0).bind fun r111 => (if 0 ≤ mn (a1.size : Int) 18 then (if (mn (a1.size : Int) 18) ≤ (a1.size : Int) then (if 0 ≤ mn (a2.size : Int) 18 then (if (mn (a2.size : Int) 18) ≤ (a2.size : Int) then (if ((a1.extract 0 ((mn (a1.size : Int) 18).toNat)) == (a2.extract 0 ((mn (a2.size : Int) 18).toNat))) = true then ((tarrylaw08_alive.f k).bind fun t2050 => (some t2050)) else ((tarrylaw08_does.f k r111 (a1.extract 0 ((mn (a1.size : Int) 18).toNat)) a3 (wrap64 (1 + ((wrap64 ((a5.tmod 4) + 4)).tmod 4)))).bind fun ⟨r2289, t2290⟩ => ((tarrylaw08_does.f k r111 (a2.extract 0 ((mn (a2.size : Int) 18).toNat)) a4 (wrap64 (1 + ((wrap64 ((a6.tmod 4) + 4)).tmod 4)))).bind fun ⟨r2294, t2295⟩ => (if t2290 = 0 then (if t2295 = 0 then ((tarrylaw08_does.f k r2289 (a2.extract 0 ((mn (a2.size : Int) 18).toNat)) a4 (wrap64 (1 + ((wrap64 ((a6.tmod 4) + 4)).tmod 4)))).bind fun ⟨r2329, t2330⟩ => ((tarrylaw08_does.f k r2294 (a1.extract 0 ((mn (a1.size : Int) 18).toNat)) a3 (wrap64 (1 + ((wrap64 ((a5.tmod 4) + 4)).tmod 4)))).bind fun ⟨r2334, t2335⟩ => ((tarrylaw08_alive.f k).bind fun t2437 => (if t2437 = true then (if t2330 = 0 then (if t2335 = 0 then ((tarryref08_Same.f k r2329 r2334).bind fun t2444 => (if t2444 = true then ((stock_Right.f k r2329).bind fun t2447 => (some t2447)) else none)) else none) else none) else none)))) else ((tarrylaw08_alive.f k).bind fun t2453 => (if t2453 = true then (some ((wrap64 ((r2289.length : Int) * (r2294.length : Int))) == 0)) else none))) else ((tarrylaw08_alive.f k).bind fun t2461 => (if t2461 = true then (some ((wrap64 ((r2289.length : Int) * (r2294.length : Int))) == 0)) else none)))))) else none) else none) else none) else none))
/-- THE ONE PURE STATEMENT. -/
def tarrylaw08_StockApart.Pure : Prop := ∀ (l0 : List S32) (a1 : ByteArray) (a2 : ByteArray) (a3 : Int) (a4 : Int) (a5 : Int) (a6 : Int), allOk ok32 l0 → a1.size ≤ 140737488351232 → a2.size ≤ 140737488351232 → (Lit.int .i64 a3).wf = true → (Lit.int .i64 a4).wf = true → (Lit.int .i64 a5).wf = true → (Lit.int .i64 a6).wf = true → ∃ k, tarrylaw08_StockApart.f k l0 a1 a2 a3 a4 a5 a6 = some true

end Go.Proofs.Ytibpoajlnloloaa.PStockApart
