/- Written by a program of this repo: what the program's functions do, each as a Lean function, shown of the loaded code; or a statement's row over that; no condition of its own. -/
import Derived.Test.YtibpoajlnloloaaProg
import Derived.Test.YtibpoajlnloloaaV11
namespace Go.Proofs.Ytibpoajlnloloaa.PStockBack
open Go Go.RowKit Go.Proofs.YtibpoajlnloloaaV
set_option linter.unusedVariables false
set_option linter.unusedSimpArgs false

structure S32 where
  f0 : ByteArray
  f1 : Int
  f2 : Int
  f3 : Int
  f4 : Int
  f5 : Int
def enc32 (x : S32) : List Value := [.string x.f0, .int .i64 x.f1, .int .i64 x.f2, .int .i64 x.f3, .int .i64 x.f4, .int .i64 x.f5]
theorem enc32_ok (a : S32) : (enc32 a).length = 6 ∧ ∀ u ∈ enc32 a, u.oneCell' = true := ⟨rfl, by intro u hu; simp only [enc32, List.mem_cons, List.not_mem_nil, or_false] at hu; rcases hu with rfl | rfl | rfl | rfl | rfl | rfl <;> rfl⟩
def ok32 (x : S32) : Prop := x.f0.size ≤ 9223372036854775807 ∧ (Lit.int .i64 x.f1).wf = true ∧ (Lit.int .i64 x.f2).wf = true ∧ (Lit.int .i64 x.f3).wf = true ∧ (Lit.int .i64 x.f4).wf = true ∧ (Lit.int .i64 x.f5).wf = true
structure S71 where
  f0 : ByteArray
  f1 : ByteArray
  f2 : Int
  f3 : Int
  f4 : Int
def enc71 (x : S71) : List Value := [.string x.f0, .string x.f1, .int .i64 x.f2, .int .i64 x.f3, .int .i64 x.f4]
theorem enc71_ok (a : S71) : (enc71 a).length = 5 ∧ ∀ u ∈ enc71 a, u.oneCell' = true := ⟨rfl, by intro u hu; simp only [enc71, List.mem_cons, List.not_mem_nil, or_false] at hu; rcases hu with rfl | rfl | rfl | rfl | rfl <;> rfl⟩
def ok71 (x : S71) : Prop := x.f0.size ≤ 9223372036854775807 ∧ x.f1.size ≤ 9223372036854775807 ∧ (Lit.int .i64 x.f2).wf = true ∧ (Lit.int .i64 x.f3).wf = true ∧ (Lit.int .i64 x.f4).wf = true
def enc_inti64 (x : Int) : List Value := [.int .i64 x]
theorem enc_inti64_ok (a : Int) : (enc_inti64 a).length = 1 ∧ ∀ u ∈ enc_inti64 a, u.oneCell' = true := ⟨rfl, by intro u hu; simp only [enc_inti64, List.mem_cons, List.not_mem_nil, or_false] at hu; rcases hu with rfl; rfl⟩
def enc_str (x : ByteArray) : List Value := [.string x]
theorem enc_str_ok (a : ByteArray) : (enc_str a).length = 1 ∧ ∀ u ∈ enc_str a, u.oneCell' = true := ⟨rfl, by intro u hu; simp only [enc_str, List.mem_cons, List.not_mem_nil, or_false] at hu; rcases hu with rfl; rfl⟩
def enc_intu8 (x : Int) : List Value := [.int .u8 x]
theorem enc_intu8_ok (a : Int) : (enc_intu8 a).length = 1 ∧ ∀ u ∈ enc_intu8 a, u.oneCell' = true := ⟨rfl, by intro u hu; simp only [enc_intu8, List.mem_cons, List.not_mem_nil, or_false] at hu; rcases hu with rfl; rfl⟩
theorem VC.join0 {E : Env} {P : Program} {Q : Exit → Act → World → Prop} {s : St}  {c1 c2 : Code} (I : St) (F : Prop) (hx : VC P E c1 (Exit.then (fun a w => F ∧ Inv E (I) a w) Q) s) (hy : F → VC P E c2 Q (I)) : VC P E (.seq c1 c2) Q s :=
  fun a w hi => wp_seq (Code.wp_mono (fun e a w h => by
    cases e <;> first | exact h | (obtain ⟨hf, hi⟩ := h; exact hy  hf a w hi)) (hx a w hi))
theorem VN.meet0 {E : Env} {Q : Exit → Act → World → Prop} {s : St}  {I : St} {F : Prop}  (bs rs : List Nat) (hf : F) (hl : Le s (I) bs rs) : VN E (Exit.then (fun a w => F ∧ Inv E (I) a w) Q) s :=
  fun a w hi => ⟨hf, hi.le hl⟩
theorem VC.join1 {E : Env} {P : Program} {Q : Exit → Act → World → Prop} {s : St} {α0 : Type} {c1 c2 : Code} (I : α0 → St) (F : α0 → Prop) (hx : VC P E c1 (Exit.then (fun a w => ∃ (x0 : α0), F x0 ∧ Inv E (I x0) a w) Q) s) (hy : ∀ (x0 : α0), F x0 → VC P E c2 Q (I x0)) : VC P E (.seq c1 c2) Q s :=
  fun a w hi => wp_seq (Code.wp_mono (fun e a w h => by
    cases e <;> first | exact h | (obtain ⟨x0, hf, hi⟩ := h; exact hy x0 hf a w hi)) (hx a w hi))
theorem VN.meet1 {E : Env} {Q : Exit → Act → World → Prop} {s : St} {α0 : Type} {I : α0 → St} {F : α0 → Prop} (x0 : α0) (bs rs : List Nat) (hf : F x0) (hl : Le s (I x0) bs rs) : VN E (Exit.then (fun a w => ∃ (x0 : α0), F x0 ∧ Inv E (I x0) a w) Q) s :=
  fun a w hi => ⟨x0, hf, hi.le hl⟩
theorem VC.loop1 {E : Env} {P : Program} {Q : Exit → Act → World → Prop} {s : St} {α0 : Type} {c : Code} (I : α0 → St) (F : Nat → α0 → Prop) (k : Nat) (x0 : α0) (bs rs : List Nat) (hf : F k x0) (hl : Le s (I x0) bs rs) (hz : ∀ (x0 : α0), ¬ F 0 x0) (h : ∀ k, (∀ (x0 : α0), F k x0 → VLp P E c Q k (I x0)) → ∀ (x0 : α0), F (k + 1) x0 → VC P E c (Exit.then (Code.rounds P c Q k) Q) (I x0)) : VC P E (.loop c) Q s := by
  have key : ∀ k (x0 : α0), F k x0 → VLp P E c Q k (I x0) := by
    intro k
    induction k with
    | zero => intro x0 hf; exact absurd hf (hz x0)
    | succ k ih => intro x0 hf; exact VLp.succ (h k ih x0 hf)
  exact fun a w hi => wp_loop_rounds k (key k x0 hf a w (hi.le hl))
theorem VC.loop2 {E : Env} {P : Program} {Q : Exit → Act → World → Prop} {s : St} {α0 : Type} {α1 : Type} {c : Code} (I : α0 → α1 → St) (F : Nat → α0 → α1 → Prop) (k : Nat) (x0 : α0) (x1 : α1) (bs rs : List Nat) (hf : F k x0 x1) (hl : Le s (I x0 x1) bs rs) (hz : ∀ (x0 : α0) (x1 : α1), ¬ F 0 x0 x1) (h : ∀ k, (∀ (x0 : α0) (x1 : α1), F k x0 x1 → VLp P E c Q k (I x0 x1)) → ∀ (x0 : α0) (x1 : α1), F (k + 1) x0 x1 → VC P E c (Exit.then (Code.rounds P c Q k) Q) (I x0 x1)) : VC P E (.loop c) Q s := by
  have key : ∀ k (x0 : α0) (x1 : α1), F k x0 x1 → VLp P E c Q k (I x0 x1) := by
    intro k
    induction k with
    | zero => intro x0 x1 hf; exact absurd hf (hz x0 x1)
    | succ k ih => intro x0 x1 hf; exact VLp.succ (h k ih x0 x1 hf)
  exact fun a w hi => wp_loop_rounds k (key k x0 x1 hf a w (hi.le hl))
theorem VC.loop3 {E : Env} {P : Program} {Q : Exit → Act → World → Prop} {s : St} {α0 : Type} {α1 : Type} {α2 : Type} {c : Code} (I : α0 → α1 → α2 → St) (F : Nat → α0 → α1 → α2 → Prop) (k : Nat) (x0 : α0) (x1 : α1) (x2 : α2) (bs rs : List Nat) (hf : F k x0 x1 x2) (hl : Le s (I x0 x1 x2) bs rs) (hz : ∀ (x0 : α0) (x1 : α1) (x2 : α2), ¬ F 0 x0 x1 x2) (h : ∀ k, (∀ (x0 : α0) (x1 : α1) (x2 : α2), F k x0 x1 x2 → VLp P E c Q k (I x0 x1 x2)) → ∀ (x0 : α0) (x1 : α1) (x2 : α2), F (k + 1) x0 x1 x2 → VC P E c (Exit.then (Code.rounds P c Q k) Q) (I x0 x1 x2)) : VC P E (.loop c) Q s := by
  have key : ∀ k (x0 : α0) (x1 : α1) (x2 : α2), F k x0 x1 x2 → VLp P E c Q k (I x0 x1 x2) := by
    intro k
    induction k with
    | zero => intro x0 x1 x2 hf; exact absurd hf (hz x0 x1 x2)
    | succ k ih => intro x0 x1 x2 hf; exact VLp.succ (h k ih x0 x1 x2 hf)
  exact fun a w hi => wp_loop_rounds k (key k x0 x1 x2 hf a w (hi.le hl))
theorem VC.stop0 {E : Env} {P : Program} {Q : Exit → Act → World → Prop} {s : St}  {c1 : Code} (I : St) (F : Prop) (hx : VC P E c1 (Exit.then (fun a w => F ∧ Inv E (I) a w) Q) s) (hy : F → VN E Q (I)) : VC P E c1 Q s :=
  fun a w hi => Code.wp_mono (fun e a w h => by
    cases e <;> first | exact h | (obtain ⟨hf, hi⟩ := h; exact hy  hf a w hi)) (hx a w hi)
theorem VC.stop1 {E : Env} {P : Program} {Q : Exit → Act → World → Prop} {s : St} {α0 : Type} {c1 : Code} (I : α0 → St) (F : α0 → Prop) (hx : VC P E c1 (Exit.then (fun a w => ∃ (x0 : α0), F x0 ∧ Inv E (I x0) a w) Q) s) (hy : ∀ (x0 : α0), F x0 → VN E Q (I x0)) : VC P E c1 Q s :=
  fun a w hi => Code.wp_mono (fun e a w h => by
    cases e <;> first | exact h | (obtain ⟨x0, hf, hi⟩ := h; exact hy x0 hf a w hi)) (hx a w hi)
theorem TI33 : TI Try.prog 33 true 6 := ⟨⟨_, Try.underlying33, rfl⟩, by kernel_rfl⟩
theorem Z33 : (Try.prog.info? 33).bind (·.zero) = some (.agg #[.string (⟨#[]⟩ : ByteArray), .int .i64 0, .int .i64 0, .int .i64 0, .int .i64 0, .int .i64 0]) := by kernel_rfl
theorem TI9 : TI Try.prog 9 false 1 := ⟨⟨_, Try.underlying9, rfl⟩, by kernel_rfl⟩
theorem FI33_0 : FI Try.prog 33 0 0 1 := ⟨_, _, _, Try.underlying33, rfl, rfl, TI9⟩
theorem EI33 : EI Try.prog 33 6 56 := ei_of (z := .agg #[.string (⟨#[]⟩ : ByteArray), .int .i64 0, .int .i64 0, .int .i64 0, .int .i64 0, .int .i64 0]) (by kernel_rfl) rfl (by decide) (by decide)
theorem FO11 : FOk Try.prog 11 := ⟨_, Try.func11, by kernel_rfl, by kernel_rfl⟩
theorem TI3 : TI Try.prog 3 false 1 := ⟨⟨_, Try.underlying3, rfl⟩, by kernel_rfl⟩
theorem FI33_1 : FI Try.prog 33 1 1 1 := ⟨_, _, _, Try.underlying33, rfl, rfl, TI3⟩
theorem FI33_2 : FI Try.prog 33 2 2 1 := ⟨_, _, _, Try.underlying33, rfl, rfl, TI3⟩
theorem FI33_3 : FI Try.prog 33 3 3 1 := ⟨_, _, _, Try.underlying33, rfl, rfl, TI3⟩
theorem FI33_4 : FI Try.prog 33 4 4 1 := ⟨_, _, _, Try.underlying33, rfl, rfl, TI3⟩
theorem FI33_5 : FI Try.prog 33 5 5 1 := ⟨_, _, _, Try.underlying33, rfl, rfl, TI3⟩
theorem Z3 : (Try.prog.info? 3).bind (·.zero) = some (.int .i64 0) := by kernel_rfl
theorem Z9 : (Try.prog.info? 9).bind (·.zero) = some (.string (⟨#[]⟩ : ByteArray)) := by kernel_rfl
theorem TI60 : TI Try.prog 60 false 1 := ⟨⟨_, Try.underlying60, rfl⟩, by kernel_rfl⟩
theorem TI61 : TI Try.prog 61 false 1 := ⟨⟨_, Try.underlying61, rfl⟩, by kernel_rfl⟩
theorem Z63 : (Try.prog.info? 63).bind (·.zero) = some (.agg #[.slice none 0 0, .slice none 0 0]) := by kernel_rfl
theorem SI63 : SI Try.prog 63 [.slice none 0 0, .slice none 0 0] [(0, 1), (1, 1)] := ⟨⟨_, Try.underlying63, (.cons ⟨rfl, _, TI60⟩ (.cons ⟨rfl, _, TI61⟩ .nil))⟩, Z63⟩
theorem FI63_1 : FI Try.prog 63 1 1 1 := ⟨_, _, _, Try.underlying63, rfl, rfl, TI61⟩
theorem TI72 : TI Try.prog 72 true 5 := ⟨⟨_, Try.underlying72, rfl⟩, by kernel_rfl⟩
theorem Z72 : (Try.prog.info? 72).bind (·.zero) = some (.agg #[.string (⟨#[]⟩ : ByteArray), .string (⟨#[]⟩ : ByteArray), .int .i64 0, .int .i64 0, .int .i64 0]) := by kernel_rfl
theorem FI72_0 : FI Try.prog 72 0 0 1 := ⟨_, _, _, Try.underlying72, rfl, rfl, TI9⟩
theorem FI72_1 : FI Try.prog 72 1 1 1 := ⟨_, _, _, Try.underlying72, rfl, rfl, TI9⟩
theorem FO47 : FOk Try.prog 47 := ⟨_, Try.func47, by kernel_rfl, by kernel_rfl⟩
theorem FO59 : FOk Try.prog 59 := ⟨_, Try.func59, by kernel_rfl, by kernel_rfl⟩
theorem FO46 : FOk Try.prog 46 := ⟨_, Try.func46, by kernel_rfl, by kernel_rfl⟩
theorem TI5 : TI Try.prog 5 false 1 := ⟨⟨_, Try.underlying5, rfl⟩, by kernel_rfl⟩
theorem FO63 : FOk Try.prog 63 := ⟨_, Try.func63, by kernel_rfl, by kernel_rfl⟩
theorem FO69 : FOk Try.prog 69 := ⟨_, Try.func69, by kernel_rfl, by kernel_rfl⟩
theorem FO64 : FOk Try.prog 64 := ⟨_, Try.func64, by kernel_rfl, by kernel_rfl⟩
theorem FO52 : FOk Try.prog 52 := ⟨_, Try.func52, by kernel_rfl, by kernel_rfl⟩
theorem FI72_2 : FI Try.prog 72 2 2 1 := ⟨_, _, _, Try.underlying72, rfl, rfl, TI3⟩
theorem FO60 : FOk Try.prog 60 := ⟨_, Try.func60, by kernel_rfl, by kernel_rfl⟩
theorem FI72_3 : FI Try.prog 72 3 3 1 := ⟨_, _, _, Try.underlying72, rfl, rfl, TI3⟩
theorem FI72_4 : FI Try.prog 72 4 4 1 := ⟨_, _, _, Try.underlying72, rfl, rfl, TI3⟩
theorem FO48 : FOk Try.prog 48 := ⟨_, Try.func48, by kernel_rfl, by kernel_rfl⟩
theorem FI63_0 : FI Try.prog 63 0 0 1 := ⟨_, _, _, Try.underlying63, rfl, rfl, TI60⟩
theorem FO61 : FOk Try.prog 61 := ⟨_, Try.func61, by kernel_rfl, by kernel_rfl⟩
theorem FO49 : FOk Try.prog 49 := ⟨_, Try.func49, by kernel_rfl, by kernel_rfl⟩
theorem FO51 : FOk Try.prog 51 := ⟨_, Try.func51, by kernel_rfl, by kernel_rfl⟩
theorem FO62 : FOk Try.prog 62 := ⟨_, Try.func62, by kernel_rfl, by kernel_rfl⟩
theorem FO50 : FOk Try.prog 50 := ⟨_, Try.func50, by kernel_rfl, by kernel_rfl⟩
theorem FO56 : FOk Try.prog 56 := ⟨_, Try.func56, by kernel_rfl, by kernel_rfl⟩
theorem FO41 : FOk Try.prog 41 := ⟨_, Try.func41, by kernel_rfl, by kernel_rfl⟩
theorem FO53 : FOk Try.prog 53 := ⟨_, Try.func53, by kernel_rfl, by kernel_rfl⟩
theorem FO70 : FOk Try.prog 70 := ⟨_, Try.func70, by kernel_rfl, by kernel_rfl⟩
theorem FO66 : FOk Try.prog 66 := ⟨_, Try.func66, by kernel_rfl, by kernel_rfl⟩
theorem FO65 : FOk Try.prog 65 := ⟨_, Try.func65, by kernel_rfl, by kernel_rfl⟩
theorem FO55 : FOk Try.prog 55 := ⟨_, Try.func55, by kernel_rfl, by kernel_rfl⟩
theorem FO54 : FOk Try.prog 54 := ⟨_, Try.func54, by kernel_rfl, by kernel_rfl⟩
theorem FO38 : FOk Try.prog 38 := ⟨_, Try.func38, by kernel_rfl, by kernel_rfl⟩
theorem FO23 : FOk Try.prog 23 := ⟨_, Try.func23, by kernel_rfl, by kernel_rfl⟩
theorem FO22 : FOk Try.prog 22 := ⟨_, Try.func22, by kernel_rfl, by kernel_rfl⟩
theorem FO44 : FOk Try.prog 44 := ⟨_, Try.func44, by kernel_rfl, by kernel_rfl⟩
theorem FO58 : FOk Try.prog 58 := ⟨_, Try.func58, by kernel_rfl, by kernel_rfl⟩
theorem FO45 : FOk Try.prog 45 := ⟨_, Try.func45, by kernel_rfl, by kernel_rfl⟩
theorem FO27 : FOk Try.prog 27 := ⟨_, Try.func27, by kernel_rfl, by kernel_rfl⟩
theorem FO9 : FOk Try.prog 9 := ⟨_, Try.func9, by kernel_rfl, by kernel_rfl⟩
theorem FO40 : FOk Try.prog 40 := ⟨_, Try.func40, by kernel_rfl, by kernel_rfl⟩
theorem FO39 : FOk Try.prog 39 := ⟨_, Try.func39, by kernel_rfl, by kernel_rfl⟩
theorem FO24 : FOk Try.prog 24 := ⟨_, Try.func24, by kernel_rfl, by kernel_rfl⟩
theorem FO25 : FOk Try.prog 25 := ⟨_, Try.func25, by kernel_rfl, by kernel_rfl⟩
theorem FO29 : FOk Try.prog 29 := ⟨_, Try.func29, by kernel_rfl, by kernel_rfl⟩
theorem FO28 : FOk Try.prog 28 := ⟨_, Try.func28, by kernel_rfl, by kernel_rfl⟩
theorem FO13 : FOk Try.prog 13 := ⟨_, Try.func13, by kernel_rfl, by kernel_rfl⟩
theorem SI33 : SI Try.prog 33 [.string (⟨#[]⟩ : ByteArray), .int .i64 0, .int .i64 0, .int .i64 0, .int .i64 0, .int .i64 0] [(0, 1), (1, 1), (2, 1), (3, 1), (4, 1), (5, 1)] := ⟨⟨_, Try.underlying33, (.cons ⟨rfl, _, TI9⟩ (.cons ⟨rfl, _, TI3⟩ (.cons ⟨rfl, _, TI3⟩ (.cons ⟨rfl, _, TI3⟩ (.cons ⟨rfl, _, TI3⟩ (.cons ⟨rfl, _, TI3⟩ .nil))))))⟩, Z33⟩
theorem FO14 : FOk Try.prog 14 := ⟨_, Try.func14, by kernel_rfl, by kernel_rfl⟩
theorem FO26 : FOk Try.prog 26 := ⟨_, Try.func26, by kernel_rfl, by kernel_rfl⟩
theorem FO8 : FOk Try.prog 8 := ⟨_, Try.func8, by kernel_rfl, by kernel_rfl⟩
theorem EQ33 (a0 : ByteArray) (a1 : Int) (a2 : Int) (a3 : Int) (a4 : Int) (a5 : Int) (b0 : ByteArray) (b1 : Int) (b2 : Int) (b3 : Int) (b4 : Int) (b5 : Int) : EqV Try.prog 10000 33 (.agg #[.string a0, .int .i64 a1, .int .i64 a2, .int .i64 a3, .int .i64 a4, .int .i64 a5]) (.agg #[.string b0, .int .i64 b1, .int .i64 b2, .int .i64 b3, .int .i64 b4, .int .i64 b5]) ((a0 == b0) && ((a1 == b1) && ((a2 == b2) && ((a3 == b3) && ((a4 == b4) && (a5 == b5)))))) := (.struct Try.underlying33 (by kernel_rfl) (.cons (by decide) TI9 (fun _ => rfl) rfl rfl rfl rfl (.string Try.underlying9) (.cons (by decide) TI3 (fun _ => rfl) rfl rfl rfl rfl (.int Try.underlying3) (.cons (by decide) TI3 (fun _ => rfl) rfl rfl rfl rfl (.int Try.underlying3) (.cons (by decide) TI3 (fun _ => rfl) rfl rfl rfl rfl (.int Try.underlying3) (.cons (by decide) TI3 (fun _ => rfl) rfl rfl rfl rfl (.int Try.underlying3) (.one (by decide) TI3 (fun _ => rfl) rfl rfl rfl rfl (.int Try.underlying3))))))))
theorem EG33 : Try.prog.eqGuardType Try.prog.depth 33 = false := by kernel_rfl
theorem FO10 : FOk Try.prog 10 := ⟨_, Try.func10, by kernel_rfl, by kernel_rfl⟩
theorem FO30 : FOk Try.prog 30 := ⟨_, Try.func30, by kernel_rfl, by kernel_rfl⟩
theorem FO15 : FOk Try.prog 15 := ⟨_, Try.func15, by kernel_rfl, by kernel_rfl⟩
theorem FO31 : FOk Try.prog 31 := ⟨_, Try.func31, by kernel_rfl, by kernel_rfl⟩
theorem FO16 : FOk Try.prog 16 := ⟨_, Try.func16, by kernel_rfl, by kernel_rfl⟩
theorem FO12 : FOk Try.prog 12 := ⟨_, Try.func12, by kernel_rfl, by kernel_rfl⟩
def tarrylaw08_few.l1 (k : Nat) (l0 : List S32) : Nat → (List S32) → Int → Option (List S32)
  | 0, _, _ => none
  | ml1 + 1, l78, i80 => (if i80 < (((l0.take ((mn (l0.length : Int) 10).toNat)).drop 0).length : Int) then (if 0 ≤ i80 then ((((l0.take ((mn (l0.length : Int) 10).toNat)).drop 0)[i80.toNat]?).bind fun x100 => (if 0 ≤ mn (x100.f0.size : Int) 18 then (if (mn (x100.f0.size : Int) 18) ≤ (x100.f0.size : Int) then (if (l78.length + ([(⟨x100.f0.extract 0 ((mn (x100.f0.size : Int) 18).toNat), x100.f1, x100.f2, x100.f3, x100.f4, x100.f5⟩ : S32)] : List S32).length) * 56 ≤ 140737488355328 then (tarrylaw08_few.l1 k l0 ml1 (l78 ++ ([(⟨x100.f0.extract 0 ((mn (x100.f0.size : Int) 18).toNat), x100.f1, x100.f2, x100.f3, x100.f4, x100.f5⟩ : S32)] : List S32)) (wrap64 (i80 + 1))) else none) else none) else none)) else none) else (some l78))
def tarrylaw08_few.f (k : Nat) (l0 : List S32) : Option (List S32) := (if 0 ≤ mn (l0.length : Int) 10 then (if (mn (l0.length : Int) 10) ≤ (l0.length : Int) then (tarrylaw08_few.l1 k l0 k ([] : List S32) 0) else none) else none)
def goods_Right_1.f (a0_0 : ByteArray) (a0_1 : ByteArray) (a0_2 : Int) (a0_3 : Int) (a0_4 : Int) (a1_0 : ByteArray) (a1_1 : ByteArray) (a1_2 : Int) (a1_3 : Int) (a1_4 : Int) : Option (Bool) := (if (a0_0 == a1_0) = true then (some (a0_1 == a1_1)) else (some false))
def slices_IndexFunc_api_Sub_api_Sub.l1 (k : Nat) (a1_0_0 : ByteArray) (a1_0_1 : ByteArray) (a1_0_2 : Int) (a1_0_3 : Int) (a1_0_4 : Int) (l0 : List S71) : Nat → Int → Option (Int)
  | 0, _ => none
  | ml1 + 1, i219 => (if i219 < (l0.length : Int) then (if 0 ≤ i219 then ((l0[i219.toNat]?).bind fun x248 => ((goods_Right_1.f x248.f0 x248.f1 x248.f2 x248.f3 x248.f4 a1_0_0 a1_0_1 a1_0_2 a1_0_3 a1_0_4).bind fun t251 => (if t251 = true then (some i219) else (slices_IndexFunc_api_Sub_api_Sub.l1 k a1_0_0 a1_0_1 a1_0_2 a1_0_3 a1_0_4 l0 ml1 (wrap64 (i219 + 1)))))) else none) else (some (-1)))
def slices_IndexFunc_api_Sub_api_Sub.f (k : Nat) (l0 : List S71) (a1_0_0 : ByteArray) (a1_0_1 : ByteArray) (a1_0_2 : Int) (a1_0_3 : Int) (a1_0_4 : Int) : Option (Int) := (slices_IndexFunc_api_Sub_api_Sub.l1 k a1_0_0 a1_0_1 a1_0_2 a1_0_3 a1_0_4 l0 k 0)
def slices_ContainsFunc_api_Sub_api_Sub.f (k : Nat) (l0 : List S71) (a1_0_0 : ByteArray) (a1_0_1 : ByteArray) (a1_0_2 : Int) (a1_0_3 : Int) (a1_0_4 : Int) : Option (Bool) := ((slices_IndexFunc_api_Sub_api_Sub.f k l0 a1_0_0 a1_0_1 a1_0_2 a1_0_3 a1_0_4).bind fun t254 => (some (decide (t254 ≥ 0))))
def goods_name_1.f (a0 : Int) : Option (Bool) := (if a0 < 97 then (if a0 < 48 then (some true) else (some (decide (a0 > 57)))) else (if a0 > 122 then (if a0 < 48 then (some true) else (some (decide (a0 > 57)))) else (some false)))
def slices_IndexFunc_byte_byte.l1 (k : Nat) (l0 : List Int) : Nat → Int → Option (Int)
  | 0, _ => none
  | ml1 + 1, i355 => (if i355 < (l0.length : Int) then (if 0 ≤ i355 then ((l0[i355.toNat]?).bind fun x384 => ((goods_name_1.f x384).bind fun t387 => (if t387 = true then (some i355) else (slices_IndexFunc_byte_byte.l1 k l0 ml1 (wrap64 (i355 + 1)))))) else none) else (some (-1)))
def slices_IndexFunc_byte_byte.f (k : Nat) (l0 : List Int) : Option (Int) := (slices_IndexFunc_byte_byte.l1 k l0 k 0)
def slices_ContainsFunc_byte_byte.f (k : Nat) (l0 : List Int) : Option (Bool) := ((slices_IndexFunc_byte_byte.f k l0).bind fun t390 => (some (decide (t390 ≥ 0))))
def goods_name.f (k : Nat) (a0 : ByteArray) : Option (Bool) := (if (a0 == (⟨#[]⟩ : ByteArray)) = true then (some false) else (if (a0.size : Int) ≤ 16 then (if a0.size ≤ 140737488355328 then ((slices_ContainsFunc_byte_byte.f k (byI a0)).bind fun t403 => (if t403 = true then (some false) else (some true))) else none) else (some false)))
def goods_in.f (a0 : Int) (a1 : Int) : Option (Bool) := (if a0 ≥ 1 then (some (decide (a0 ≤ a1))) else (some false))
def goods_may.f (k : Nat) (a0_0 : ByteArray) (a0_1 : ByteArray) (a0_2 : Int) (a0_3 : Int) (a0_4 : Int) : Option (Bool) := ((goods_name.f k a0_0).bind fun t428 => (if t428 = true then ((goods_name.f k a0_1).bind fun t431 => (if t431 = true then (if (a0_0 == a0_1) = true then (some false) else ((goods_in.f a0_2 9).bind fun t436 => (if t436 = true then ((goods_in.f a0_3 100).bind fun t439 => (if t439 = true then ((goods_in.f a0_4 100).bind fun t442 => (some t442)) else (some false))) else (some false)))) else (some false))) else (some false)))
def slices_Index_string_string.l1 (k : Nat) (a1 : ByteArray) (l0 : List ByteArray) : Nat → Int → Option (Int)
  | 0, _ => none
  | ml1 + 1, i506 => (if i506 < (l0.length : Int) then (if 0 ≤ i506 then ((l0[i506.toNat]?).bind fun x532 => (if (a1 == x532) = true then (some i506) else (slices_Index_string_string.l1 k a1 l0 ml1 (wrap64 (i506 + 1))))) else none) else (some (-1)))
def slices_Index_string_string.f (k : Nat) (l0 : List ByteArray) (a1 : ByteArray) : Option (Int) := (slices_Index_string_string.l1 k a1 l0 k 0)
def slices_Contains_string_string.f (k : Nat) (l0 : List ByteArray) (a1 : ByteArray) : Option (Bool) := ((slices_Index_string_string.f k l0 a1).bind fun t537 => (some (decide (t537 ≥ 0))))
def goods_Right_2.f (k : Nat) (a0 : ByteArray) : Option (Bool) := ((goods_name.f k a0).bind fun t850 => (if t850 = true then (some false) else (some true)))
def slices_IndexFunc_string_string.l1 (k : Nat) (l0 : List ByteArray) : Nat → Int → Option (Int)
  | 0, _ => none
  | ml1 + 1, i912 => (if i912 < (l0.length : Int) then (if 0 ≤ i912 then ((l0[i912.toNat]?).bind fun x941 => ((goods_Right_2.f k x941).bind fun t944 => (if t944 = true then (some i912) else (slices_IndexFunc_string_string.l1 k l0 ml1 (wrap64 (i912 + 1)))))) else none) else (some (-1)))
def slices_IndexFunc_string_string.f (k : Nat) (l0 : List ByteArray) : Option (Int) := (slices_IndexFunc_string_string.l1 k l0 k 0)
def slices_ContainsFunc_string_string.f (k : Nat) (l0 : List ByteArray) : Option (Bool) := ((slices_IndexFunc_string_string.f k l0).bind fun t947 => (some (decide (t947 ≥ 0))))
def internal_bytealg_CompareString.f (a0 : ByteArray) (a1 : ByteArray) : Option (Int) := (some (Lib.compareBytes a0.data.toList a1.data.toList))
def strings_Compare.f (a0 : ByteArray) (a1 : ByteArray) : Option (Int) := ((internal_bytealg_CompareString.f a0 a1).bind fun t966 => (some t966))
def goods_rising_string.l1 (k : Nat) (a1 : Int) (l0 : List ByteArray) : Nat → Int → Option (Bool)
  | 0, _ => none
  | ml1 + 1, i1038 => (if i1038 < (l0.length : Int) then (if 0 ≤ wrap64 (i1038 - 1) then ((l0[(wrap64 (i1038 - 1)).toNat]?).bind fun x1073 => (if 0 ≤ i1038 then ((l0[i1038.toNat]?).bind fun x1075 => ((strings_Compare.f x1073 x1075).bind fun t1076 => (if t1076 ≥ 0 then (some false) else (goods_rising_string.l1 k a1 l0 ml1 (wrap64 (i1038 + 1)))))) else none)) else none) else (some (decide ((l0.length : Int) ≤ a1))))
def goods_rising_string.f (k : Nat) (l0 : List ByteArray) (a1 : Int) : Option (Bool) := (goods_rising_string.l1 k a1 l0 k 1)
def cmp_isNaN_int.f (a0 : Int) : Option (Bool) := (some (a0 != a0))
def cmp_Compare_int.f (a0 : Int) (a1 : Int) : Option (Int) := ((cmp_isNaN_int.f a0).bind fun t1099 => ((cmp_isNaN_int.f a1).bind fun t1101 => (if t1099 = true then (if t1101 = true then (some 0) else (some (-1))) else (if t1101 = true then (some 1) else (if a0 < a1 then (some (-1)) else (if a0 > a1 then (some 1) else (some 0)))))))
def cmp_Or_int.l1 (k : Nat) (l0 : List Int) : Nat → Int → Option (Int)
  | 0, _ => none
  | ml1 + 1, i1181 => (if i1181 < (l0.length : Int) then (if 0 ≤ i1181 then ((l0[i1181.toNat]?).bind fun x1207 => (if x1207 = 0 then (cmp_Or_int.l1 k l0 ml1 (wrap64 (i1181 + 1))) else (some x1207))) else none) else (some 0))
def cmp_Or_int.f (k : Nat) (l0 : List Int) : Option (Int) := (cmp_Or_int.l1 k l0 k 0)
def goods_compare.f (k : Nat) (a0_0 : ByteArray) (a0_1 : ByteArray) (a0_2 : Int) (a0_3 : Int) (a0_4 : Int) (a1_0 : ByteArray) (a1_1 : ByteArray) (a1_2 : Int) (a1_3 : Int) (a1_4 : Int) : Option (Int) := ((strings_Compare.f a0_0 a1_0).bind fun t1096 => ((cmp_Compare_int.f a0_2 a1_2).bind fun t1119 => ((cmp_Or_int.f k ([t1096, t1119] : List Int)).bind fun t1212 => (some t1212))))
def goods_rising_Sub.l1 (k : Nat) (a1 : Int) (l0 : List S71) : Nat → Int → Option (Bool)
  | 0, _ => none
  | ml1 + 1, i1284 => (if i1284 < (l0.length : Int) then (if 0 ≤ wrap64 (i1284 - 1) then ((l0[(wrap64 (i1284 - 1)).toNat]?).bind fun x1319 => (if 0 ≤ i1284 then ((l0[i1284.toNat]?).bind fun x1321 => ((goods_compare.f k x1319.f0 x1319.f1 x1319.f2 x1319.f3 x1319.f4 x1321.f0 x1321.f1 x1321.f2 x1321.f3 x1321.f4).bind fun t1322 => (if t1322 ≥ 0 then (some false) else (goods_rising_Sub.l1 k a1 l0 ml1 (wrap64 (i1284 + 1)))))) else none)) else none) else (some (decide ((l0.length : Int) ≤ a1))))
def goods_rising_Sub.f (k : Nat) (l0 : List S71) (a1 : Int) : Option (Bool) := (goods_rising_Sub.l1 k a1 l0 k 1)
def goods_Right.l1 (k : Nat) (l0_0 : List ByteArray) (l0_1 : List S71) : Nat → Int → Option (Bool)
  | 0, _ => none
  | ml1 + 1, i773 => (if i773 < (l0_1.length : Int) then (if 0 ≤ i773 then ((l0_1[i773.toNat]?).bind fun x1366 => (if i773 ≤ (l0_1.length : Int) then ((slices_ContainsFunc_api_Sub_api_Sub.f k ((l0_1.take i773.toNat).drop 0) x1366.f0 x1366.f1 x1366.f2 x1366.f3 x1366.f4).bind fun t1373 => (if t1373 = true then (some false) else ((goods_may.f k x1366.f0 x1366.f1 x1366.f2 x1366.f3 x1366.f4).bind fun t1386 => (if t1386 = true then ((slices_Contains_string_string.f k l0_0 x1366.f0).bind fun t1389 => (if t1389 = true then ((slices_Contains_string_string.f k l0_0 x1366.f1).bind fun t1392 => (if t1392 = true then (goods_Right.l1 k l0_0 l0_1 ml1 (wrap64 (i773 + 1))) else (some false))) else (some false))) else (some false))))) else none)) else none) else ((slices_ContainsFunc_string_string.f k l0_0).bind fun t1398 => (if t1398 = true then (some false) else ((goods_rising_string.f k l0_0 8).bind fun t1406 => (if t1406 = true then ((goods_rising_Sub.f k l0_1 16).bind fun t1409 => (some t1409)) else (some false))))))
def goods_Right.f (k : Nat) (l0_0 : List ByteArray) (l0_1 : List S71) : Option (Bool) := (goods_Right.l1 k l0_0 l0_1 k 0)
def stock_name.f (k : Nat) (a0 : ByteArray) : Option (Bool) := ((goods_Right.f k ([a0] : List ByteArray) []).bind fun t1412 => (some t1412))
def stock_units.f (a0 : Int) : Option (Bool) := (if a0 ≥ 1 then (some (decide (a0 ≤ 1073741824))) else (some false))
def stock_may_1.f (a0 : Int) : Option (Bool) := (if a0 = 0 then (some false) else ((stock_units.f a0).bind fun t1438 => (if t1438 = true then (some false) else (some true))))
def slices_IndexFunc_int_int.l1 (k : Nat) (l0 : List Int) : Nat → Int → Option (Int)
  | 0, _ => none
  | ml1 + 1, i1500 => (if i1500 < (l0.length : Int) then (if 0 ≤ i1500 then ((l0[i1500.toNat]?).bind fun x1529 => ((stock_may_1.f x1529).bind fun t1532 => (if t1532 = true then (some i1500) else (slices_IndexFunc_int_int.l1 k l0 ml1 (wrap64 (i1500 + 1)))))) else none) else (some (-1)))
def slices_IndexFunc_int_int.f (k : Nat) (l0 : List Int) : Option (Int) := (slices_IndexFunc_int_int.l1 k l0 k 0)
def slices_ContainsFunc_int_int.f (k : Nat) (l0 : List Int) : Option (Bool) := ((slices_IndexFunc_int_int.f k l0).bind fun t1535 => (some (decide (t1535 ≥ 0))))
def stock_may.f (k : Nat) (a0_0 : ByteArray) (a0_1 : Int) (a0_2 : Int) (a0_3 : Int) (a0_4 : Int) (a0_5 : Int) : Option (Bool) := ((stock_name.f k a0_0).bind fun t1542 => (if t1542 = true then ((slices_ContainsFunc_int_int.f k ([a0_1, a0_2, a0_3, a0_4, a0_5] : List Int)).bind fun t1545 => (if t1545 = true then (some false) else (some (a0_1 == (wrap64 ((wrap64 ((wrap64 (a0_2 + a0_3)) + a0_4)) + a0_5)))))) else (some false)))
def stock_Right.l1 (k : Nat) (l0 : List S32) : Nat → Int → Option (Bool)
  | 0, _ => none
  | ml1 + 1, i1639 => (if i1639 < (l0.length : Int) then (if 0 ≤ i1639 then ((l0[i1639.toNat]?).bind fun x1690 => ((stock_may.f k x1690.f0 x1690.f1 x1690.f2 x1690.f3 x1690.f4 x1690.f5).bind fun t1694 => (if t1694 = true then (if i1639 > 0 then (if 0 ≤ wrap64 (i1639 - 1) then ((l0[(wrap64 (i1639 - 1)).toNat]?).bind fun x1700 => (if (!Op.bytesLess x1700.f0.toList x1690.f0.toList) = true then (some false) else (stock_Right.l1 k l0 ml1 (wrap64 (i1639 + 1))))) else none) else (stock_Right.l1 k l0 ml1 (wrap64 (i1639 + 1)))) else (some false)))) else none) else (some (decide ((l0.length : Int) ≤ 8))))
def stock_Right.f (k : Nat) (l0 : List S32) : Option (Bool) := (stock_Right.l1 k l0 k 0)
def stock_at_1.f (a0_0 : ByteArray) (a0_1 : Int) (a0_2 : Int) (a0_3 : Int) (a0_4 : Int) (a0_5 : Int) (a1 : ByteArray) : Option (Int) := ((strings_Compare.f a0_0 a1).bind fun t1741 => (some t1741))
def slices_BinarySearchFunc_api_Row_api_Row_string.l1 (k : Nat) (a1 : ByteArray) (l0 : List S32) : Nat → Int → Int → Option (Int × Bool)
  | 0, _, _ => none
  | ml1 + 1, i1785, i1786 => (if i1785 < i1786 then (if 0 ≤ wrap64 ((IntKind.u64.wrap (wrap64 (i1785 + i1786))).fdiv (2 ^ min (1 : Int).toNat IntKind.u64.bits)) then ((l0[(wrap64 ((IntKind.u64.wrap (wrap64 (i1785 + i1786))).fdiv (2 ^ min (1 : Int).toNat IntKind.u64.bits))).toNat]?).bind fun x1822 => ((stock_at_1.f x1822.f0 x1822.f1 x1822.f2 x1822.f3 x1822.f4 x1822.f5 a1).bind fun t1825 => (if t1825 < 0 then (slices_BinarySearchFunc_api_Row_api_Row_string.l1 k a1 l0 ml1 (wrap64 ((wrap64 ((IntKind.u64.wrap (wrap64 (i1785 + i1786))).fdiv (2 ^ min (1 : Int).toNat IntKind.u64.bits))) + 1)) i1786) else (slices_BinarySearchFunc_api_Row_api_Row_string.l1 k a1 l0 ml1 i1785 (wrap64 ((IntKind.u64.wrap (wrap64 (i1785 + i1786))).fdiv (2 ^ min (1 : Int).toNat IntKind.u64.bits))))))) else none) else (if i1785 < (l0.length : Int) then (if 0 ≤ i1785 then ((l0[i1785.toNat]?).bind fun x1841 => ((stock_at_1.f x1841.f0 x1841.f1 x1841.f2 x1841.f3 x1841.f4 x1841.f5 a1).bind fun t1844 => (some (i1785, (t1844 == 0))))) else none) else (some (i1785, false))))
def slices_BinarySearchFunc_api_Row_api_Row_string.f (k : Nat) (l0 : List S32) (a1 : ByteArray) : Option (Int × Bool) := (slices_BinarySearchFunc_api_Row_api_Row_string.l1 k a1 l0 k 0 (l0.length : Int))
def stock_at.f (k : Nat) (l0 : List S32) (a1 : ByteArray) : Option (Int × Bool) := ((slices_BinarySearchFunc_api_Row_api_Row_string.f k l0 a1).bind fun ⟨t1847, t1848⟩ => (some (t1847, t1848)))
def slices_Clone_api_Row_api_Row.f (l0 : List S32) : Option (List S32) := if l0.length * 56 ≤ 140737488355328 then some l0 else none
def stock_Hold_1.f  : Option (Unit) := (some ())
def stock_move.f (k : Nat) (l0 : List S32) (a1 : ByteArray) (a2 : Int) : Option (List S32 × Int) := ((stock_Right.f k l0).bind fun t1724 => (if t1724 = true then ((stock_units.f a2).bind fun t1727 => (if t1727 = true then ((stock_at.f k l0 a1).bind fun ⟨t1850, t1851⟩ => (if t1851 = true then ((slices_Clone_api_Row_api_Row.f l0).bind fun r1858 => (if 0 ≤ t1850 then ((r1858[t1850.toNat]?).bind fun x1863 => ((stock_Hold_1.f).bind fun _ => (if x1863.f2 < a2 then (some (([] : List S32), 11)) else (some (((r1858.set t1850.toNat (⟨x1863.f0, x1863.f1, wrap64 (x1863.f2 - a2), x1863.f3, x1863.f4, x1863.f5⟩ : S32)).set t1850.toNat (⟨x1863.f0, x1863.f1, wrap64 (x1863.f2 - a2), wrap64 (x1863.f3 + a2), x1863.f4, x1863.f5⟩ : S32)), 0))))) else none)) else (some (([] : List S32), 8)))) else (some (([] : List S32), 1)))) else (some (([] : List S32), 1))))
def stock_Hold.f (k : Nat) (l0 : List S32) (a1 : ByteArray) (a2 : Int) : Option (List S32 × Int) := ((stock_move.f k l0 a1 a2).bind fun ⟨r1880, t1881⟩ => (some (r1880, t1881)))
def stock_Get.f (k : Nat) (l0 : List S32) (a1 : ByteArray) : Option (ByteArray × Int × Int × Int × Int × Int × Int) := ((stock_Right.f k l0).bind fun t1901 => (if t1901 = true then ((stock_at.f k l0 a1).bind fun ⟨t1904, t1905⟩ => (if t1905 = true then (if 0 ≤ t1904 then ((l0[t1904.toNat]?).bind fun x1912 => (some (x1912.f0, x1912.f1, x1912.f2, x1912.f3, x1912.f4, x1912.f5, 0))) else none) else (some ((⟨#[]⟩ : ByteArray), 0, 0, 0, 0, 0, 8)))) else (some ((⟨#[]⟩ : ByteArray), 0, 0, 0, 0, 0, 1))))
def slices_Insert_api_Row_api_Row.f (l0 : List S32) (a1 : Int) (l2 : List S32) : Option (List S32) := if 0 ≤ a1 ∧ a1 ≤ (l0.length : Int) ∧ (l0.length + l2.length) * 56 ≤ 140737488355328 then some (l0.take a1.toNat ++ l2 ++ l0.drop a1.toNat) else none
def stock_Receive.f (k : Nat) (l0 : List S32) (a1 : ByteArray) (a2 : Int) : Option (List S32 × Int) := ((stock_Right.f k l0).bind fun t1957 => (if t1957 = true then ((stock_units.f a2).bind fun t1960 => (if t1960 = true then ((stock_name.f k a1).bind fun t1963 => (if t1963 = true then ((stock_at.f k l0 a1).bind fun ⟨t1966, t1967⟩ => ((slices_Clone_api_Row_api_Row.f l0).bind fun r1987 => (if t1967 = true then (if 0 ≤ t1966 then ((r1987[t1966.toNat]?).bind fun x2001 => (if x2001.f1 > (wrap64 (1073741824 - a2)) then (some (([] : List S32), 2)) else ((r1987[t1966.toNat]?).bind fun x2007 => ((r1987[t1966.toNat]?).bind fun x2008 => (((r1987.set t1966.toNat (⟨x2008.f0, wrap64 (x2007.f1 + a2), x2008.f2, x2008.f3, x2008.f4, x2008.f5⟩ : S32))[t1966.toNat]?).bind fun x2011 => (((r1987.set t1966.toNat (⟨x2008.f0, wrap64 (x2007.f1 + a2), x2008.f2, x2008.f3, x2008.f4, x2008.f5⟩ : S32))[t1966.toNat]?).bind fun x2012 => (some (((r1987.set t1966.toNat (⟨x2008.f0, wrap64 (x2007.f1 + a2), x2008.f2, x2008.f3, x2008.f4, x2008.f5⟩ : S32)).set t1966.toNat (⟨x2012.f0, x2012.f1, wrap64 (x2011.f2 + a2), x2012.f3, x2012.f4, x2012.f5⟩ : S32)), 0)))))))) else none) else (if (r1987.length : Int) = 8 then (some (([] : List S32), 7)) else ((slices_Insert_api_Row_api_Row.f r1987 t1966 ([(⟨a1, 0, 0, 0, 0, 0⟩ : S32)] : List S32)).bind fun r2023 => (if 0 ≤ t1966 then ((r2023[t1966.toNat]?).bind fun x2035 => (if x2035.f1 > (wrap64 (1073741824 - a2)) then (some (([] : List S32), 2)) else ((r2023[t1966.toNat]?).bind fun x2041 => ((r2023[t1966.toNat]?).bind fun x2042 => (((r2023.set t1966.toNat (⟨x2042.f0, wrap64 (x2041.f1 + a2), x2042.f2, x2042.f3, x2042.f4, x2042.f5⟩ : S32))[t1966.toNat]?).bind fun x2045 => (((r2023.set t1966.toNat (⟨x2042.f0, wrap64 (x2041.f1 + a2), x2042.f2, x2042.f3, x2042.f4, x2042.f5⟩ : S32))[t1966.toNat]?).bind fun x2046 => (some (((r2023.set t1966.toNat (⟨x2042.f0, wrap64 (x2041.f1 + a2), x2042.f2, x2042.f3, x2042.f4, x2042.f5⟩ : S32)).set t1966.toNat (⟨x2046.f0, x2046.f1, wrap64 (x2045.f2 + a2), x2046.f3, x2046.f4, x2046.f5⟩ : S32)), 0)))))))) else none)))))) else (some (([] : List S32), 1)))) else (some (([] : List S32), 1)))) else (some (([] : List S32), 1))))
def tarrylaw08_alive.f (k : Nat)  : Option (Bool) := ((stock_Receive.f k [] (⟨#[99, 117, 112]⟩ : ByteArray) 5).bind fun ⟨r2053, t2054⟩ => ((stock_Hold.f k r2053 (⟨#[99, 117, 112]⟩ : ByteArray) 2).bind fun ⟨r2058, t2059⟩ => (if t2054 = 0 then (if t2059 = 0 then (if (r2058.length : Int) = 1 then ((r2058[0]?).bind fun x2079 => (some (((x2079.f0 == (⟨#[99, 117, 112]⟩ : ByteArray)) && ((x2079.f1 == 5) && ((x2079.f2 == 3) && ((x2079.f3 == 2) && ((x2079.f4 == 0) && (x2079.f5 == 0))))))))) else (some false)) else (some false)) else (some false))))
def stock_Release_1.f  : Option (Unit) := (some ())
def stock_move_s42.f (k : Nat) (l0 : List S32) (a1 : ByteArray) (a2 : Int) : Option (List S32 × Int) := ((stock_Right.f k l0).bind fun t2127 => (if t2127 = true then ((stock_units.f a2).bind fun t2130 => (if t2130 = true then ((stock_at.f k l0 a1).bind fun ⟨t2133, t2134⟩ => (if t2134 = true then ((slices_Clone_api_Row_api_Row.f l0).bind fun r2141 => (if 0 ≤ t2133 then ((r2141[t2133.toNat]?).bind fun x2146 => ((stock_Release_1.f).bind fun _ => (if x2146.f3 < a2 then (some (([] : List S32), 11)) else (some (((r2141.set t2133.toNat (⟨x2146.f0, x2146.f1, x2146.f2, wrap64 (x2146.f3 - a2), x2146.f4, x2146.f5⟩ : S32)).set t2133.toNat (⟨x2146.f0, x2146.f1, wrap64 (x2146.f2 + a2), wrap64 (x2146.f3 - a2), x2146.f4, x2146.f5⟩ : S32)), 0))))) else none)) else (some (([] : List S32), 8)))) else (some (([] : List S32), 1)))) else (some (([] : List S32), 1))))
def stock_Release.f (k : Nat) (l0 : List S32) (a1 : ByteArray) (a2 : Int) : Option (List S32 × Int) := ((stock_move_s42.f k l0 a1 a2).bind fun ⟨r2163, t2164⟩ => (some (r2163, t2164)))
def stock_Ship_1.f  : Option (Unit) := (some ())
def stock_move_s45.f (k : Nat) (l0 : List S32) (a1 : ByteArray) (a2 : Int) : Option (List S32 × Int) := ((stock_Right.f k l0).bind fun t2195 => (if t2195 = true then ((stock_units.f a2).bind fun t2198 => (if t2198 = true then ((stock_at.f k l0 a1).bind fun ⟨t2201, t2202⟩ => (if t2202 = true then ((slices_Clone_api_Row_api_Row.f l0).bind fun r2209 => (if 0 ≤ t2201 then ((r2209[t2201.toNat]?).bind fun x2214 => ((stock_Ship_1.f).bind fun _ => (if x2214.f3 < a2 then (some (([] : List S32), 11)) else (some (((r2209.set t2201.toNat (⟨x2214.f0, x2214.f1, x2214.f2, wrap64 (x2214.f3 - a2), x2214.f4, x2214.f5⟩ : S32)).set t2201.toNat (⟨x2214.f0, x2214.f1, x2214.f2, wrap64 (x2214.f3 - a2), wrap64 (x2214.f4 + a2), x2214.f5⟩ : S32)), 0))))) else none)) else (some (([] : List S32), 8)))) else (some (([] : List S32), 1)))) else (some (([] : List S32), 1))))
def stock_Ship.f (k : Nat) (l0 : List S32) (a1 : ByteArray) (a2 : Int) : Option (List S32 × Int) := ((stock_move_s45.f k l0 a1 a2).bind fun ⟨r2231, t2232⟩ => (some (r2231, t2232)))
def tarryref08_Same.l1 (k : Nat) (l0 : List S32) (l1 : List S32) : Nat → Int → Option (Bool)
  | 0, _ => none
  | ml1 + 1, i2310 => (if i2310 < (l0.length : Int) then (if 0 ≤ i2310 then ((l0[i2310.toNat]?).bind fun x2333 => ((l1[i2310.toNat]?).bind fun x2334 => (if (((x2333.f0 == x2334.f0) && ((x2333.f1 == x2334.f1) && ((x2333.f2 == x2334.f2) && ((x2333.f3 == x2334.f3) && ((x2333.f4 == x2334.f4) && (x2333.f5 == x2334.f5))))))) = true then (tarryref08_Same.l1 k l0 l1 ml1 (wrap64 (i2310 + 1))) else (some false)))) else none) else (some true))
def tarryref08_Same.f (k : Nat) (l0 : List S32) (l1 : List S32) : Option (Bool) := (if (l0.length : Int) = (l1.length : Int) then (tarryref08_Same.l1 k l0 l1 k 0) else (some false))
def tarrylaw08_StockBack.l1 (k : Nat) (a1 : ByteArray) (r111 : List S32) (r1885 : List S32) (r2236 : List S32) : Nat → Int → Option (Bool)
  | 0, _ => none
  | ml1 + 1, i2524 => (if i2524 < (r111.length : Int) then (if 0 ≤ i2524 then ((r111[i2524.toNat]?).bind fun x2571 => (if (x2571.f0 == (a1.extract 0 ((mn (a1.size : Int) 18).toNat))) = true then (tarrylaw08_StockBack.l1 k a1 r111 r1885 r2236 ml1 (wrap64 (i2524 + 1))) else ((r1885[i2524.toNat]?).bind fun x2577 => (if (((x2577.f0 == x2571.f0) && ((x2577.f1 == x2571.f1) && ((x2577.f2 == x2571.f2) && ((x2577.f3 == x2571.f3) && ((x2577.f4 == x2571.f4) && (x2577.f5 == x2571.f5))))))) = true then ((r2236[i2524.toNat]?).bind fun x2580 => (if (((x2580.f0 == x2571.f0) && ((x2580.f1 == x2571.f1) && ((x2580.f2 == x2571.f2) && ((x2580.f3 == x2571.f3) && ((x2580.f4 == x2571.f4) && (x2580.f5 == x2571.f5))))))) = true then (tarrylaw08_StockBack.l1 k a1 r111 r1885 r2236 ml1 (wrap64 (i2524 + 1))) else none)) else none)))) else none) else (some true))
def tarrylaw08_StockBack.f (k : Nat) (l0 : List S32) (a1 : ByteArray) (a2 : Int) : Option (Bool) := ((tarrylaw08_few.f k l0).bind fun r111 => (if 0 ≤ mn (a1.size : Int) 18 then (if (mn (a1.size : Int) 18) ≤ (a1.size : Int) then ((stock_Hold.f k r111 (a1.extract 0 ((mn (a1.size : Int) 18).toNat)) a2).bind fun ⟨r1885, t1886⟩ => ((stock_Get.f k r111 (a1.extract 0 ((mn (a1.size : Int) 18).toNat))).bind fun ⟨t1915, t1916, t1917, t1918, t1919, t1920, t1921⟩ => (if t1886 = 0 then ((stock_Release.f k r1885 (a1.extract 0 ((mn (a1.size : Int) 18).toNat)) a2).bind fun ⟨r2168, t2169⟩ => ((stock_Ship.f k r1885 (a1.extract 0 ((mn (a1.size : Int) 18).toNat)) a2).bind fun ⟨r2236, t2237⟩ => (if t1921 = 0 then (if t1917 < a2 then none else (if a2 < 1 then none else (if t2169 = 0 then (if t2237 = 0 then ((tarryref08_Same.f k r2168 r111).bind fun t2397 => (if t2397 = true then (if (r1885.length : Int) = (r111.length : Int) then (if (r2236.length : Int) = (r111.length : Int) then ((tarrylaw08_alive.f k).bind fun t2404 => (if t2404 = true then (tarrylaw08_StockBack.l1 k a1 r111 r1885 r2236 k 0) else none)) else none) else none) else none)) else none) else none))) else none))) else ((tarrylaw08_alive.f k).bind fun t2593 => (if t2593 = true then (if (r1885.length : Int) = 0 then (if t1921 = 0 then (if a2 < 1 then (some true) else (some (decide (t1917 < a2)))) else (some true)) else none) else none))))) else none) else none))
/-- THE ONE PURE STATEMENT. -/
def tarrylaw08_StockBack.Pure : Prop := ∀ (l0 : List S32) (a1 : ByteArray) (a2 : Int), allOk ok32 l0 → a1.size ≤ 140737488351232 → (Lit.int .i64 a2).wf = true → ∃ k, tarrylaw08_StockBack.f k l0 a1 a2 = some true

end Go.Proofs.Ytibpoajlnloloaa.PStockBack
