/- Written by a program of this repo: what the program's functions do, each as a Lean function, shown of the loaded code; or a statement's row over that; no condition of its own. -/
import Derived.Test.YtibpoajlnloloaaProg
import Derived.Test.YtibpoajlnloloaaV11
namespace Go.Proofs.Ytibpoajlnloloaa.PStockMoves
open Go Go.RowKit Go.Proofs.YtibpoajlnloloaaV
set_option linter.unusedVariables false
set_option linter.unusedSimpArgs false

structure S32 where
  f0 : ByteArray
  f1 : Int
  f2 : Int
  f3 : Int
  f4 : Int
  f5 : Int
def enc32 (x : S32) : List Value := [.string x.f0, .int .i64 x.f1, .int .i64 x.f2, .int .i64 x.f3, .int .i64 x.f4, .int .i64 x.f5]
theorem enc32_ok (a : S32) : (enc32 a).length = 6 ∧ ∀ u ∈ enc32 a, u.oneCell' = true := ⟨rfl, by intro u hu; simp only [enc32, List.mem_cons, List.not_mem_nil, or_false] at hu; rcases hu with rfl | rfl | rfl | rfl | rfl | rfl <;> rfl⟩
def ok32 (x : S32) : Prop := x.f0.size ≤ 9223372036854775807 ∧ (Lit.int .i64 x.f1).wf = true ∧ (Lit.int .i64 x.f2).wf = true ∧ (Lit.int .i64 x.f3).wf = true ∧ (Lit.int .i64 x.f4).wf = true ∧ (Lit.int .i64 x.f5).wf = true
structure S71 where
  f0 : ByteArray
  f1 : ByteArray
  f2 : Int
  f3 : Int
  f4 : Int
def enc71 (x : S71) : List Value := [.string x.f0, .string x.f1, .int .i64 x.f2, .int .i64 x.f3, .int .i64 x.f4]
theorem enc71_ok (a : S71) : (enc71 a).length = 5 ∧ ∀ u ∈ enc71 a, u.oneCell' = true := ⟨rfl, by intro u hu; simp only [enc71, List.mem_cons, List.not_mem_nil, or_false] at hu; rcases hu with rfl | rfl | rfl | rfl | rfl <;> rfl⟩
def ok71 (x : S71) : Prop := x.f0.size ≤ 9223372036854775807 ∧ x.f1.size ≤ 9223372036854775807 ∧ (Lit.int .i64 x.f2).wf = true ∧ (Lit.int .i64 x.f3).wf = true ∧ (Lit.int .i64 x.f4).wf = true
def enc_inti64 (x : Int) : List Value := [.int .i64 x]
theorem enc_inti64_ok (a : Int) : (enc_inti64 a).length = 1 ∧ ∀ u ∈ enc_inti64 a, u.oneCell' = true := ⟨rfl, by intro u hu; simp only [enc_inti64, List.mem_cons, List.not_mem_nil, or_false] at hu; rcases hu with rfl; rfl⟩
def enc_str (x : ByteArray) : List Value := [.string x]
theorem enc_str_ok (a : ByteArray) : (enc_str a).length = 1 ∧ ∀ u ∈ enc_str a, u.oneCell' = true := ⟨rfl, by intro u hu; simp only [enc_str, List.mem_cons, List.not_mem_nil, or_false] at hu; rcases hu with rfl; rfl⟩
def enc_intu8 (x : Int) : List Value := [.int .u8 x]
theorem enc_intu8_ok (a : Int) : (enc_intu8 a).length = 1 ∧ ∀ u ∈ enc_intu8 a, u.oneCell' = true := ⟨rfl, by intro u hu; simp only [enc_intu8, List.mem_cons, List.not_mem_nil, or_false] at hu; rcases hu with rfl; rfl⟩
theorem VC.join0 {E : Env} {P : Program} {Q : Exit → Act → World → Prop} {s : St}  {c1 c2 : Code} (I : St) (F : Prop) (hx : VC P E c1 (Exit.then (fun a w => F ∧ Inv E (I) a w) Q) s) (hy : F → VC P E c2 Q (I)) : VC P E (.seq c1 c2) Q s :=
  fun a w hi => wp_seq (Code.wp_mono (fun e a w h => by
    cases e <;> first | exact h | (obtain ⟨hf, hi⟩ := h; exact hy  hf a w hi)) (hx a w hi))
theorem VN.meet0 {E : Env} {Q : Exit → Act → World → Prop} {s : St}  {I : St} {F : Prop}  (bs rs : List Nat) (hf : F) (hl : Le s (I) bs rs) : VN E (Exit.then (fun a w => F ∧ Inv E (I) a w) Q) s :=
  fun a w hi => ⟨hf, hi.le hl⟩
theorem VC.join1 {E : Env} {P : Program} {Q : Exit → Act → World → Prop} {s : St} {α0 : Type} {c1 c2 : Code} (I : α0 → St) (F : α0 → Prop) (hx : VC P E c1 (Exit.then (fun a w => ∃ (x0 : α0), F x0 ∧ Inv E (I x0) a w) Q) s) (hy : ∀ (x0 : α0), F x0 → VC P E c2 Q (I x0)) : VC P E (.seq c1 c2) Q s :=
  fun a w hi => wp_seq (Code.wp_mono (fun e a w h => by
    cases e <;> first | exact h | (obtain ⟨x0, hf, hi⟩ := h; exact hy x0 hf a w hi)) (hx a w hi))
theorem VN.meet1 {E : Env} {Q : Exit → Act → World → Prop} {s : St} {α0 : Type} {I : α0 → St} {F : α0 → Prop} (x0 : α0) (bs rs : List Nat) (hf : F x0) (hl : Le s (I x0) bs rs) : VN E (Exit.then (fun a w => ∃ (x0 : α0), F x0 ∧ Inv E (I x0) a w) Q) s :=
  fun a w hi => ⟨x0, hf, hi.le hl⟩
theorem VC.loop1 {E : Env} {P : Program} {Q : Exit → Act → World → Prop} {s : St} {α0 : Type} {c : Code} (I : α0 → St) (F : Nat → α0 → Prop) (k : Nat) (x0 : α0) (bs rs : List Nat) (hf : F k x0) (hl : Le s (I x0) bs rs) (hz : ∀ (x0 : α0), ¬ F 0 x0) (h : ∀ k, (∀ (x0 : α0), F k x0 → VLp P E c Q k (I x0)) → ∀ (x0 : α0), F (k + 1) x0 → VC P E c (Exit.then (Code.rounds P c Q k) Q) (I x0)) : VC P E (.loop c) Q s := by
  have key : ∀ k (x0 : α0), F k x0 → VLp P E c Q k (I x0) := by
    intro k
    induction k with
    | zero => intro x0 hf; exact absurd hf (hz x0)
    | succ k ih => intro x0 hf; exact VLp.succ (h k ih x0 hf)
  exact fun a w hi => wp_loop_rounds k (key k x0 hf a w (hi.le hl))
theorem VC.loop2 {E : Env} {P : Program} {Q : Exit → Act → World → Prop} {s : St} {α0 : Type} {α1 : Type} {c : Code} (I : α0 → α1 → St) (F : Nat → α0 → α1 → Prop) (k : Nat) (x0 : α0) (x1 : α1) (bs rs : List Nat) (hf : F k x0 x1) (hl : Le s (I x0 x1) bs rs) (hz : ∀ (x0 : α0) (x1 : α1), ¬ F 0 x0 x1) (h : ∀ k, (∀ (x0 : α0) (x1 : α1), F k x0 x1 → VLp P E c Q k (I x0 x1)) → ∀ (x0 : α0) (x1 : α1), F (k + 1) x0 x1 → VC P E c (Exit.then (Code.rounds P c Q k) Q) (I x0 x1)) : VC P E (.loop c) Q s := by
  have key : ∀ k (x0 : α0) (x1 : α1), F k x0 x1 → VLp P E c Q k (I x0 x1) := by
    intro k
    induction k with
    | zero => intro x0 x1 hf; exact absurd hf (hz x0 x1)
    | succ k ih => intro x0 x1 hf; exact VLp.succ (h k ih x0 x1 hf)
  exact fun a w hi => wp_loop_rounds k (key k x0 x1 hf a w (hi.le hl))
theorem VC.loop3 {E : Env} {P : Program} {Q : Exit → Act → World → Prop} {s : St} {α0 : Type} {α1 : Type} {α2 : Type} {c : Code} (I : α0 → α1 → α2 → St) (F : Nat → α0 → α1 → α2 → Prop) (k : Nat) (x0 : α0) (x1 : α1) (x2 : α2) (bs rs : List Nat) (hf : F k x0 x1 x2) (hl : Le s (I x0 x1 x2) bs rs) (hz : ∀ (x0 : α0) (x1 : α1) (x2 : α2), ¬ F 0 x0 x1 x2) (h : ∀ k, (∀ (x0 : α0) (x1 : α1) (x2 : α2), F k x0 x1 x2 → VLp P E c Q k (I x0 x1 x2)) → ∀ (x0 : α0) (x1 : α1) (x2 : α2), F (k + 1) x0 x1 x2 → VC P E c (Exit.then (Code.rounds P c Q k) Q) (I x0 x1 x2)) : VC P E (.loop c) Q s := by
  have key : ∀ k (x0 : α0) (x1 : α1) (x2 : α2), F k x0 x1 x2 → VLp P E c Q k (I x0 x1 x2) := by
    intro k
    induction k with
    | zero => intro x0 x1 x2 hf; exact absurd hf (hz x0 x1 x2)
    | succ k ih => intro x0 x1 x2 hf; exact VLp.succ (h k ih x0 x1 x2 hf)
  exact fun a w hi => wp_loop_rounds k (key k x0 x1 x2 hf a w (hi.le hl))
theorem VC.loop4 {E : Env} {P : Program} {Q : Exit → Act → World → Prop} {s : St} {α0 : Type} {α1 : Type} {α2 : Type} {α3 : Type} {c : Code} (I : α0 → α1 → α2 → α3 → St) (F : Nat → α0 → α1 → α2 → α3 → Prop) (k : Nat) (x0 : α0) (x1 : α1) (x2 : α2) (x3 : α3) (bs rs : List Nat) (hf : F k x0 x1 x2 x3) (hl : Le s (I x0 x1 x2 x3) bs rs) (hz : ∀ (x0 : α0) (x1 : α1) (x2 : α2) (x3 : α3), ¬ F 0 x0 x1 x2 x3) (h : ∀ k, (∀ (x0 : α0) (x1 : α1) (x2 : α2) (x3 : α3), F k x0 x1 x2 x3 → VLp P E c Q k (I x0 x1 x2 x3)) → ∀ (x0 : α0) (x1 : α1) (x2 : α2) (x3 : α3), F (k + 1) x0 x1 x2 x3 → VC P E c (Exit.then (Code.rounds P c Q k) Q) (I x0 x1 x2 x3)) : VC P E (.loop c) Q s := by
  have key : ∀ k (x0 : α0) (x1 : α1) (x2 : α2) (x3 : α3), F k x0 x1 x2 x3 → VLp P E c Q k (I x0 x1 x2 x3) := by
    intro k
    induction k with
    | zero => intro x0 x1 x2 x3 hf; exact absurd hf (hz x0 x1 x2 x3)
    | succ k ih => intro x0 x1 x2 x3 hf; exact VLp.succ (h k ih x0 x1 x2 x3 hf)
  exact fun a w hi => wp_loop_rounds k (key k x0 x1 x2 x3 hf a w (hi.le hl))
theorem VC.stop0 {E : Env} {P : Program} {Q : Exit → Act → World → Prop} {s : St}  {c1 : Code} (I : St) (F : Prop) (hx : VC P E c1 (Exit.then (fun a w => F ∧ Inv E (I) a w) Q) s) (hy : F → VN E Q (I)) : VC P E c1 Q s :=
  fun a w hi => Code.wp_mono (fun e a w h => by
    cases e <;> first | exact h | (obtain ⟨hf, hi⟩ := h; exact hy  hf a w hi)) (hx a w hi)
theorem VC.stop1 {E : Env} {P : Program} {Q : Exit → Act → World → Prop} {s : St} {α0 : Type} {c1 : Code} (I : α0 → St) (F : α0 → Prop) (hx : VC P E c1 (Exit.then (fun a w => ∃ (x0 : α0), F x0 ∧ Inv E (I x0) a w) Q) s) (hy : ∀ (x0 : α0), F x0 → VN E Q (I x0)) : VC P E c1 Q s :=
  fun a w hi => Code.wp_mono (fun e a w h => by
    cases e <;> first | exact h | (obtain ⟨x0, hf, hi⟩ := h; exact hy x0 hf a w hi)) (hx a w hi)
theorem TI33 : TI Try.prog 33 true 6 := ⟨⟨_, Try.underlying33, rfl⟩, by kernel_rfl⟩
theorem Z33 : (Try.prog.info? 33).bind (·.zero) = some (.agg #[.string (⟨#[]⟩ : ByteArray), .int .i64 0, .int .i64 0, .int .i64 0, .int .i64 0, .int .i64 0]) := by kernel_rfl
theorem TI9 : TI Try.prog 9 false 1 := ⟨⟨_, Try.underlying9, rfl⟩, by kernel_rfl⟩
theorem FI33_0 : FI Try.prog 33 0 0 1 := ⟨_, _, _, Try.underlying33, rfl, rfl, TI9⟩
theorem EI33 : EI Try.prog 33 6 56 := ei_of (z := .agg #[.string (⟨#[]⟩ : ByteArray), .int .i64 0, .int .i64 0, .int .i64 0, .int .i64 0, .int .i64 0]) (by kernel_rfl) rfl (by decide) (by decide)
theorem FO11 : FOk Try.prog 11 := ⟨_, Try.func11, by kernel_rfl, by kernel_rfl⟩
theorem TI3 : TI Try.prog 3 false 1 := ⟨⟨_, Try.underlying3, rfl⟩, by kernel_rfl⟩
theorem FI33_1 : FI Try.prog 33 1 1 1 := ⟨_, _, _, Try.underlying33, rfl, rfl, TI3⟩
theorem FI33_2 : FI Try.prog 33 2 2 1 := ⟨_, _, _, Try.underlying33, rfl, rfl, TI3⟩
theorem FI33_3 : FI Try.prog 33 3 3 1 := ⟨_, _, _, Try.underlying33, rfl, rfl, TI3⟩
theorem FI33_4 : FI Try.prog 33 4 4 1 := ⟨_, _, _, Try.underlying33, rfl, rfl, TI3⟩
theorem FI33_5 : FI Try.prog 33 5 5 1 := ⟨_, _, _, Try.underlying33, rfl, rfl, TI3⟩
theorem Z3 : (Try.prog.info? 3).bind (·.zero) = some (.int .i64 0) := by kernel_rfl
theorem Z9 : (Try.prog.info? 9).bind (·.zero) = some (.string (⟨#[]⟩ : ByteArray)) := by kernel_rfl
theorem TI60 : TI Try.prog 60 false 1 := ⟨⟨_, Try.underlying60, rfl⟩, by kernel_rfl⟩
theorem TI61 : TI Try.prog 61 false 1 := ⟨⟨_, Try.underlying61, rfl⟩, by kernel_rfl⟩
theorem Z63 : (Try.prog.info? 63).bind (·.zero) = some (.agg #[.slice none 0 0, .slice none 0 0]) := by kernel_rfl
theorem SI63 : SI Try.prog 63 [.slice none 0 0, .slice none 0 0] [(0, 1), (1, 1)] := ⟨⟨_, Try.underlying63, (.cons ⟨rfl, _, TI60⟩ (.cons ⟨rfl, _, TI61⟩ .nil))⟩, Z63⟩
theorem FI63_1 : FI Try.prog 63 1 1 1 := ⟨_, _, _, Try.underlying63, rfl, rfl, TI61⟩
theorem TI72 : TI Try.prog 72 true 5 := ⟨⟨_, Try.underlying72, rfl⟩, by kernel_rfl⟩
theorem Z72 : (Try.prog.info? 72).bind (·.zero) = some (.agg #[.string (⟨#[]⟩ : ByteArray), .string (⟨#[]⟩ : ByteArray), .int .i64 0, .int .i64 0, .int .i64 0]) := by kernel_rfl
theorem FI72_0 : FI Try.prog 72 0 0 1 := ⟨_, _, _, Try.underlying72, rfl, rfl, TI9⟩
theorem FI72_1 : FI Try.prog 72 1 1 1 := ⟨_, _, _, Try.underlying72, rfl, rfl, TI9⟩
theorem FO47 : FOk Try.prog 47 := ⟨_, Try.func47, by kernel_rfl, by kernel_rfl⟩
theorem FO59 : FOk Try.prog 59 := ⟨_, Try.func59, by kernel_rfl, by kernel_rfl⟩
theorem FO46 : FOk Try.prog 46 := ⟨_, Try.func46, by kernel_rfl, by kernel_rfl⟩
theorem TI5 : TI Try.prog 5 false 1 := ⟨⟨_, Try.underlying5, rfl⟩, by kernel_rfl⟩
theorem FO63 : FOk Try.prog 63 := ⟨_, Try.func63, by kernel_rfl, by kernel_rfl⟩
theorem FO69 : FOk Try.prog 69 := ⟨_, Try.func69, by kernel_rfl, by kernel_rfl⟩
theorem FO64 : FOk Try.prog 64 := ⟨_, Try.func64, by kernel_rfl, by kernel_rfl⟩
theorem FO52 : FOk Try.prog 52 := ⟨_, Try.func52, by kernel_rfl, by kernel_rfl⟩
theorem FI72_2 : FI Try.prog 72 2 2 1 := ⟨_, _, _, Try.underlying72, rfl, rfl, TI3⟩
theorem FO60 : FOk Try.prog 60 := ⟨_, Try.func60, by kernel_rfl, by kernel_rfl⟩
theorem FI72_3 : FI Try.prog 72 3 3 1 := ⟨_, _, _, Try.underlying72, rfl, rfl, TI3⟩
theorem FI72_4 : FI Try.prog 72 4 4 1 := ⟨_, _, _, Try.underlying72, rfl, rfl, TI3⟩
theorem FO48 : FOk Try.prog 48 := ⟨_, Try.func48, by kernel_rfl, by kernel_rfl⟩
theorem FI63_0 : FI Try.prog 63 0 0 1 := ⟨_, _, _, Try.underlying63, rfl, rfl, TI60⟩
theorem FO61 : FOk Try.prog 61 := ⟨_, Try.func61, by kernel_rfl, by kernel_rfl⟩
theorem FO49 : FOk Try.prog 49 := ⟨_, Try.func49, by kernel_rfl, by kernel_rfl⟩
theorem FO51 : FOk Try.prog 51 := ⟨_, Try.func51, by kernel_rfl, by kernel_rfl⟩
theorem FO62 : FOk Try.prog 62 := ⟨_, Try.func62, by kernel_rfl, by kernel_rfl⟩
theorem FO50 : FOk Try.prog 50 := ⟨_, Try.func50, by kernel_rfl, by kernel_rfl⟩
theorem FO56 : FOk Try.prog 56 := ⟨_, Try.func56, by kernel_rfl, by kernel_rfl⟩
theorem FO41 : FOk Try.prog 41 := ⟨_, Try.func41, by kernel_rfl, by kernel_rfl⟩
theorem FO53 : FOk Try.prog 53 := ⟨_, Try.func53, by kernel_rfl, by kernel_rfl⟩
theorem FO70 : FOk Try.prog 70 := ⟨_, Try.func70, by kernel_rfl, by kernel_rfl⟩
theorem FO66 : FOk Try.prog 66 := ⟨_, Try.func66, by kernel_rfl, by kernel_rfl⟩
theorem FO65 : FOk Try.prog 65 := ⟨_, Try.func65, by kernel_rfl, by kernel_rfl⟩
theorem FO55 : FOk Try.prog 55 := ⟨_, Try.func55, by kernel_rfl, by kernel_rfl⟩
theorem FO54 : FOk Try.prog 54 := ⟨_, Try.func54, by kernel_rfl, by kernel_rfl⟩
theorem FO38 : FOk Try.prog 38 := ⟨_, Try.func38, by kernel_rfl, by kernel_rfl⟩
theorem FO23 : FOk Try.prog 23 := ⟨_, Try.func23, by kernel_rfl, by kernel_rfl⟩
theorem FO22 : FOk Try.prog 22 := ⟨_, Try.func22, by kernel_rfl, by kernel_rfl⟩
theorem FO44 : FOk Try.prog 44 := ⟨_, Try.func44, by kernel_rfl, by kernel_rfl⟩
theorem FO58 : FOk Try.prog 58 := ⟨_, Try.func58, by kernel_rfl, by kernel_rfl⟩
theorem FO45 : FOk Try.prog 45 := ⟨_, Try.func45, by kernel_rfl, by kernel_rfl⟩
theorem FO27 : FOk Try.prog 27 := ⟨_, Try.func27, by kernel_rfl, by kernel_rfl⟩
theorem FO9 : FOk Try.prog 9 := ⟨_, Try.func9, by kernel_rfl, by kernel_rfl⟩
theorem SI33 : SI Try.prog 33 [.string (⟨#[]⟩ : ByteArray), .int .i64 0, .int .i64 0, .int .i64 0, .int .i64 0, .int .i64 0] [(0, 1), (1, 1), (2, 1), (3, 1), (4, 1), (5, 1)] := ⟨⟨_, Try.underlying33, (.cons ⟨rfl, _, TI9⟩ (.cons ⟨rfl, _, TI3⟩ (.cons ⟨rfl, _, TI3⟩ (.cons ⟨rfl, _, TI3⟩ (.cons ⟨rfl, _, TI3⟩ (.cons ⟨rfl, _, TI3⟩ .nil))))))⟩, Z33⟩
theorem FO40 : FOk Try.prog 40 := ⟨_, Try.func40, by kernel_rfl, by kernel_rfl⟩
theorem FO39 : FOk Try.prog 39 := ⟨_, Try.func39, by kernel_rfl, by kernel_rfl⟩
theorem FO24 : FOk Try.prog 24 := ⟨_, Try.func24, by kernel_rfl, by kernel_rfl⟩
theorem FO14 : FOk Try.prog 14 := ⟨_, Try.func14, by kernel_rfl, by kernel_rfl⟩
theorem FO25 : FOk Try.prog 25 := ⟨_, Try.func25, by kernel_rfl, by kernel_rfl⟩
theorem FO26 : FOk Try.prog 26 := ⟨_, Try.func26, by kernel_rfl, by kernel_rfl⟩
theorem FO8 : FOk Try.prog 8 := ⟨_, Try.func8, by kernel_rfl, by kernel_rfl⟩
theorem Z43 : (Try.prog.info? 43).bind (·.zero) = some (.agg #[.slice none 0 0, .int .i64 0]) := by kernel_rfl
theorem FO33 : FOk Try.prog 33 := ⟨_, Try.func33, by kernel_rfl, by kernel_rfl⟩
theorem FO36 : FOk Try.prog 36 := ⟨_, Try.func36, by kernel_rfl, by kernel_rfl⟩
theorem FO35 : FOk Try.prog 35 := ⟨_, Try.func35, by kernel_rfl, by kernel_rfl⟩
theorem FO18 : FOk Try.prog 18 := ⟨_, Try.func18, by kernel_rfl, by kernel_rfl⟩
theorem FO32 : FOk Try.prog 32 := ⟨_, Try.func32, by kernel_rfl, by kernel_rfl⟩
theorem TI23 : TI Try.prog 23 false 1 := ⟨⟨_, Try.underlying23, rfl⟩, by kernel_rfl⟩
theorem TI27 : TI Try.prog 27 false 1 := ⟨⟨_, Try.underlying27, rfl⟩, by kernel_rfl⟩
theorem SI43 : SI Try.prog 43 [.slice none 0 0, .int .i64 0] [(0, 1), (1, 1)] := ⟨⟨_, Try.underlying43, (.cons ⟨rfl, _, TI23⟩ (.cons ⟨rfl, _, TI27⟩ .nil))⟩, Z43⟩
theorem TI43 : TI Try.prog 43 true 2 := ⟨⟨_, Try.underlying43, rfl⟩, by kernel_rfl⟩
theorem FO20 : FOk Try.prog 20 := ⟨_, Try.func20, by kernel_rfl, by kernel_rfl⟩
theorem FO34 : FOk Try.prog 34 := ⟨_, Try.func34, by kernel_rfl, by kernel_rfl⟩
theorem FO17 : FOk Try.prog 17 := ⟨_, Try.func17, by kernel_rfl, by kernel_rfl⟩
theorem FI43_1 : FI Try.prog 43 1 1 1 := ⟨_, _, _, Try.underlying43, rfl, rfl, TI27⟩
theorem FI43_0 : FI Try.prog 43 0 0 1 := ⟨_, _, _, Try.underlying43, rfl, rfl, TI23⟩
theorem EQ33 (a0 : ByteArray) (a1 : Int) (a2 : Int) (a3 : Int) (a4 : Int) (a5 : Int) (b0 : ByteArray) (b1 : Int) (b2 : Int) (b3 : Int) (b4 : Int) (b5 : Int) : EqV Try.prog 10000 33 (.agg #[.string a0, .int .i64 a1, .int .i64 a2, .int .i64 a3, .int .i64 a4, .int .i64 a5]) (.agg #[.string b0, .int .i64 b1, .int .i64 b2, .int .i64 b3, .int .i64 b4, .int .i64 b5]) ((a0 == b0) && ((a1 == b1) && ((a2 == b2) && ((a3 == b3) && ((a4 == b4) && (a5 == b5)))))) := (.struct Try.underlying33 (by kernel_rfl) (.cons (by decide) TI9 (fun _ => rfl) rfl rfl rfl rfl (.string Try.underlying9) (.cons (by decide) TI3 (fun _ => rfl) rfl rfl rfl rfl (.int Try.underlying3) (.cons (by decide) TI3 (fun _ => rfl) rfl rfl rfl rfl (.int Try.underlying3) (.cons (by decide) TI3 (fun _ => rfl) rfl rfl rfl rfl (.int Try.underlying3) (.cons (by decide) TI3 (fun _ => rfl) rfl rfl rfl rfl (.int Try.underlying3) (.one (by decide) TI3 (fun _ => rfl) rfl rfl rfl rfl (.int Try.underlying3))))))))
theorem EG33 : Try.prog.eqGuardType Try.prog.depth 33 = false := by kernel_rfl
theorem FO12 : FOk Try.prog 12 := ⟨_, Try.func12, by kernel_rfl, by kernel_rfl⟩
theorem FO29 : FOk Try.prog 29 := ⟨_, Try.func29, by kernel_rfl, by kernel_rfl⟩
theorem FO28 : FOk Try.prog 28 := ⟨_, Try.func28, by kernel_rfl, by kernel_rfl⟩
theorem FO13 : FOk Try.prog 13 := ⟨_, Try.func13, by kernel_rfl, by kernel_rfl⟩
theorem FO10 : FOk Try.prog 10 := ⟨_, Try.func10, by kernel_rfl, by kernel_rfl⟩
theorem FO30 : FOk Try.prog 30 := ⟨_, Try.func30, by kernel_rfl, by kernel_rfl⟩
theorem FO15 : FOk Try.prog 15 := ⟨_, Try.func15, by kernel_rfl, by kernel_rfl⟩
theorem FO31 : FOk Try.prog 31 := ⟨_, Try.func31, by kernel_rfl, by kernel_rfl⟩
theorem FO16 : FOk Try.prog 16 := ⟨_, Try.func16, by kernel_rfl, by kernel_rfl⟩
theorem FO37 : FOk Try.prog 37 := ⟨_, Try.func37, by kernel_rfl, by kernel_rfl⟩
theorem FO21 : FOk Try.prog 21 := ⟨_, Try.func21, by kernel_rfl, by kernel_rfl⟩
theorem FO7 : FOk Try.prog 7 := ⟨_, Try.func7, by kernel_rfl, by kernel_rfl⟩
theorem FO19 : FOk Try.prog 19 := ⟨_, Try.func19, by kernel_rfl, by kernel_rfl⟩
def tarrylaw08_few.l1 (k : Nat) (l0 : List S32) : Nat → (List S32) → Int → Option (List S32)
  | 0, _, _ => none
  | ml1 + 1, l78, i80 => (if i80 < (((l0.take ((mn (l0.length : Int) 10).toNat)).drop 0).length : Int) then (if 0 ≤ i80 then ((((l0.take ((mn (l0.length : Int) 10).toNat)).drop 0)[i80.toNat]?).bind fun x100 => (if 0 ≤ mn (x100.f0.size : Int) 18 then (if (mn (x100.f0.size : Int) 18) ≤ (x100.f0.size : Int) then (if (l78.length + ([(⟨x100.f0.extract 0 ((mn (x100.f0.size : Int) 18).toNat), x100.f1, x100.f2, x100.f3, x100.f4, x100.f5⟩ : S32)] : List S32).length) * 56 ≤ 140737488355328 then (tarrylaw08_few.l1 k l0 ml1 (l78 ++ ([(⟨x100.f0.extract 0 ((mn (x100.f0.size : Int) 18).toNat), x100.f1, x100.f2, x100.f3, x100.f4, x100.f5⟩ : S32)] : List S32)) (wrap64 (i80 + 1))) else none) else none) else none)) else none) else (some l78))
def tarrylaw08_few.f (k : Nat) (l0 : List S32) : Option (List S32) := (if 0 ≤ mn (l0.length : Int) 10 then (if (mn (l0.length : Int) 10) ≤ (l0.length : Int) then (tarrylaw08_few.l1 k l0 k ([] : List S32) 0) else none) else none)
def goods_Right_1.f (a0_0 : ByteArray) (a0_1 : ByteArray) (a0_2 : Int) (a0_3 : Int) (a0_4 : Int) (a1_0 : ByteArray) (a1_1 : ByteArray) (a1_2 : Int) (a1_3 : Int) (a1_4 : Int) : Option (Bool) := (if (a0_0 == a1_0) = true then (some (a0_1 == a1_1)) else (some false))
def slices_IndexFunc_api_Sub_api_Sub.l1 (k : Nat) (a1_0_0 : ByteArray) (a1_0_1 : ByteArray) (a1_0_2 : Int) (a1_0_3 : Int) (a1_0_4 : Int) (l0 : List S71) : Nat → Int → Option (Int)
  | 0, _ => none
  | ml1 + 1, i219 => (if i219 < (l0.length : Int) then (if 0 ≤ i219 then ((l0[i219.toNat]?).bind fun x248 => ((goods_Right_1.f x248.f0 x248.f1 x248.f2 x248.f3 x248.f4 a1_0_0 a1_0_1 a1_0_2 a1_0_3 a1_0_4).bind fun t251 => (if t251 = true then (some i219) else (slices_IndexFunc_api_Sub_api_Sub.l1 k a1_0_0 a1_0_1 a1_0_2 a1_0_3 a1_0_4 l0 ml1 (wrap64 (i219 + 1)))))) else none) else (some (-1)))
def slices_IndexFunc_api_Sub_api_Sub.f (k : Nat) (l0 : List S71) (a1_0_0 : ByteArray) (a1_0_1 : ByteArray) (a1_0_2 : Int) (a1_0_3 : Int) (a1_0_4 : Int) : Option (Int) := (slices_IndexFunc_api_Sub_api_Sub.l1 k a1_0_0 a1_0_1 a1_0_2 a1_0_3 a1_0_4 l0 k 0)
def slices_ContainsFunc_api_Sub_api_Sub.f (k : Nat) (l0 : List S71) (a1_0_0 : ByteArray) (a1_0_1 : ByteArray) (a1_0_2 : Int) (a1_0_3 : Int) (a1_0_4 : Int) : Option (Bool) := ((slices_IndexFunc_api_Sub_api_Sub.f k l0 a1_0_0 a1_0_1 a1_0_2 a1_0_3 a1_0_4).bind fun t254 => (some (decide (t254 ≥ 0))))
def goods_name_1.f (a0 : Int) : Option (Bool) := (if a0 < 97 then (if a0 < 48 then (some true) else (some (decide (a0 > 57)))) else (if a0 > 122 then (if a0 < 48 then (some true) else (some (decide (a0 > 57)))) else (some false)))
def slices_IndexFunc_byte_byte.l1 (k : Nat) (l0 : List Int) : Nat → Int → Option (Int)
  | 0, _ => none
  | ml1 + 1, i355 => (if i355 < (l0.length : Int) then (if 0 ≤ i355 then ((l0[i355.toNat]?).bind fun x384 => ((goods_name_1.f x384).bind fun t387 => (if t387 = true then (some i355) else (slices_IndexFunc_byte_byte.l1 k l0 ml1 (wrap64 (i355 + 1)))))) else none) else (some (-1)))
def slices_IndexFunc_byte_byte.f (k : Nat) (l0 : List Int) : Option (Int) := (slices_IndexFunc_byte_byte.l1 k l0 k 0)
def slices_ContainsFunc_byte_byte.f (k : Nat) (l0 : List Int) : Option (Bool) := ((slices_IndexFunc_byte_byte.f k l0).bind fun t390 => (some (decide (t390 ≥ 0))))
def goods_name.f (k : Nat) (a0 : ByteArray) : Option (Bool) := (if (a0 == (⟨#[]⟩ : ByteArray)) = true then (some false) else (if (a0.size : Int) ≤ 16 then (if a0.size ≤ 140737488355328 then ((slices_ContainsFunc_byte_byte.f k (byI a0)).bind fun t403 => (if t403 = true then (some false) else (some true))) else none) else (some false)))
def goods_in.f (a0 : Int) (a1 : Int) : Option (Bool) := (if a0 ≥ 1 then (some (decide (a0 ≤ a1))) else (some false))
def goods_may.f (k : Nat) (a0_0 : ByteArray) (a0_1 : ByteArray) (a0_2 : Int) (a0_3 : Int) (a0_4 : Int) : Option (Bool) := ((goods_name.f k a0_0).bind fun t428 => (if t428 = true then ((goods_name.f k a0_1).bind fun t431 => (if t431 = true then (if (a0_0 == a0_1) = true then (some false) else ((goods_in.f a0_2 9).bind fun t436 => (if t436 = true then ((goods_in.f a0_3 100).bind fun t439 => (if t439 = true then ((goods_in.f a0_4 100).bind fun t442 => (some t442)) else (some false))) else (some false)))) else (some false))) else (some false)))
def slices_Index_string_string.l1 (k : Nat) (a1 : ByteArray) (l0 : List ByteArray) : Nat → Int → Option (Int)
  | 0, _ => none
  | ml1 + 1, i506 => (if i506 < (l0.length : Int) then (if 0 ≤ i506 then ((l0[i506.toNat]?).bind fun x532 => (if (a1 == x532) = true then (some i506) else (slices_Index_string_string.l1 k a1 l0 ml1 (wrap64 (i506 + 1))))) else none) else (some (-1)))
def slices_Index_string_string.f (k : Nat) (l0 : List ByteArray) (a1 : ByteArray) : Option (Int) := (slices_Index_string_string.l1 k a1 l0 k 0)
def slices_Contains_string_string.f (k : Nat) (l0 : List ByteArray) (a1 : ByteArray) : Option (Bool) := ((slices_Index_string_string.f k l0 a1).bind fun t537 => (some (decide (t537 ≥ 0))))
def goods_Right_2.f (k : Nat) (a0 : ByteArray) : Option (Bool) := ((goods_name.f k a0).bind fun t850 => (if t850 = true then (some false) else (some true)))
def slices_IndexFunc_string_string.l1 (k : Nat) (l0 : List ByteArray) : Nat → Int → Option (Int)
  | 0, _ => none
  | ml1 + 1, i912 => (if i912 < (l0.length : Int) then (if 0 ≤ i912 then ((l0[i912.toNat]?).bind fun x941 => ((goods_Right_2.f k x941).bind fun t944 => (if t944 = true then (some i912) else (slices_IndexFunc_string_string.l1 k l0 ml1 (wrap64 (i912 + 1)))))) else none) else (some (-1)))
def slices_IndexFunc_string_string.f (k : Nat) (l0 : List ByteArray) : Option (Int) := (slices_IndexFunc_string_string.l1 k l0 k 0)
def slices_ContainsFunc_string_string.f (k : Nat) (l0 : List ByteArray) : Option (Bool) := ((slices_IndexFunc_string_string.f k l0).bind fun t947 => (some (decide (t947 ≥ 0))))
def internal_bytealg_CompareString.f (a0 : ByteArray) (a1 : ByteArray) : Option (Int) := (some (Lib.compareBytes a0.data.toList a1.data.toList))
def strings_Compare.f (a0 : ByteArray) (a1 : ByteArray) : Option (Int) := ((internal_bytealg_CompareString.f a0 a1).bind fun t966 => (some t966))
def goods_rising_string.l1 (k : Nat) (a1 : Int) (l0 : List ByteArray) : Nat → Int → Option (Bool)
  | 0, _ => none
  | ml1 + 1, i1038 => (if i1038 < (l0.length : Int) then (if 0 ≤ wrap64 (i1038 - 1) then ((l0[(wrap64 (i1038 - 1)).toNat]?).bind fun x1073 => (if 0 ≤ i1038 then ((l0[i1038.toNat]?).bind fun x1075 => ((strings_Compare.f x1073 x1075).bind fun t1076 => (if t1076 ≥ 0 then (some false) else (goods_rising_string.l1 k a1 l0 ml1 (wrap64 (i1038 + 1)))))) else none)) else none) else (some (decide ((l0.length : Int) ≤ a1))))
def goods_rising_string.f (k : Nat) (l0 : List ByteArray) (a1 : Int) : Option (Bool) := (goods_rising_string.l1 k a1 l0 k 1)
def cmp_isNaN_int.f (a0 : Int) : Option (Bool) := (some (a0 != a0))
def cmp_Compare_int.f (a0 : Int) (a1 : Int) : Option (Int) := ((cmp_isNaN_int.f a0).bind fun t1099 => ((cmp_isNaN_int.f a1).bind fun t1101 => (if t1099 = true then (if t1101 = true then (some 0) else (some (-1))) else (if t1101 = true then (some 1) else (if a0 < a1 then (some (-1)) else (if a0 > a1 then (some 1) else (some 0)))))))
def cmp_Or_int.l1 (k : Nat) (l0 : List Int) : Nat → Int → Option (Int)
  | 0, _ => none
  | ml1 + 1, i1181 => (if i1181 < (l0.length : Int) then (if 0 ≤ i1181 then ((l0[i1181.toNat]?).bind fun x1207 => (if x1207 = 0 then (cmp_Or_int.l1 k l0 ml1 (wrap64 (i1181 + 1))) else (some x1207))) else none) else (some 0))
def cmp_Or_int.f (k : Nat) (l0 : List Int) : Option (Int) := (cmp_Or_int.l1 k l0 k 0)
def goods_compare.f (k : Nat) (a0_0 : ByteArray) (a0_1 : ByteArray) (a0_2 : Int) (a0_3 : Int) (a0_4 : Int) (a1_0 : ByteArray) (a1_1 : ByteArray) (a1_2 : Int) (a1_3 : Int) (a1_4 : Int) : Option (Int) := ((strings_Compare.f a0_0 a1_0).bind fun t1096 => ((cmp_Compare_int.f a0_2 a1_2).bind fun t1119 => ((cmp_Or_int.f k ([t1096, t1119] : List Int)).bind fun t1212 => (some t1212))))
def goods_rising_Sub.l1 (k : Nat) (a1 : Int) (l0 : List S71) : Nat → Int → Option (Bool)
  | 0, _ => none
  | ml1 + 1, i1284 => (if i1284 < (l0.length : Int) then (if 0 ≤ wrap64 (i1284 - 1) then ((l0[(wrap64 (i1284 - 1)).toNat]?).bind fun x1319 => (if 0 ≤ i1284 then ((l0[i1284.toNat]?).bind fun x1321 => ((goods_compare.f k x1319.f0 x1319.f1 x1319.f2 x1319.f3 x1319.f4 x1321.f0 x1321.f1 x1321.f2 x1321.f3 x1321.f4).bind fun t1322 => (if t1322 ≥ 0 then (some false) else (goods_rising_Sub.l1 k a1 l0 ml1 (wrap64 (i1284 + 1)))))) else none)) else none) else (some (decide ((l0.length : Int) ≤ a1))))
def goods_rising_Sub.f (k : Nat) (l0 : List S71) (a1 : Int) : Option (Bool) := (goods_rising_Sub.l1 k a1 l0 k 1)
def goods_Right.l1 (k : Nat) (l0_0 : List ByteArray) (l0_1 : List S71) : Nat → Int → Option (Bool)
  | 0, _ => none
  | ml1 + 1, i773 => (if i773 < (l0_1.length : Int) then (if 0 ≤ i773 then ((l0_1[i773.toNat]?).bind fun x1366 => (if i773 ≤ (l0_1.length : Int) then ((slices_ContainsFunc_api_Sub_api_Sub.f k ((l0_1.take i773.toNat).drop 0) x1366.f0 x1366.f1 x1366.f2 x1366.f3 x1366.f4).bind fun t1373 => (if t1373 = true then (some false) else ((goods_may.f k x1366.f0 x1366.f1 x1366.f2 x1366.f3 x1366.f4).bind fun t1386 => (if t1386 = true then ((slices_Contains_string_string.f k l0_0 x1366.f0).bind fun t1389 => (if t1389 = true then ((slices_Contains_string_string.f k l0_0 x1366.f1).bind fun t1392 => (if t1392 = true then (goods_Right.l1 k l0_0 l0_1 ml1 (wrap64 (i773 + 1))) else (some false))) else (some false))) else (some false))))) else none)) else none) else ((slices_ContainsFunc_string_string.f k l0_0).bind fun t1398 => (if t1398 = true then (some false) else ((goods_rising_string.f k l0_0 8).bind fun t1406 => (if t1406 = true then ((goods_rising_Sub.f k l0_1 16).bind fun t1409 => (some t1409)) else (some false))))))
def goods_Right.f (k : Nat) (l0_0 : List ByteArray) (l0_1 : List S71) : Option (Bool) := (goods_Right.l1 k l0_0 l0_1 k 0)
def stock_name.f (k : Nat) (a0 : ByteArray) : Option (Bool) := ((goods_Right.f k ([a0] : List ByteArray) []).bind fun t1412 => (some t1412))
def stock_units.f (a0 : Int) : Option (Bool) := (if a0 ≥ 1 then (some (decide (a0 ≤ 1073741824))) else (some false))
def stock_may_1.f (a0 : Int) : Option (Bool) := (if a0 = 0 then (some false) else ((stock_units.f a0).bind fun t1438 => (if t1438 = true then (some false) else (some true))))
def slices_IndexFunc_int_int.l1 (k : Nat) (l0 : List Int) : Nat → Int → Option (Int)
  | 0, _ => none
  | ml1 + 1, i1500 => (if i1500 < (l0.length : Int) then (if 0 ≤ i1500 then ((l0[i1500.toNat]?).bind fun x1529 => ((stock_may_1.f x1529).bind fun t1532 => (if t1532 = true then (some i1500) else (slices_IndexFunc_int_int.l1 k l0 ml1 (wrap64 (i1500 + 1)))))) else none) else (some (-1)))
def slices_IndexFunc_int_int.f (k : Nat) (l0 : List Int) : Option (Int) := (slices_IndexFunc_int_int.l1 k l0 k 0)
def slices_ContainsFunc_int_int.f (k : Nat) (l0 : List Int) : Option (Bool) := ((slices_IndexFunc_int_int.f k l0).bind fun t1535 => (some (decide (t1535 ≥ 0))))
def stock_may.f (k : Nat) (a0_0 : ByteArray) (a0_1 : Int) (a0_2 : Int) (a0_3 : Int) (a0_4 : Int) (a0_5 : Int) : Option (Bool) := ((stock_name.f k a0_0).bind fun t1542 => (if t1542 = true then ((slices_ContainsFunc_int_int.f k ([a0_1, a0_2, a0_3, a0_4, a0_5] : List Int)).bind fun t1545 => (if t1545 = true then (some false) else (some (a0_1 == (wrap64 ((wrap64 ((wrap64 (a0_2 + a0_3)) + a0_4)) + a0_5)))))) else (some false)))
def stock_Right.l1 (k : Nat) (l0 : List S32) : Nat → Int → Option (Bool)
  | 0, _ => none
  | ml1 + 1, i1639 => (if i1639 < (l0.length : Int) then (if 0 ≤ i1639 then ((l0[i1639.toNat]?).bind fun x1690 => ((stock_may.f k x1690.f0 x1690.f1 x1690.f2 x1690.f3 x1690.f4 x1690.f5).bind fun t1694 => (if t1694 = true then (if i1639 > 0 then (if 0 ≤ wrap64 (i1639 - 1) then ((l0[(wrap64 (i1639 - 1)).toNat]?).bind fun x1700 => (if (!Op.bytesLess x1700.f0.toList x1690.f0.toList) = true then (some false) else (stock_Right.l1 k l0 ml1 (wrap64 (i1639 + 1))))) else none) else (stock_Right.l1 k l0 ml1 (wrap64 (i1639 + 1)))) else (some false)))) else none) else (some (decide ((l0.length : Int) ≤ 8))))
def stock_Right.f (k : Nat) (l0 : List S32) : Option (Bool) := (stock_Right.l1 k l0 k 0)
def stock_at_1.f (a0_0 : ByteArray) (a0_1 : Int) (a0_2 : Int) (a0_3 : Int) (a0_4 : Int) (a0_5 : Int) (a1 : ByteArray) : Option (Int) := ((strings_Compare.f a0_0 a1).bind fun t1727 => (some t1727))
def slices_BinarySearchFunc_api_Row_api_Row_string.l1 (k : Nat) (a1 : ByteArray) (l0 : List S32) : Nat → Int → Int → Option (Int × Bool)
  | 0, _, _ => none
  | ml1 + 1, i1771, i1772 => (if i1771 < i1772 then (if 0 ≤ wrap64 ((IntKind.u64.wrap (wrap64 (i1771 + i1772))).fdiv (2 ^ min (1 : Int).toNat IntKind.u64.bits)) then ((l0[(wrap64 ((IntKind.u64.wrap (wrap64 (i1771 + i1772))).fdiv (2 ^ min (1 : Int).toNat IntKind.u64.bits))).toNat]?).bind fun x1808 => ((stock_at_1.f x1808.f0 x1808.f1 x1808.f2 x1808.f3 x1808.f4 x1808.f5 a1).bind fun t1811 => (if t1811 < 0 then (slices_BinarySearchFunc_api_Row_api_Row_string.l1 k a1 l0 ml1 (wrap64 ((wrap64 ((IntKind.u64.wrap (wrap64 (i1771 + i1772))).fdiv (2 ^ min (1 : Int).toNat IntKind.u64.bits))) + 1)) i1772) else (slices_BinarySearchFunc_api_Row_api_Row_string.l1 k a1 l0 ml1 i1771 (wrap64 ((IntKind.u64.wrap (wrap64 (i1771 + i1772))).fdiv (2 ^ min (1 : Int).toNat IntKind.u64.bits))))))) else none) else (if i1771 < (l0.length : Int) then (if 0 ≤ i1771 then ((l0[i1771.toNat]?).bind fun x1827 => ((stock_at_1.f x1827.f0 x1827.f1 x1827.f2 x1827.f3 x1827.f4 x1827.f5 a1).bind fun t1830 => (some (i1771, (t1830 == 0))))) else none) else (some (i1771, false))))
def slices_BinarySearchFunc_api_Row_api_Row_string.f (k : Nat) (l0 : List S32) (a1 : ByteArray) : Option (Int × Bool) := (slices_BinarySearchFunc_api_Row_api_Row_string.l1 k a1 l0 k 0 (l0.length : Int))
def stock_at.f (k : Nat) (l0 : List S32) (a1 : ByteArray) : Option (Int × Bool) := ((slices_BinarySearchFunc_api_Row_api_Row_string.f k l0 a1).bind fun ⟨t1833, t1834⟩ => (some (t1833, t1834)))
def stock_Get.f (k : Nat) (l0 : List S32) (a1 : ByteArray) : Option (ByteArray × Int × Int × Int × Int × Int × Int) := ((stock_Right.f k l0).bind fun t1713 => (if t1713 = true then ((stock_at.f k l0 a1).bind fun ⟨t1836, t1837⟩ => (if t1837 = true then (if 0 ≤ t1836 then ((l0[t1836.toNat]?).bind fun x1844 => (some (x1844.f0, x1844.f1, x1844.f2, x1844.f3, x1844.f4, x1844.f5, 0))) else none) else (some ((⟨#[]⟩ : ByteArray), 0, 0, 0, 0, 0, 8)))) else (some ((⟨#[]⟩ : ByteArray), 0, 0, 0, 0, 0, 1))))
def slices_Clone_api_Row_api_Row.f (l0 : List S32) : Option (List S32) := if l0.length * 56 ≤ 140737488355328 then some l0 else none
def slices_Insert_api_Row_api_Row.f (l0 : List S32) (a1 : Int) (l2 : List S32) : Option (List S32) := if 0 ≤ a1 ∧ a1 ≤ (l0.length : Int) ∧ (l0.length + l2.length) * 56 ≤ 140737488355328 then some (l0.take a1.toNat ++ l2 ++ l0.drop a1.toNat) else none
def stock_Receive.f (k : Nat) (l0 : List S32) (a1 : ByteArray) (a2 : Int) : Option (List S32 × Int) := ((stock_Right.f k l0).bind fun t1887 => (if t1887 = true then ((stock_units.f a2).bind fun t1890 => (if t1890 = true then ((stock_name.f k a1).bind fun t1893 => (if t1893 = true then ((stock_at.f k l0 a1).bind fun ⟨t1896, t1897⟩ => ((slices_Clone_api_Row_api_Row.f l0).bind fun r1917 => (if t1897 = true then (if 0 ≤ t1896 then ((r1917[t1896.toNat]?).bind fun x1931 => (if x1931.f1 > (wrap64 (1073741824 - a2)) then (some (([] : List S32), 2)) else ((r1917[t1896.toNat]?).bind fun x1937 => ((r1917[t1896.toNat]?).bind fun x1938 => (((r1917.set t1896.toNat (⟨x1938.f0, wrap64 (x1937.f1 + a2), x1938.f2, x1938.f3, x1938.f4, x1938.f5⟩ : S32))[t1896.toNat]?).bind fun x1941 => (((r1917.set t1896.toNat (⟨x1938.f0, wrap64 (x1937.f1 + a2), x1938.f2, x1938.f3, x1938.f4, x1938.f5⟩ : S32))[t1896.toNat]?).bind fun x1942 => (some (((r1917.set t1896.toNat (⟨x1938.f0, wrap64 (x1937.f1 + a2), x1938.f2, x1938.f3, x1938.f4, x1938.f5⟩ : S32)).set t1896.toNat (⟨x1942.f0, x1942.f1, wrap64 (x1941.f2 + a2), x1942.f3, x1942.f4, x1942.f5⟩ : S32)), 0)))))))) else none) else (if (r1917.length : Int) = 8 then (some (([] : List S32), 7)) else ((slices_Insert_api_Row_api_Row.f r1917 t1896 ([(⟨a1, 0, 0, 0, 0, 0⟩ : S32)] : List S32)).bind fun r1953 => (if 0 ≤ t1896 then ((r1953[t1896.toNat]?).bind fun x1965 => (if x1965.f1 > (wrap64 (1073741824 - a2)) then (some (([] : List S32), 2)) else ((r1953[t1896.toNat]?).bind fun x1971 => ((r1953[t1896.toNat]?).bind fun x1972 => (((r1953.set t1896.toNat (⟨x1972.f0, wrap64 (x1971.f1 + a2), x1972.f2, x1972.f3, x1972.f4, x1972.f5⟩ : S32))[t1896.toNat]?).bind fun x1975 => (((r1953.set t1896.toNat (⟨x1972.f0, wrap64 (x1971.f1 + a2), x1972.f2, x1972.f3, x1972.f4, x1972.f5⟩ : S32))[t1896.toNat]?).bind fun x1976 => (some (((r1953.set t1896.toNat (⟨x1972.f0, wrap64 (x1971.f1 + a2), x1972.f2, x1972.f3, x1972.f4, x1972.f5⟩ : S32)).set t1896.toNat (⟨x1976.f0, x1976.f1, wrap64 (x1975.f2 + a2), x1976.f3, x1976.f4, x1976.f5⟩ : S32)), 0)))))))) else none)))))) else (some (([] : List S32), 1)))) else (some (([] : List S32), 1)))) else (some (([] : List S32), 1))))
def tarryref07_Name.l1 (k : Nat) (a0 : ByteArray) : Nat → Int → Option (Bool)
  | 0, _ => none
  | ml1 + 1, i2214 => (if i2214 < (a0.size : Int) then (if 0 ≤ i2214 then (if i2214 < (a0.size : Int) then (if (bt a0 i2214) < 97 then (if (bt a0 i2214) < 48 then (some false) else (if (bt a0 i2214) > 57 then (some false) else (tarryref07_Name.l1 k a0 ml1 (wrap64 (i2214 + 1))))) else (if (bt a0 i2214) > 122 then (if (bt a0 i2214) < 48 then (some false) else (if (bt a0 i2214) > 57 then (some false) else (tarryref07_Name.l1 k a0 ml1 (wrap64 (i2214 + 1))))) else (tarryref07_Name.l1 k a0 ml1 (wrap64 (i2214 + 1))))) else none) else none) else (if (a0.size : Int) > 0 then (some (decide ((a0.size : Int) ≤ 16))) else (some false)))
def tarryref07_Name.f (k : Nat) (a0 : ByteArray) : Option (Bool) := (tarryref07_Name.l1 k a0 k 0)
def tarryref08_in.f (a0 : Int) : Option (Bool) := (if a0 ≥ 0 then (some (decide (a0 ≤ 1073741824))) else (some false))
def tarryref07_Less.l1 (k : Nat) (a0 : ByteArray) (a1 : ByteArray) : Nat → Int → Option (Bool)
  | 0, _ => none
  | ml1 + 1, i2544 => (if i2544 < (a0.size : Int) then (if i2544 < (a1.size : Int) then (if 0 ≤ i2544 then (if i2544 < (a0.size : Int) then (if i2544 < (a1.size : Int) then (if (bt a0 i2544) = (bt a1 i2544) then (tarryref07_Less.l1 k a0 a1 ml1 (wrap64 (i2544 + 1))) else (some (decide ((bt a0 i2544) < (bt a1 i2544))))) else none) else none) else none) else (some (decide ((a0.size : Int) < (a1.size : Int))))) else (some (decide ((a0.size : Int) < (a1.size : Int)))))
def tarryref07_Less.f (k : Nat) (a0 : ByteArray) (a1 : ByteArray) : Option (Bool) := (tarryref07_Less.l1 k a0 a1 k 0)
def tarryref08_Right.l1 (k : Nat) (l0 : List S32) : Nat → Int → Option (Bool)
  | 0, _ => none
  | ml1 + 1, i3045 => (if i3045 < (l0.length : Int) then (if 0 ≤ i3045 then ((l0[i3045.toNat]?).bind fun x3327 => ((tarryref07_Name.f k x3327.f0).bind fun t3341 => (if t3341 = true then (if i3045 > 0 then (if 0 ≤ wrap64 (i3045 - 1) then ((l0[(wrap64 (i3045 - 1)).toNat]?).bind fun x3347 => ((tarryref07_Less.f k x3347.f0 x3327.f0).bind fun t3348 => (if t3348 = true then ((tarryref08_in.f x3327.f1).bind fun t3367 => (if t3367 = true then ((tarryref08_in.f x3327.f2).bind fun t3370 => (if t3370 = true then ((tarryref08_in.f x3327.f3).bind fun t3373 => (if t3373 = true then ((tarryref08_in.f x3327.f4).bind fun t3376 => (if t3376 = true then ((tarryref08_in.f x3327.f5).bind fun t3379 => (if t3379 = true then (if (wrap64 ((wrap64 ((wrap64 (x3327.f1 - x3327.f2)) - x3327.f3)) - x3327.f4)) = x3327.f5 then (tarryref08_Right.l1 k l0 ml1 (wrap64 (i3045 + 1))) else (some false)) else (some false))) else (some false))) else (some false))) else (some false))) else (some false))) else (some false)))) else none) else ((tarryref08_in.f x3327.f1).bind fun t3400 => (if t3400 = true then ((tarryref08_in.f x3327.f2).bind fun t3403 => (if t3403 = true then ((tarryref08_in.f x3327.f3).bind fun t3406 => (if t3406 = true then ((tarryref08_in.f x3327.f4).bind fun t3409 => (if t3409 = true then ((tarryref08_in.f x3327.f5).bind fun t3412 => (if t3412 = true then (if (wrap64 ((wrap64 ((wrap64 (x3327.f1 - x3327.f2)) - x3327.f3)) - x3327.f4)) = x3327.f5 then (tarryref08_Right.l1 k l0 ml1 (wrap64 (i3045 + 1))) else (some false)) else (some false))) else (some false))) else (some false))) else (some false))) else (some false)))) else (some false)))) else none) else (some (decide ((l0.length : Int) ≤ 8))))
def tarryref08_Right.f (k : Nat) (l0 : List S32) : Option (Bool) := (tarryref08_Right.l1 k l0 k 0)
def tarryref08_units.f (a0 : Int) : Option (Bool) := (if a0 ≥ 1 then (some (decide (a0 ≤ 1073741824))) else (some false))
def tarryref08_Get.l1 (k : Nat) (a1 : ByteArray) (l0 : List S32) : Nat → Int → Option (ByteArray × Int × Int × Int × Int × Int)
  | 0, _ => none
  | ml1 + 1, i3530 => (if i3530 < (l0.length : Int) then (if 0 ≤ i3530 then ((l0[i3530.toNat]?).bind fun x3559 => (if (x3559.f0 == a1) = true then (some (x3559.f0, x3559.f1, x3559.f2, x3559.f3, x3559.f4, x3559.f5)) else (tarryref08_Get.l1 k a1 l0 ml1 (wrap64 (i3530 + 1))))) else none) else (some ((⟨#[]⟩ : ByteArray), 0, 0, 0, 0, 0)))
def tarryref08_Get.f (k : Nat) (l0 : List S32) (a1 : ByteArray) : Option (ByteArray × Int × Int × Int × Int × Int) := (tarryref08_Get.l1 k a1 l0 k 0)
def tarryref08_Set.l1 (k : Nat) (a1_0 : ByteArray) (a1_1 : Int) (a1_2 : Int) (a1_3 : Int) (a1_4 : Int) (a1_5 : Int) (l0 : List S32) : Nat → (List S32) → Bool → Int → Option (List S32)
  | 0, _, _, _ => none
  | ml1 + 1, l3986, q3987, i3988 => (if i3988 < (l0.length : Int) then (if 0 ≤ i3988 then ((l0[i3988.toNat]?).bind fun x4166 => (if q3987 = true then (if (x4166.f0 == a1_0) = true then (tarryref08_Set.l1 k a1_0 a1_1 a1_2 a1_3 a1_4 a1_5 l0 ml1 l3986 true (wrap64 (i3988 + 1))) else (if (l3986.length + ([x4166] : List S32).length) * 56 ≤ 140737488355328 then (tarryref08_Set.l1 k a1_0 a1_1 a1_2 a1_3 a1_4 a1_5 l0 ml1 (l3986 ++ ([x4166] : List S32)) true (wrap64 (i3988 + 1))) else none)) else ((tarryref07_Less.f k x4166.f0 a1_0).bind fun t4195 => (if t4195 = true then (if (x4166.f0 == a1_0) = true then (tarryref08_Set.l1 k a1_0 a1_1 a1_2 a1_3 a1_4 a1_5 l0 ml1 l3986 false (wrap64 (i3988 + 1))) else (if (l3986.length + ([x4166] : List S32).length) * 56 ≤ 140737488355328 then (tarryref08_Set.l1 k a1_0 a1_1 a1_2 a1_3 a1_4 a1_5 l0 ml1 (l3986 ++ ([x4166] : List S32)) false (wrap64 (i3988 + 1))) else none)) else (if (l3986.length + ([(⟨a1_0, a1_1, a1_2, a1_3, a1_4, a1_5⟩ : S32)] : List S32).length) * 56 ≤ 140737488355328 then (if (x4166.f0 == a1_0) = true then (tarryref08_Set.l1 k a1_0 a1_1 a1_2 a1_3 a1_4 a1_5 l0 ml1 (l3986 ++ ([(⟨a1_0, a1_1, a1_2, a1_3, a1_4, a1_5⟩ : S32)] : List S32)) true (wrap64 (i3988 + 1))) else (if ((l3986 ++ ([(⟨a1_0, a1_1, a1_2, a1_3, a1_4, a1_5⟩ : S32)] : List S32)).length + ([x4166] : List S32).length) * 56 ≤ 140737488355328 then (tarryref08_Set.l1 k a1_0 a1_1 a1_2 a1_3 a1_4 a1_5 l0 ml1 ((l3986 ++ ([(⟨a1_0, a1_1, a1_2, a1_3, a1_4, a1_5⟩ : S32)] : List S32)) ++ ([x4166] : List S32)) true (wrap64 (i3988 + 1))) else none)) else none))))) else none) else (if q3987 = true then (some l3986) else (if (l3986.length + ([(⟨a1_0, a1_1, a1_2, a1_3, a1_4, a1_5⟩ : S32)] : List S32).length) * 56 ≤ 140737488355328 then (some (l3986 ++ ([(⟨a1_0, a1_1, a1_2, a1_3, a1_4, a1_5⟩ : S32)] : List S32))) else none)))
def tarryref08_Set.f (k : Nat) (l0 : List S32) (a1_0 : ByteArray) (a1_1 : Int) (a1_2 : Int) (a1_3 : Int) (a1_4 : Int) (a1_5 : Int) : Option (List S32) := (tarryref08_Set.l1 k a1_0 a1_1 a1_2 a1_3 a1_4 a1_5 l0 k ([] : List S32) false 0)
def tarryref08_Receive.f (k : Nat) (l0 : List S32) (a1 : ByteArray) (a2 : Int) : Option (List S32 × Int) := ((tarryref08_Right.f k l0).bind fun t3454 => (if t3454 = true then ((tarryref08_units.f a2).bind fun t3457 => (if t3457 = true then ((tarryref07_Name.f k a1).bind fun t3460 => (if t3460 = true then ((tarryref08_Get.f k l0 a1).bind fun ⟨t3565, t3566, t3567, t3568, t3569, t3570⟩ => (if (t3565 == (⟨#[]⟩ : ByteArray)) = true then (if (l0.length : Int) = 8 then (some (([] : List S32), 7)) else (if (wrap64 (t3566 + a2)) > 1073741824 then (some (([] : List S32), 2)) else ((tarryref08_Set.f k l0 a1 (wrap64 (t3566 + a2)) (wrap64 (t3567 + a2)) t3568 t3569 t3570).bind fun r4231 => (some (r4231, 0))))) else (if (wrap64 (t3566 + a2)) > 1073741824 then (some (([] : List S32), 2)) else ((tarryref08_Set.f k l0 a1 (wrap64 (t3566 + a2)) (wrap64 (t3567 + a2)) t3568 t3569 t3570).bind fun r4241 => (some (r4241, 0)))))) else (some (([] : List S32), 1)))) else (some (([] : List S32), 1)))) else (some (([] : List S32), 1))))
def tarryref08_Same.l1 (k : Nat) (l0 : List S32) (l1 : List S32) : Nat → Int → Option (Bool)
  | 0, _ => none
  | ml1 + 1, i4321 => (if i4321 < (l0.length : Int) then (if 0 ≤ i4321 then ((l0[i4321.toNat]?).bind fun x4344 => ((l1[i4321.toNat]?).bind fun x4345 => (if (((x4344.f0 == x4345.f0) && ((x4344.f1 == x4345.f1) && ((x4344.f2 == x4345.f2) && ((x4344.f3 == x4345.f3) && ((x4344.f4 == x4345.f4) && (x4344.f5 == x4345.f5))))))) = true then (tarryref08_Same.l1 k l0 l1 ml1 (wrap64 (i4321 + 1))) else (some false)))) else none) else (some true))
def tarryref08_Same.f (k : Nat) (l0 : List S32) (l1 : List S32) : Option (Bool) := (if (l0.length : Int) = (l1.length : Int) then (tarryref08_Same.l1 k l0 l1 k 0) else (some false))
def stock_Hold_1.f  : Option (Unit) := (some ())
def stock_move.f (k : Nat) (l0 : List S32) (a1 : ByteArray) (a2 : Int) : Option (List S32 × Int) := ((stock_Right.f k l0).bind fun t4379 => (if t4379 = true then ((stock_units.f a2).bind fun t4382 => (if t4382 = true then ((stock_at.f k l0 a1).bind fun ⟨t4385, t4386⟩ => (if t4386 = true then ((slices_Clone_api_Row_api_Row.f l0).bind fun r4393 => (if 0 ≤ t4385 then ((r4393[t4385.toNat]?).bind fun x4398 => ((stock_Hold_1.f).bind fun _ => (if x4398.f2 < a2 then (some (([] : List S32), 11)) else (some (((r4393.set t4385.toNat (⟨x4398.f0, x4398.f1, wrap64 (x4398.f2 - a2), x4398.f3, x4398.f4, x4398.f5⟩ : S32)).set t4385.toNat (⟨x4398.f0, x4398.f1, wrap64 (x4398.f2 - a2), wrap64 (x4398.f3 + a2), x4398.f4, x4398.f5⟩ : S32)), 0))))) else none)) else (some (([] : List S32), 8)))) else (some (([] : List S32), 1)))) else (some (([] : List S32), 1))))
def stock_Hold.f (k : Nat) (l0 : List S32) (a1 : ByteArray) (a2 : Int) : Option (List S32 × Int) := ((stock_move.f k l0 a1 a2).bind fun ⟨r4415, t4416⟩ => (some (r4415, t4416)))
def tarrylaw08_alive.f (k : Nat)  : Option (Bool) := ((stock_Receive.f k [] (⟨#[99, 117, 112]⟩ : ByteArray) 5).bind fun ⟨r4352, t4353⟩ => ((stock_Hold.f k r4352 (⟨#[99, 117, 112]⟩ : ByteArray) 2).bind fun ⟨r4420, t4421⟩ => (if t4353 = 0 then (if t4421 = 0 then (if (r4420.length : Int) = 1 then ((r4420[0]?).bind fun x4441 => (some (((x4441.f0 == (⟨#[99, 117, 112]⟩ : ByteArray)) && ((x4441.f1 == 5) && ((x4441.f2 == 3) && ((x4441.f3 == 2) && ((x4441.f4 == 0) && (x4441.f5 == 0))))))))) else (some false)) else (some false)) else (some false))))
def stock_Release_1.f  : Option (Unit) := (some ())
def stock_move_s51.f (k : Nat) (l0 : List S32) (a1 : ByteArray) (a2 : Int) : Option (List S32 × Int) := ((stock_Right.f k l0).bind fun t4522 => (if t4522 = true then ((stock_units.f a2).bind fun t4525 => (if t4525 = true then ((stock_at.f k l0 a1).bind fun ⟨t4528, t4529⟩ => (if t4529 = true then ((slices_Clone_api_Row_api_Row.f l0).bind fun r4536 => (if 0 ≤ t4528 then ((r4536[t4528.toNat]?).bind fun x4541 => ((stock_Release_1.f).bind fun _ => (if x4541.f3 < a2 then (some (([] : List S32), 11)) else (some (((r4536.set t4528.toNat (⟨x4541.f0, x4541.f1, x4541.f2, wrap64 (x4541.f3 - a2), x4541.f4, x4541.f5⟩ : S32)).set t4528.toNat (⟨x4541.f0, x4541.f1, wrap64 (x4541.f2 + a2), wrap64 (x4541.f3 - a2), x4541.f4, x4541.f5⟩ : S32)), 0))))) else none)) else (some (([] : List S32), 8)))) else (some (([] : List S32), 1)))) else (some (([] : List S32), 1))))
def stock_Release.f (k : Nat) (l0 : List S32) (a1 : ByteArray) (a2 : Int) : Option (List S32 × Int) := ((stock_move_s51.f k l0 a1 a2).bind fun ⟨r4558, t4559⟩ => (some (r4558, t4559)))
def stock_Ship_1.f  : Option (Unit) := (some ())
def stock_move_s54.f (k : Nat) (l0 : List S32) (a1 : ByteArray) (a2 : Int) : Option (List S32 × Int) := ((stock_Right.f k l0).bind fun t4592 => (if t4592 = true then ((stock_units.f a2).bind fun t4595 => (if t4595 = true then ((stock_at.f k l0 a1).bind fun ⟨t4598, t4599⟩ => (if t4599 = true then ((slices_Clone_api_Row_api_Row.f l0).bind fun r4606 => (if 0 ≤ t4598 then ((r4606[t4598.toNat]?).bind fun x4611 => ((stock_Ship_1.f).bind fun _ => (if x4611.f3 < a2 then (some (([] : List S32), 11)) else (some (((r4606.set t4598.toNat (⟨x4611.f0, x4611.f1, x4611.f2, wrap64 (x4611.f3 - a2), x4611.f4, x4611.f5⟩ : S32)).set t4598.toNat (⟨x4611.f0, x4611.f1, x4611.f2, wrap64 (x4611.f3 - a2), wrap64 (x4611.f4 + a2), x4611.f5⟩ : S32)), 0))))) else none)) else (some (([] : List S32), 8)))) else (some (([] : List S32), 1)))) else (some (([] : List S32), 1))))
def stock_Ship.f (k : Nat) (l0 : List S32) (a1 : ByteArray) (a2 : Int) : Option (List S32 × Int) := ((stock_move_s54.f k l0 a1 a2).bind fun ⟨r4628, t4629⟩ => (some (r4628, t4629)))
def stock_Lose_1.f  : Option (Unit) := (some ())
def stock_move_s57.f (k : Nat) (l0 : List S32) (a1 : ByteArray) (a2 : Int) : Option (List S32 × Int) := ((stock_Right.f k l0).bind fun t4681 => (if t4681 = true then ((stock_units.f a2).bind fun t4684 => (if t4684 = true then ((stock_at.f k l0 a1).bind fun ⟨t4687, t4688⟩ => (if t4688 = true then ((slices_Clone_api_Row_api_Row.f l0).bind fun r4695 => (if 0 ≤ t4687 then ((r4695[t4687.toNat]?).bind fun x4700 => ((stock_Lose_1.f).bind fun _ => (if x4700.f2 < a2 then (some (([] : List S32), 11)) else (some (((r4695.set t4687.toNat (⟨x4700.f0, x4700.f1, wrap64 (x4700.f2 - a2), x4700.f3, x4700.f4, x4700.f5⟩ : S32)).set t4687.toNat (⟨x4700.f0, x4700.f1, wrap64 (x4700.f2 - a2), x4700.f3, x4700.f4, wrap64 (x4700.f5 + a2)⟩ : S32)), 0))))) else none)) else (some (([] : List S32), 8)))) else (some (([] : List S32), 1)))) else (some (([] : List S32), 1))))
def stock_Lose.f (k : Nat) (l0 : List S32) (a1 : ByteArray) (a2 : Int) : Option (List S32 × Int) := ((stock_move_s57.f k l0 a1 a2).bind fun ⟨r4717, t4718⟩ => (some (r4717, t4718)))
def tarrylaw08_does.f (k : Nat) (l0 : List S32) (a1 : ByteArray) (a2 : Int) (a3 : Int) : Option (List S32 × Int) := (if a3 = 1 then ((stock_Hold.f k l0 a1 a2).bind fun ⟨r4640, t4641⟩ => (some (r4640, t4641))) else (if a3 = 2 then ((stock_Release.f k l0 a1 a2).bind fun ⟨r4647, t4648⟩ => (some (r4647, t4648))) else (if a3 = 3 then ((stock_Ship.f k l0 a1 a2).bind fun ⟨r4654, t4655⟩ => (some (r4654, t4655))) else ((stock_Lose.f k l0 a1 a2).bind fun ⟨r4722, t4723⟩ => (some (r4722, t4723))))))
def tarryref08_Move.j1 (k : Nat) (a2 : Int) (a3 : Int) (l0 : List S32) (t4760 : ByteArray) (t4761 : Int) (t4762 : Int) (t4763 : Int) (t4764 : Int) (t4765 : Int) (i5012 : Int) : Option (List S32 × Int) := (if i5012 < a2 then (some (([] : List S32), 11)) else (if a3 = 1 then ((tarryref08_Set.f k l0 t4760 t4761 (wrap64 (t4762 - a2)) (wrap64 (t4763 + a2)) t4764 t4765).bind fun r5029 => (some (r5029, 0))) else (if a3 = 2 then ((tarryref08_Set.f k l0 t4760 t4761 (wrap64 (t4762 + a2)) (wrap64 (t4763 - a2)) t4764 t4765).bind fun r5035 => (some (r5035, 0))) else (if a3 = 3 then ((tarryref08_Set.f k l0 t4760 t4761 t4762 (wrap64 (t4763 - a2)) (wrap64 (t4764 + a2)) t4765).bind fun r5041 => (some (r5041, 0))) else (if a3 = 4 then ((tarryref08_Set.f k l0 t4760 t4761 (wrap64 (t4762 - a2)) t4763 t4764 (wrap64 (t4765 + a2))).bind fun r5047 => (some (r5047, 0))) else ((tarryref08_Set.f k l0 t4760 t4761 t4762 t4763 t4764 t4765).bind fun r5051 => (some (r5051, 0))))))))
def tarryref08_Move.f (k : Nat) (l0 : List S32) (a1 : ByteArray) (a2 : Int) (a3 : Int) : Option (List S32 × Int) := ((tarryref08_Right.f k l0).bind fun t4754 => (if t4754 = true then ((tarryref08_units.f a2).bind fun t4757 => (if t4757 = true then ((tarryref08_Get.f k l0 a1).bind fun ⟨t4760, t4761, t4762, t4763, t4764, t4765⟩ => (if (t4760 == (⟨#[]⟩ : ByteArray)) = true then (some (([] : List S32), 8)) else (if a3 = 2 then (tarryref08_Move.j1 k a2 a3 l0 t4760 t4761 t4762 t4763 t4764 t4765 t4763) else (if a3 = 3 then (tarryref08_Move.j1 k a2 a3 l0 t4760 t4761 t4762 t4763 t4764 t4765 t4763) else (tarryref08_Move.j1 k a2 a3 l0 t4760 t4761 t4762 t4763 t4764 t4765 t4762))))) else (some (([] : List S32), 1)))) else (some (([] : List S32), 1))))
def tarrylaw08_StockMoves.l1 (k : Nat) (a1 : ByteArray) (a2 : Int) (r111 : List S32) (t1847 : ByteArray) (t1848 : Int) (t1849 : Int) (t1850 : Int) (t1851 : Int) (t1852 : Int) (t1853 : Int) : Nat → Int → Option (Bool)
  | 0, _ => none
  | ml1 + 1, i5229 => (if i5229 < 5 then ((tarrylaw08_does.f k r111 (a1.extract 0 ((mn (a1.size : Int) 18).toNat)) a2 i5229).bind fun ⟨r5351, t5352⟩ => ((tarryref08_Move.f k r111 (a1.extract 0 ((mn (a1.size : Int) 18).toNat)) a2 i5229).bind fun ⟨r5356, t5357⟩ => (if t5352 = t5357 then ((tarryref08_Same.f k r5351 r5356).bind fun t5369 => (if t5369 = true then (tarrylaw08_StockMoves.l1 k a1 a2 r111 t1847 t1848 t1849 t1850 t1851 t1852 t1853 ml1 (wrap64 (i5229 + 1))) else none)) else none))) else ((tarryref08_Right.f k r111).bind fun t5387 => (if t5387 = true then ((tarryref08_Get.f k r111 (a1.extract 0 ((mn (a1.size : Int) 18).toNat))).bind fun ⟨t5390, t5391, t5392, t5393, t5394, t5395⟩ => (if (((t1847 == t5390) && ((t1848 == t5391) && ((t1849 == t5392) && ((t1850 == t5393) && ((t1851 == t5394) && (t1852 == t5395))))))) = true then (if (t1853 == 0) = (t5390 != (⟨#[]⟩ : ByteArray)) then (if t1853 = 0 then (some true) else (some (t1853 == 8))) else none) else none)) else (if t1853 = 1 then (some (((t1847 == (⟨#[]⟩ : ByteArray)) && ((t1848 == 0) && ((t1849 == 0) && ((t1850 == 0) && ((t1851 == 0) && (t1852 == 0)))))))) else none))))
def tarrylaw08_StockMoves.f (k : Nat) (l0 : List S32) (a1 : ByteArray) (a2 : Int) : Option (Bool) := ((tarrylaw08_few.f k l0).bind fun r111 => (if 0 ≤ mn (a1.size : Int) 18 then (if (mn (a1.size : Int) 18) ≤ (a1.size : Int) then ((stock_Get.f k r111 (a1.extract 0 ((mn (a1.size : Int) 18).toNat))).bind fun ⟨t1847, t1848, t1849, t1850, t1851, t1852, t1853⟩ => ((stock_Receive.f k r111 (a1.extract 0 ((mn (a1.size : Int) 18).toNat)) a2).bind fun ⟨r1982, t1983⟩ => ((tarryref08_Receive.f k r111 (a1.extract 0 ((mn (a1.size : Int) 18).toNat)) a2).bind fun ⟨r4248, t4249⟩ => ((stock_Right.f k r111).bind fun t4476 => ((tarryref08_Right.f k r111).bind fun t4478 => (if t4476 = t4478 then (if t1983 = t4249 then ((tarryref08_Same.f k r1982 r4248).bind fun t4484 => (if t4484 = true then ((tarrylaw08_alive.f k).bind fun t4487 => (if t4487 = true then (tarrylaw08_StockMoves.l1 k a1 a2 r111 t1847 t1848 t1849 t1850 t1851 t1852 t1853 k 1) else none)) else none)) else none) else none)))))) else none) else none))
/-- THE ONE PURE STATEMENT. -/
def tarrylaw08_StockMoves.Pure : Prop := ∀ (l0 : List S32) (a1 : ByteArray) (a2 : Int), allOk ok32 l0 → a1.size ≤ 140737488351232 → (Lit.int .i64 a2).wf = true → ∃ k, tarrylaw08_StockMoves.f k l0 a1 a2 = some true

end Go.Proofs.Ytibpoajlnloloaa.PStockMoves
