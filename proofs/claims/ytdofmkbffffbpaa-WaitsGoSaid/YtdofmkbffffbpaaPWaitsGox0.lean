/- Written by a program of this repo: what the program's functions do, each as a Lean function, shown of the loaded code; or a statement's row over that; no condition of its own. -/
import Derived.Test.YtdofmkbffffbpaaProg
import Derived.Test.YtdofmkbffffbpaaV19
import Derived.Shelf.SlSortCmp.NoneTotal
namespace Go.Proofs.Ytdofmkbffffbpaa.PWaitsGo
open Go Go.RowKit Go.Proofs.YtdofmkbffffbpaaV
set_option linter.unusedVariables false
set_option linter.unusedSimpArgs false

structure S25 where
  f0 : ByteArray
  f1 : Int
  f2 : Int
  f3 : Int
def enc25 (x : S25) : List Value := [.string x.f0, .int .i64 x.f1, .int .i64 x.f2, .int .i64 x.f3]
theorem enc25_ok (a : S25) : (enc25 a).length = 4 ∧ ∀ u ∈ enc25 a, u.oneCell' = true := ⟨rfl, by intro u hu; simp only [enc25, List.mem_cons, List.not_mem_nil, or_false] at hu; rcases hu with rfl | rfl | rfl | rfl <;> rfl⟩
def ok25 (x : S25) : Prop := x.f0.size ≤ 9223372036854775807 ∧ (Lit.int .i64 x.f1).wf = true ∧ (Lit.int .i64 x.f2).wf = true ∧ (Lit.int .i64 x.f3).wf = true
structure S93 where
  f0 : ByteArray
  f1 : ByteArray
  f2 : Int
  f3 : Int
  f4 : Int
def enc93 (x : S93) : List Value := [.string x.f0, .string x.f1, .int .i64 x.f2, .int .i64 x.f3, .int .i64 x.f4]
theorem enc93_ok (a : S93) : (enc93 a).length = 5 ∧ ∀ u ∈ enc93 a, u.oneCell' = true := ⟨rfl, by intro u hu; simp only [enc93, List.mem_cons, List.not_mem_nil, or_false] at hu; rcases hu with rfl | rfl | rfl | rfl | rfl <;> rfl⟩
def ok93 (x : S93) : Prop := x.f0.size ≤ 9223372036854775807 ∧ x.f1.size ≤ 9223372036854775807 ∧ (Lit.int .i64 x.f2).wf = true ∧ (Lit.int .i64 x.f3).wf = true ∧ (Lit.int .i64 x.f4).wf = true
structure S23 where
  f0 : Int
  f1 : Int
  f2 : Int
def enc23 (x : S23) : List Value := [.int .i64 x.f0, .int .i64 x.f1, .int .i64 x.f2]
theorem enc23_ok (a : S23) : (enc23 a).length = 3 ∧ ∀ u ∈ enc23 a, u.oneCell' = true := ⟨rfl, by intro u hu; simp only [enc23, List.mem_cons, List.not_mem_nil, or_false] at hu; rcases hu with rfl | rfl | rfl <;> rfl⟩
def ok23 (x : S23) : Prop := (Lit.int .i64 x.f0).wf = true ∧ (Lit.int .i64 x.f1).wf = true ∧ (Lit.int .i64 x.f2).wf = true
def enc_str (x : ByteArray) : List Value := [.string x]
theorem enc_str_ok (a : ByteArray) : (enc_str a).length = 1 ∧ ∀ u ∈ enc_str a, u.oneCell' = true := ⟨rfl, by intro u hu; simp only [enc_str, List.mem_cons, List.not_mem_nil, or_false] at hu; rcases hu with rfl; rfl⟩
def enc_intu8 (x : Int) : List Value := [.int .u8 x]
theorem enc_intu8_ok (a : Int) : (enc_intu8 a).length = 1 ∧ ∀ u ∈ enc_intu8 a, u.oneCell' = true := ⟨rfl, by intro u hu; simp only [enc_intu8, List.mem_cons, List.not_mem_nil, or_false] at hu; rcases hu with rfl; rfl⟩
def enc_inti64 (x : Int) : List Value := [.int .i64 x]
theorem enc_inti64_ok (a : Int) : (enc_inti64 a).length = 1 ∧ ∀ u ∈ enc_inti64 a, u.oneCell' = true := ⟨rfl, by intro u hu; simp only [enc_inti64, List.mem_cons, List.not_mem_nil, or_false] at hu; rcases hu with rfl; rfl⟩
theorem VC.join0 {E : Env} {P : Program} {Q : Exit → Act → World → Prop} {s : St}  {c1 c2 : Code} (I : St) (F : Prop) (hx : VC P E c1 (Exit.then (fun a w => F ∧ Inv E (I) a w) Q) s) (hy : F → VC P E c2 Q (I)) : VC P E (.seq c1 c2) Q s :=
  fun a w hi => wpIn_seq (Code.wpIn_mono (fun e a w h => by
    cases e <;> first | exact h | (obtain ⟨hf, hi⟩ := h; exact hy  hf a w hi)) (hx a w hi))
theorem VN.meet0 {E : Env} {Q : Exit → Act → World → Prop} {s : St}  {I : St} {F : Prop}  (bs rs : List Nat) (hf : F) (hl : Le s (I) bs rs) : VN E (Exit.then (fun a w => F ∧ Inv E (I) a w) Q) s :=
  fun a w hi => ⟨hf, hi.le hl⟩
theorem VC.join1 {E : Env} {P : Program} {Q : Exit → Act → World → Prop} {s : St} {α0 : Type} {c1 c2 : Code} (I : α0 → St) (F : α0 → Prop) (hx : VC P E c1 (Exit.then (fun a w => ∃ (x0 : α0), F x0 ∧ Inv E (I x0) a w) Q) s) (hy : ∀ (x0 : α0), F x0 → VC P E c2 Q (I x0)) : VC P E (.seq c1 c2) Q s :=
  fun a w hi => wpIn_seq (Code.wpIn_mono (fun e a w h => by
    cases e <;> first | exact h | (obtain ⟨x0, hf, hi⟩ := h; exact hy x0 hf a w hi)) (hx a w hi))
theorem VN.meet1 {E : Env} {Q : Exit → Act → World → Prop} {s : St} {α0 : Type} {I : α0 → St} {F : α0 → Prop} (x0 : α0) (bs rs : List Nat) (hf : F x0) (hl : Le s (I x0) bs rs) : VN E (Exit.then (fun a w => ∃ (x0 : α0), F x0 ∧ Inv E (I x0) a w) Q) s :=
  fun a w hi => ⟨x0, hf, hi.le hl⟩
theorem VC.loop1 {E : Env} {P : Program} {Q : Exit → Act → World → Prop} {s : St} {α0 : Type} {c : Code} (I : α0 → St) (F : Nat → α0 → Prop) (k : Nat) (x0 : α0) (bs rs : List Nat) (hf : F k x0) (hl : Le s (I x0) bs rs) (hz : ∀ (x0 : α0), ¬ F 0 x0) (h : ∀ k, (∀ (x0 : α0), F k x0 → VLp P E c Q k (I x0)) → ∀ (x0 : α0), F (k + 1) x0 → VC P E c (Exit.then (Code.roundsIn E.F 0 P c Q k) Q) (I x0)) : VC P E (.loop c) Q s := by
  have key : ∀ k (x0 : α0), F k x0 → VLp P E c Q k (I x0) := by
    intro k
    induction k with
    | zero => intro x0 hf; exact absurd hf (hz x0)
    | succ k ih => intro x0 hf; exact VLp.succ (h k ih x0 hf)
  exact fun a w hi => wpIn_loop_rounds k (key k x0 hf a w (hi.le hl))
theorem VC.loop3 {E : Env} {P : Program} {Q : Exit → Act → World → Prop} {s : St} {α0 : Type} {α1 : Type} {α2 : Type} {c : Code} (I : α0 → α1 → α2 → St) (F : Nat → α0 → α1 → α2 → Prop) (k : Nat) (x0 : α0) (x1 : α1) (x2 : α2) (bs rs : List Nat) (hf : F k x0 x1 x2) (hl : Le s (I x0 x1 x2) bs rs) (hz : ∀ (x0 : α0) (x1 : α1) (x2 : α2), ¬ F 0 x0 x1 x2) (h : ∀ k, (∀ (x0 : α0) (x1 : α1) (x2 : α2), F k x0 x1 x2 → VLp P E c Q k (I x0 x1 x2)) → ∀ (x0 : α0) (x1 : α1) (x2 : α2), F (k + 1) x0 x1 x2 → VC P E c (Exit.then (Code.roundsIn E.F 0 P c Q k) Q) (I x0 x1 x2)) : VC P E (.loop c) Q s := by
  have key : ∀ k (x0 : α0) (x1 : α1) (x2 : α2), F k x0 x1 x2 → VLp P E c Q k (I x0 x1 x2) := by
    intro k
    induction k with
    | zero => intro x0 x1 x2 hf; exact absurd hf (hz x0 x1 x2)
    | succ k ih => intro x0 x1 x2 hf; exact VLp.succ (h k ih x0 x1 x2 hf)
  exact fun a w hi => wpIn_loop_rounds k (key k x0 x1 x2 hf a w (hi.le hl))
theorem VC.stop0 {E : Env} {P : Program} {Q : Exit → Act → World → Prop} {s : St}  {c1 : Code} (I : St) (F : Prop) (hx : VC P E c1 (Exit.then (fun a w => F ∧ Inv E (I) a w) Q) s) (hy : F → VN E Q (I)) : VC P E c1 Q s :=
  fun a w hi => Code.wpIn_mono (fun e a w h => by
    cases e <;> first | exact h | (obtain ⟨hf, hi⟩ := h; exact hy  hf a w hi)) (hx a w hi)
theorem VC.stop1 {E : Env} {P : Program} {Q : Exit → Act → World → Prop} {s : St} {α0 : Type} {c1 : Code} (I : α0 → St) (F : α0 → Prop) (hx : VC P E c1 (Exit.then (fun a w => ∃ (x0 : α0), F x0 ∧ Inv E (I x0) a w) Q) s) (hy : ∀ (x0 : α0), F x0 → VN E Q (I x0)) : VC P E c1 Q s :=
  fun a w hi => Code.wpIn_mono (fun e a w h => by
    cases e <;> first | exact h | (obtain ⟨x0, hf, hi⟩ := h; exact hy x0 hf a w hi)) (hx a w hi)
theorem TI26 : TI Try.prog 26 true 4 := ⟨⟨_, Try.underlying26, rfl⟩, by kernel_rfl⟩
theorem Z26 : (Try.prog.info? 26).bind (·.zero) = some (.agg #[.string (⟨#[]⟩ : ByteArray), .int .i64 0, .int .i64 0, .int .i64 0]) := by kernel_rfl
theorem ZL26 : (.agg #[.string (⟨#[]⟩ : ByteArray), .int .i64 0, .int .i64 0, .int .i64 0] : Value).cells.toList = [.string (⟨#[]⟩ : ByteArray), .int .i64 0, .int .i64 0, .int .i64 0] := rfl
theorem TI9 : TI Try.prog 9 false 1 := ⟨⟨_, Try.underlying9, rfl⟩, by kernel_rfl⟩
theorem FI26_0 : FI Try.prog 26 0 0 1 := ⟨_, _, _, Try.underlying26, rfl, rfl, TI9⟩
theorem FO8 : FOk Try.prog 8 := ⟨_, Try.func8, by kernel_rfl, by kernel_rfl⟩
theorem EI26 : EI Try.prog 26 4 40 := ei_of (z := .agg #[.string (⟨#[]⟩ : ByteArray), .int .i64 0, .int .i64 0, .int .i64 0]) (by kernel_rfl) rfl (by decide) (by decide)
theorem FO7 : FOk Try.prog 7 := ⟨_, Try.func7, by kernel_rfl, by kernel_rfl⟩
theorem Z9 : (Try.prog.info? 9).bind (·.zero) = some (.string (⟨#[]⟩ : ByteArray)) := by kernel_rfl
theorem TI72 : TI Try.prog 72 false 1 := ⟨⟨_, Try.underlying72, rfl⟩, by kernel_rfl⟩
theorem TI73 : TI Try.prog 73 false 1 := ⟨⟨_, Try.underlying73, rfl⟩, by kernel_rfl⟩
theorem Z75 : (Try.prog.info? 75).bind (·.zero) = some (.agg #[.slice none 0 0, .slice none 0 0]) := by kernel_rfl
theorem SI75 : SI Try.prog 75 [.slice none 0 0, .slice none 0 0] [(0, 1), (1, 1)] := ⟨⟨_, Try.underlying75, (.cons ⟨rfl, _, TI72⟩ (.cons ⟨rfl, _, TI73⟩ .nil))⟩, Z75⟩
theorem FI75_1 : FI Try.prog 75 1 1 1 := ⟨_, _, _, Try.underlying75, rfl, rfl, TI73⟩
theorem TI94 : TI Try.prog 94 true 5 := ⟨⟨_, Try.underlying94, rfl⟩, by kernel_rfl⟩
theorem Z94 : (Try.prog.info? 94).bind (·.zero) = some (.agg #[.string (⟨#[]⟩ : ByteArray), .string (⟨#[]⟩ : ByteArray), .int .i64 0, .int .i64 0, .int .i64 0]) := by kernel_rfl
theorem ZL94 : (.agg #[.string (⟨#[]⟩ : ByteArray), .string (⟨#[]⟩ : ByteArray), .int .i64 0, .int .i64 0, .int .i64 0] : Value).cells.toList = [.string (⟨#[]⟩ : ByteArray), .string (⟨#[]⟩ : ByteArray), .int .i64 0, .int .i64 0, .int .i64 0] := rfl
theorem FI94_0 : FI Try.prog 94 0 0 1 := ⟨_, _, _, Try.underlying94, rfl, rfl, TI9⟩
theorem FI94_1 : FI Try.prog 94 1 1 1 := ⟨_, _, _, Try.underlying94, rfl, rfl, TI9⟩
theorem FO67 : FOk Try.prog 67 := ⟨_, Try.func67, by kernel_rfl, by kernel_rfl⟩
theorem FO84 : FOk Try.prog 84 := ⟨_, Try.func84, by kernel_rfl, by kernel_rfl⟩
theorem FO66 : FOk Try.prog 66 := ⟨_, Try.func66, by kernel_rfl, by kernel_rfl⟩
theorem TI5 : TI Try.prog 5 false 1 := ⟨⟨_, Try.underlying5, rfl⟩, by kernel_rfl⟩
theorem FO88 : FOk Try.prog 88 := ⟨_, Try.func88, by kernel_rfl, by kernel_rfl⟩
theorem FO94 : FOk Try.prog 94 := ⟨_, Try.func94, by kernel_rfl, by kernel_rfl⟩
theorem FO89 : FOk Try.prog 89 := ⟨_, Try.func89, by kernel_rfl, by kernel_rfl⟩
theorem FO72 : FOk Try.prog 72 := ⟨_, Try.func72, by kernel_rfl, by kernel_rfl⟩
theorem TI3 : TI Try.prog 3 false 1 := ⟨⟨_, Try.underlying3, rfl⟩, by kernel_rfl⟩
theorem FI94_2 : FI Try.prog 94 2 2 1 := ⟨_, _, _, Try.underlying94, rfl, rfl, TI3⟩
theorem FO85 : FOk Try.prog 85 := ⟨_, Try.func85, by kernel_rfl, by kernel_rfl⟩
theorem FI94_3 : FI Try.prog 94 3 3 1 := ⟨_, _, _, Try.underlying94, rfl, rfl, TI3⟩
theorem FI94_4 : FI Try.prog 94 4 4 1 := ⟨_, _, _, Try.underlying94, rfl, rfl, TI3⟩
theorem FO68 : FOk Try.prog 68 := ⟨_, Try.func68, by kernel_rfl, by kernel_rfl⟩
theorem FI75_0 : FI Try.prog 75 0 0 1 := ⟨_, _, _, Try.underlying75, rfl, rfl, TI72⟩
theorem FO86 : FOk Try.prog 86 := ⟨_, Try.func86, by kernel_rfl, by kernel_rfl⟩
theorem FO69 : FOk Try.prog 69 := ⟨_, Try.func69, by kernel_rfl, by kernel_rfl⟩
theorem FO71 : FOk Try.prog 71 := ⟨_, Try.func71, by kernel_rfl, by kernel_rfl⟩
theorem FO87 : FOk Try.prog 87 := ⟨_, Try.func87, by kernel_rfl, by kernel_rfl⟩
theorem FO70 : FOk Try.prog 70 := ⟨_, Try.func70, by kernel_rfl, by kernel_rfl⟩
theorem FO65 : FOk Try.prog 65 := ⟨_, Try.func65, by kernel_rfl, by kernel_rfl⟩
theorem FO47 : FOk Try.prog 47 := ⟨_, Try.func47, by kernel_rfl, by kernel_rfl⟩
theorem FO73 : FOk Try.prog 73 := ⟨_, Try.func73, by kernel_rfl, by kernel_rfl⟩
theorem FO77 : FOk Try.prog 77 := ⟨_, Try.func77, by kernel_rfl, by kernel_rfl⟩
theorem FO54 : FOk Try.prog 54 := ⟨_, Try.func54, by kernel_rfl, by kernel_rfl⟩
theorem Z3 : (Try.prog.info? 3).bind (·.zero) = some (.int .i64 0) := by kernel_rfl
theorem FO46 : FOk Try.prog 46 := ⟨_, Try.func46, by kernel_rfl, by kernel_rfl⟩
theorem FO75 : FOk Try.prog 75 := ⟨_, Try.func75, by kernel_rfl, by kernel_rfl⟩
theorem FO74 : FOk Try.prog 74 := ⟨_, Try.func74, by kernel_rfl, by kernel_rfl⟩
theorem FO48 : FOk Try.prog 48 := ⟨_, Try.func48, by kernel_rfl, by kernel_rfl⟩
theorem TI24 : TI Try.prog 24 true 3 := ⟨⟨_, Try.underlying24, rfl⟩, by kernel_rfl⟩
theorem FI26_1 : FI Try.prog 26 1 1 3 := ⟨_, _, _, Try.underlying26, rfl, rfl, TI24⟩
theorem Z24 : (Try.prog.info? 24).bind (·.zero) = some (.agg #[.int .i64 0, .int .i64 0, .int .i64 0]) := by kernel_rfl
theorem FI24_0 : FI Try.prog 24 0 0 1 := ⟨_, _, _, Try.underlying24, rfl, rfl, TI3⟩
theorem FI24_1 : FI Try.prog 24 1 1 1 := ⟨_, _, _, Try.underlying24, rfl, rfl, TI3⟩
theorem FI24_2 : FI Try.prog 24 2 2 1 := ⟨_, _, _, Try.underlying24, rfl, rfl, TI3⟩
theorem FO42 : FOk Try.prog 42 := ⟨_, Try.func42, by kernel_rfl, by kernel_rfl⟩
theorem FO23 : FOk Try.prog 23 := ⟨_, Try.func23, by kernel_rfl, by kernel_rfl⟩
theorem FO96 : FOk Try.prog 96 := ⟨_, Try.func96, by kernel_rfl, by kernel_rfl⟩
theorem FO92 : FOk Try.prog 92 := ⟨_, Try.func92, by kernel_rfl, by kernel_rfl⟩
theorem FO91 : FOk Try.prog 91 := ⟨_, Try.func91, by kernel_rfl, by kernel_rfl⟩
theorem FO95 : FOk Try.prog 95 := ⟨_, Try.func95, by kernel_rfl, by kernel_rfl⟩
theorem FO90 : FOk Try.prog 90 := ⟨_, Try.func90, by kernel_rfl, by kernel_rfl⟩
theorem FO76 : FOk Try.prog 76 := ⟨_, Try.func76, by kernel_rfl, by kernel_rfl⟩
theorem FO49 : FOk Try.prog 49 := ⟨_, Try.func49, by kernel_rfl, by kernel_rfl⟩
theorem FO33 : FOk Try.prog 33 := ⟨_, Try.func33, by kernel_rfl, by kernel_rfl⟩
theorem FI57_1 : FI Try.prog 57 1 1 3 := ⟨_, _, _, Try.underlying57, rfl, rfl, TI24⟩
theorem FO35 : FOk Try.prog 35 := ⟨_, Try.func35, by kernel_rfl, by kernel_rfl⟩
theorem FO50 : FOk Try.prog 50 := ⟨_, Try.func50, by kernel_rfl, by kernel_rfl⟩
theorem FO34 : FOk Try.prog 34 := ⟨_, Try.func34, by kernel_rfl, by kernel_rfl⟩
theorem FO29 : FOk Try.prog 29 := ⟨_, Try.func29, by kernel_rfl, by kernel_rfl⟩
theorem FO32 : FOk Try.prog 32 := ⟨_, Try.func32, by kernel_rfl, by kernel_rfl⟩
theorem FO37 : FOk Try.prog 37 := ⟨_, Try.func37, by kernel_rfl, by kernel_rfl⟩
theorem FO11 : FOk Try.prog 11 := ⟨_, Try.func11, by kernel_rfl, by kernel_rfl⟩
theorem FO53 : FOk Try.prog 53 := ⟨_, Try.func53, by kernel_rfl, by kernel_rfl⟩
theorem FO41 : FOk Try.prog 41 := ⟨_, Try.func41, by kernel_rfl, by kernel_rfl⟩
theorem FO30 : FOk Try.prog 30 := ⟨_, Try.func30, by kernel_rfl, by kernel_rfl⟩
theorem FO43 : FOk Try.prog 43 := ⟨_, Try.func43, by kernel_rfl, by kernel_rfl⟩
theorem FO24 : FOk Try.prog 24 := ⟨_, Try.func24, by kernel_rfl, by kernel_rfl⟩
theorem FO31 : FOk Try.prog 31 := ⟨_, Try.func31, by kernel_rfl, by kernel_rfl⟩
theorem FO9 : FOk Try.prog 9 := ⟨_, Try.func9, by kernel_rfl, by kernel_rfl⟩
theorem FO20 : FOk Try.prog 20 := ⟨_, Try.func20, by kernel_rfl, by kernel_rfl⟩
theorem SI26 : SI Try.prog 26 [.string (⟨#[]⟩ : ByteArray), .int .i64 0, .int .i64 0, .int .i64 0] [(0, 1), (1, 3)] := ⟨⟨_, Try.underlying26, (.cons ⟨rfl, _, TI9⟩ (.cons ⟨rfl, _, TI24⟩ .nil))⟩, Z26⟩
theorem FO21 : FOk Try.prog 21 := ⟨_, Try.func21, by kernel_rfl, by kernel_rfl⟩
theorem EI24 : EI Try.prog 24 3 24 := ei_of (z := .agg #[.int .i64 0, .int .i64 0, .int .i64 0]) (by kernel_rfl) rfl (by decide) (by decide)
theorem FO22 : FOk Try.prog 22 := ⟨_, Try.func22, by kernel_rfl, by kernel_rfl⟩
theorem SI24 : SI Try.prog 24 [.int .i64 0, .int .i64 0, .int .i64 0] [(0, 1), (1, 1), (2, 1)] := ⟨⟨_, Try.underlying24, (.cons ⟨rfl, _, TI3⟩ (.cons ⟨rfl, _, TI3⟩ (.cons ⟨rfl, _, TI3⟩ .nil)))⟩, Z24⟩
theorem FO13 : FOk Try.prog 13 := ⟨_, Try.func13, by kernel_rfl, by kernel_rfl⟩
theorem FO39 : FOk Try.prog 39 := ⟨_, Try.func39, by kernel_rfl, by kernel_rfl⟩
theorem FO40 : FOk Try.prog 40 := ⟨_, Try.func40, by kernel_rfl, by kernel_rfl⟩
theorem FO17 : FOk Try.prog 17 := ⟨_, Try.func17, by kernel_rfl, by kernel_rfl⟩
theorem FO18 : FOk Try.prog 18 := ⟨_, Try.func18, by kernel_rfl, by kernel_rfl⟩
theorem FO14 : FOk Try.prog 14 := ⟨_, Try.func14, by kernel_rfl, by kernel_rfl⟩
theorem FO51 : FOk Try.prog 51 := ⟨_, Try.func51, by kernel_rfl, by kernel_rfl⟩
theorem FO52 : FOk Try.prog 52 := ⟨_, Try.func52, by kernel_rfl, by kernel_rfl⟩
theorem FO38 : FOk Try.prog 38 := ⟨_, Try.func38, by kernel_rfl, by kernel_rfl⟩
theorem FO16 : FOk Try.prog 16 := ⟨_, Try.func16, by kernel_rfl, by kernel_rfl⟩
theorem EQ26 (a0 : ByteArray) (a1 : Int) (a2 : Int) (a3 : Int) (b0 : ByteArray) (b1 : Int) (b2 : Int) (b3 : Int) : EqV Try.prog 10000 26 (.agg #[.string a0, .int .i64 a1, .int .i64 a2, .int .i64 a3]) (.agg #[.string b0, .int .i64 b1, .int .i64 b2, .int .i64 b3]) ((a0 == b0) && ((a1 == b1) && ((a2 == b2) && (a3 == b3)))) := (.struct Try.underlying26 (by kernel_rfl) (.cons (by decide) TI9 (fun _ => rfl) rfl rfl rfl rfl (.string Try.underlying9) (.one (by decide) TI24 (fun h => absurd h (by decide)) rfl rfl rfl rfl (.struct Try.underlying24 (by kernel_rfl) (.cons (by decide) TI3 (fun _ => rfl) rfl rfl rfl rfl (.int Try.underlying3) (.cons (by decide) TI3 (fun _ => rfl) rfl rfl rfl rfl (.int Try.underlying3) (.one (by decide) TI3 (fun _ => rfl) rfl rfl rfl rfl (.int Try.underlying3))))))))
theorem EG26 : Try.prog.eqGuardType Try.prog.depth 26 = false := by kernel_rfl
theorem FO15 : FOk Try.prog 15 := ⟨_, Try.func15, by kernel_rfl, by kernel_rfl⟩
theorem FO12 : FOk Try.prog 12 := ⟨_, Try.func12, by kernel_rfl, by kernel_rfl⟩
theorem FO26 : FOk Try.prog 26 := ⟨_, Try.func26, by kernel_rfl, by kernel_rfl⟩
theorem EQ24 (a0 : Int) (a1 : Int) (a2 : Int) (b0 : Int) (b1 : Int) (b2 : Int) : EqV Try.prog 10000 24 (.agg #[.int .i64 a0, .int .i64 a1, .int .i64 a2]) (.agg #[.int .i64 b0, .int .i64 b1, .int .i64 b2]) ((a0 == b0) && ((a1 == b1) && (a2 == b2))) := (.struct Try.underlying24 (by kernel_rfl) (.cons (by decide) TI3 (fun _ => rfl) rfl rfl rfl rfl (.int Try.underlying3) (.cons (by decide) TI3 (fun _ => rfl) rfl rfl rfl rfl (.int Try.underlying3) (.one (by decide) TI3 (fun _ => rfl) rfl rfl rfl rfl (.int Try.underlying3)))))
theorem EG24 : Try.prog.eqGuardType Try.prog.depth 24 = false := by kernel_rfl
theorem FO25 : FOk Try.prog 25 := ⟨_, Try.func25, by kernel_rfl, by kernel_rfl⟩
theorem FO27 : FOk Try.prog 27 := ⟨_, Try.func27, by kernel_rfl, by kernel_rfl⟩
theorem FO28 : FOk Try.prog 28 := ⟨_, Try.func28, by kernel_rfl, by kernel_rfl⟩
theorem FO19 : FOk Try.prog 19 := ⟨_, Try.func19, by kernel_rfl, by kernel_rfl⟩
def tarrylaw09_cut.f (a0_0 : ByteArray) (a0_1 : Int) (a0_2 : Int) (a0_3 : Int) : Option (ByteArray × Int × Int × Int) := (if 0 ≤ mn (a0_0.size : Int) 18 then (if (mn (a0_0.size : Int) 18) ≤ (a0_0.size : Int) then (some (a0_0.extract 0 ((mn (a0_0.size : Int) 18).toNat), a0_1, a0_2, a0_3)) else none) else none)
def tarrylaw09_few.l1 (k : Nat) (l0 : List S25) : Nat → (List S25) → Int → Option (List S25)
  | 0, _, _ => none
  | ml1 + 1, l94, i96 => (if i96 < (((l0.take ((mn (l0.length : Int) 34).toNat)).drop 0).length : Int) then (if 0 ≤ i96 then ((((l0.take ((mn (l0.length : Int) 34).toNat)).drop 0)[i96.toNat]?).bind fun x119 => ((tarrylaw09_cut.f x119.f0 x119.f1 x119.f2 x119.f3).bind fun ⟨t123, t124, t125, t126⟩ => (if (l94.length + ([(⟨t123, t124, t125, t126⟩ : S25)] : List S25).length) * 40 ≤ 140737488355328 then (tarrylaw09_few.l1 k l0 ml1 (l94 ++ ([(⟨t123, t124, t125, t126⟩ : S25)] : List S25)) (wrap64 (i96 + 1))) else none))) else none) else (some l94))
def tarrylaw09_few.f (k : Nat) (l0 : List S25) : Option (List S25) := (if 0 ≤ mn (l0.length : Int) 34 then (if (mn (l0.length : Int) 34) ≤ (l0.length : Int) then (tarrylaw09_few.l1 k l0 k ([] : List S25) 0) else none) else none)
def goods_Right_1.f (a0_0 : ByteArray) (a0_1 : ByteArray) (a0_2 : Int) (a0_3 : Int) (a0_4 : Int) (a1_0 : ByteArray) (a1_1 : ByteArray) (a1_2 : Int) (a1_3 : Int) (a1_4 : Int) : Option (Bool) := (if (a0_0 == a1_0) = true then (some (a0_1 == a1_1)) else (some false))
def slices_IndexFunc_api_Sub_api_Sub.l1 (k : Nat) (a1_0_0 : ByteArray) (a1_0_1 : ByteArray) (a1_0_2 : Int) (a1_0_3 : Int) (a1_0_4 : Int) (l0 : List S93) : Nat → Int → Option (Int)
  | 0, _ => none
  | ml1 + 1, i241 => (if i241 < (l0.length : Int) then (if 0 ≤ i241 then ((l0[i241.toNat]?).bind fun x270 => ((goods_Right_1.f x270.f0 x270.f1 x270.f2 x270.f3 x270.f4 a1_0_0 a1_0_1 a1_0_2 a1_0_3 a1_0_4).bind fun t273 => (if t273 = true then (some i241) else (slices_IndexFunc_api_Sub_api_Sub.l1 k a1_0_0 a1_0_1 a1_0_2 a1_0_3 a1_0_4 l0 ml1 (wrap64 (i241 + 1)))))) else none) else (some (-1)))
def slices_IndexFunc_api_Sub_api_Sub.f (k : Nat) (l0 : List S93) (a1_0_0 : ByteArray) (a1_0_1 : ByteArray) (a1_0_2 : Int) (a1_0_3 : Int) (a1_0_4 : Int) : Option (Int) := (slices_IndexFunc_api_Sub_api_Sub.l1 k a1_0_0 a1_0_1 a1_0_2 a1_0_3 a1_0_4 l0 k 0)
def slices_ContainsFunc_api_Sub_api_Sub.f (k : Nat) (l0 : List S93) (a1_0_0 : ByteArray) (a1_0_1 : ByteArray) (a1_0_2 : Int) (a1_0_3 : Int) (a1_0_4 : Int) : Option (Bool) := ((slices_IndexFunc_api_Sub_api_Sub.f k l0 a1_0_0 a1_0_1 a1_0_2 a1_0_3 a1_0_4).bind fun t276 => (some (decide (t276 ≥ 0))))
def goods_name_1.f (a0 : Int) : Option (Bool) := (if a0 < 97 then (if a0 < 48 then (some true) else (some (decide (a0 > 57)))) else (if a0 > 122 then (if a0 < 48 then (some true) else (some (decide (a0 > 57)))) else (some false)))
def slices_IndexFunc_byte_byte.l1 (k : Nat) (l0 : List Int) : Nat → Int → Option (Int)
  | 0, _ => none
  | ml1 + 1, i377 => (if i377 < (l0.length : Int) then (if 0 ≤ i377 then ((l0[i377.toNat]?).bind fun x406 => ((goods_name_1.f x406).bind fun t409 => (if t409 = true then (some i377) else (slices_IndexFunc_byte_byte.l1 k l0 ml1 (wrap64 (i377 + 1)))))) else none) else (some (-1)))
def slices_IndexFunc_byte_byte.f (k : Nat) (l0 : List Int) : Option (Int) := (slices_IndexFunc_byte_byte.l1 k l0 k 0)
def slices_ContainsFunc_byte_byte.f (k : Nat) (l0 : List Int) : Option (Bool) := ((slices_IndexFunc_byte_byte.f k l0).bind fun t412 => (some (decide (t412 ≥ 0))))
def goods_name.f (k : Nat) (a0 : ByteArray) : Option (Bool) := (if (a0 == (⟨#[]⟩ : ByteArray)) = true then (some false) else (if (a0.size : Int) ≤ 16 then (if a0.size ≤ 140737488355328 then ((slices_ContainsFunc_byte_byte.f k (byI a0)).bind fun t425 => (if t425 = true then (some false) else (some true))) else none) else (some false)))
def goods_in.f (a0 : Int) (a1 : Int) : Option (Bool) := (if a0 ≥ 1 then (some (decide (a0 ≤ a1))) else (some false))
def goods_may.f (k : Nat) (a0_0 : ByteArray) (a0_1 : ByteArray) (a0_2 : Int) (a0_3 : Int) (a0_4 : Int) : Option (Bool) := ((goods_name.f k a0_0).bind fun t450 => (if t450 = true then ((goods_name.f k a0_1).bind fun t453 => (if t453 = true then (if (a0_0 == a0_1) = true then (some false) else ((goods_in.f a0_2 9).bind fun t458 => (if t458 = true then ((goods_in.f a0_3 100).bind fun t461 => (if t461 = true then ((goods_in.f a0_4 100).bind fun t464 => (some t464)) else (some false))) else (some false)))) else (some false))) else (some false)))
def slices_Index_string_string.l1 (k : Nat) (a1 : ByteArray) (l0 : List ByteArray) : Nat → Int → Option (Int)
  | 0, _ => none
  | ml1 + 1, i528 => (if i528 < (l0.length : Int) then (if 0 ≤ i528 then ((l0[i528.toNat]?).bind fun x554 => (if (a1 == x554) = true then (some i528) else (slices_Index_string_string.l1 k a1 l0 ml1 (wrap64 (i528 + 1))))) else none) else (some (-1)))
def slices_Index_string_string.f (k : Nat) (l0 : List ByteArray) (a1 : ByteArray) : Option (Int) := (slices_Index_string_string.l1 k a1 l0 k 0)
def slices_Contains_string_string.f (k : Nat) (l0 : List ByteArray) (a1 : ByteArray) : Option (Bool) := ((slices_Index_string_string.f k l0 a1).bind fun t559 => (some (decide (t559 ≥ 0))))
def goods_Right_2.f (k : Nat) (a0 : ByteArray) : Option (Bool) := ((goods_name.f k a0).bind fun t872 => (if t872 = true then (some false) else (some true)))
def slices_IndexFunc_string_string.l1 (k : Nat) (l0 : List ByteArray) : Nat → Int → Option (Int)
  | 0, _ => none
  | ml1 + 1, i934 => (if i934 < (l0.length : Int) then (if 0 ≤ i934 then ((l0[i934.toNat]?).bind fun x963 => ((goods_Right_2.f k x963).bind fun t966 => (if t966 = true then (some i934) else (slices_IndexFunc_string_string.l1 k l0 ml1 (wrap64 (i934 + 1)))))) else none) else (some (-1)))
def slices_IndexFunc_string_string.f (k : Nat) (l0 : List ByteArray) : Option (Int) := (slices_IndexFunc_string_string.l1 k l0 k 0)
def slices_ContainsFunc_string_string.f (k : Nat) (l0 : List ByteArray) : Option (Bool) := ((slices_IndexFunc_string_string.f k l0).bind fun t969 => (some (decide (t969 ≥ 0))))
def internal_bytealg_CompareString.f (a0 : ByteArray) (a1 : ByteArray) : Option (Int) := (some (Lib.compareBytes a0.data.toList a1.data.toList))
def strings_Compare.f (a0 : ByteArray) (a1 : ByteArray) : Option (Int) := ((internal_bytealg_CompareString.f a0 a1).bind fun t988 => (some t988))
def goods_rising_string.l1 (k : Nat) (a1 : Int) (l0 : List ByteArray) : Nat → Int → Option (Bool)
  | 0, _ => none
  | ml1 + 1, i1060 => (if i1060 < (l0.length : Int) then (if 0 ≤ wrap64 (i1060 - 1) then ((l0[(wrap64 (i1060 - 1)).toNat]?).bind fun x1095 => (if 0 ≤ i1060 then ((l0[i1060.toNat]?).bind fun x1097 => ((strings_Compare.f x1095 x1097).bind fun t1098 => (if t1098 ≥ 0 then (some false) else (goods_rising_string.l1 k a1 l0 ml1 (wrap64 (i1060 + 1)))))) else none)) else none) else (some (decide ((l0.length : Int) ≤ a1))))
def goods_rising_string.f (k : Nat) (l0 : List ByteArray) (a1 : Int) : Option (Bool) := (goods_rising_string.l1 k a1 l0 k 1)
def cmp_isNaN_int.f (a0 : Int) : Option (Bool) := (some (a0 != a0))
def cmp_Compare_int.f (a0 : Int) (a1 : Int) : Option (Int) := ((cmp_isNaN_int.f a0).bind fun t1121 => ((cmp_isNaN_int.f a1).bind fun t1123 => (if t1121 = true then (if t1123 = true then (some 0) else (some (-1))) else (if t1123 = true then (some 1) else (if a0 < a1 then (some (-1)) else (if a0 > a1 then (some 1) else (some 0)))))))
def cmp_Or_int.l1 (k : Nat) (l0 : List Int) : Nat → Int → Option (Int)
  | 0, _ => none
  | ml1 + 1, i1203 => (if i1203 < (l0.length : Int) then (if 0 ≤ i1203 then ((l0[i1203.toNat]?).bind fun x1229 => (if x1229 = 0 then (cmp_Or_int.l1 k l0 ml1 (wrap64 (i1203 + 1))) else (some x1229))) else none) else (some 0))
def cmp_Or_int.f (k : Nat) (l0 : List Int) : Option (Int) := (cmp_Or_int.l1 k l0 k 0)
def goods_compare.f (k : Nat) (a0_0 : ByteArray) (a0_1 : ByteArray) (a0_2 : Int) (a0_3 : Int) (a0_4 : Int) (a1_0 : ByteArray) (a1_1 : ByteArray) (a1_2 : Int) (a1_3 : Int) (a1_4 : Int) : Option (Int) := ((strings_Compare.f a0_0 a1_0).bind fun t1118 => ((cmp_Compare_int.f a0_2 a1_2).bind fun t1141 => ((cmp_Or_int.f k ([t1118, t1141] : List Int)).bind fun t1234 => (some t1234))))
def goods_rising_Sub.l1 (k : Nat) (a1 : Int) (l0 : List S93) : Nat → Int → Option (Bool)
  | 0, _ => none
  | ml1 + 1, i1306 => (if i1306 < (l0.length : Int) then (if 0 ≤ wrap64 (i1306 - 1) then ((l0[(wrap64 (i1306 - 1)).toNat]?).bind fun x1341 => (if 0 ≤ i1306 then ((l0[i1306.toNat]?).bind fun x1343 => ((goods_compare.f k x1341.f0 x1341.f1 x1341.f2 x1341.f3 x1341.f4 x1343.f0 x1343.f1 x1343.f2 x1343.f3 x1343.f4).bind fun t1344 => (if t1344 ≥ 0 then (some false) else (goods_rising_Sub.l1 k a1 l0 ml1 (wrap64 (i1306 + 1)))))) else none)) else none) else (some (decide ((l0.length : Int) ≤ a1))))
def goods_rising_Sub.f (k : Nat) (l0 : List S93) (a1 : Int) : Option (Bool) := (goods_rising_Sub.l1 k a1 l0 k 1)
def goods_Right.l1 (k : Nat) (l0_0 : List ByteArray) (l0_1 : List S93) : Nat → Int → Option (Bool)
  | 0, _ => none
  | ml1 + 1, i795 => (if i795 < (l0_1.length : Int) then (if 0 ≤ i795 then ((l0_1[i795.toNat]?).bind fun x1388 => (if i795 ≤ (l0_1.length : Int) then ((slices_ContainsFunc_api_Sub_api_Sub.f k ((l0_1.take i795.toNat).drop 0) x1388.f0 x1388.f1 x1388.f2 x1388.f3 x1388.f4).bind fun t1395 => (if t1395 = true then (some false) else ((goods_may.f k x1388.f0 x1388.f1 x1388.f2 x1388.f3 x1388.f4).bind fun t1408 => (if t1408 = true then ((slices_Contains_string_string.f k l0_0 x1388.f0).bind fun t1411 => (if t1411 = true then ((slices_Contains_string_string.f k l0_0 x1388.f1).bind fun t1414 => (if t1414 = true then (goods_Right.l1 k l0_0 l0_1 ml1 (wrap64 (i795 + 1))) else (some false))) else (some false))) else (some false))))) else none)) else none) else ((slices_ContainsFunc_string_string.f k l0_0).bind fun t1420 => (if t1420 = true then (some false) else ((goods_rising_string.f k l0_0 8).bind fun t1428 => (if t1428 = true then ((goods_rising_Sub.f k l0_1 16).bind fun t1431 => (some t1431)) else (some false))))))
def goods_Right.f (k : Nat) (l0_0 : List ByteArray) (l0_1 : List S93) : Option (Bool) := (goods_Right.l1 k l0_0 l0_1 k 0)
def queue_compare.f (k : Nat) (a0_0 : Int) (a0_1 : Int) (a0_2 : Int) (a1_0 : Int) (a1_1 : Int) (a1_2 : Int) : Option (Int) := ((cmp_Compare_int.f a0_0 a1_0).bind fun t1453 => ((cmp_Compare_int.f a0_1 a1_1).bind fun t1455 => ((cmp_Compare_int.f a0_2 a1_2).bind fun t1457 => ((cmp_Or_int.f k ([t1453, t1455, t1457] : List Int)).bind fun t1461 => (some t1461)))))
def queue_Less.f (k : Nat) (a0_0 : Int) (a0_1 : Int) (a0_2 : Int) (a1_0 : Int) (a1_1 : Int) (a1_2 : Int) : Option (Bool) := ((queue_compare.f k a0_0 a0_1 a0_2 a1_0 a1_1 a1_2).bind fun t1463 => (some (decide (t1463 < 0))))
def queue_number.f (a0 : Int) : Option (Bool) := (if a0 ≥ 1 then (some (decide (a0 ≤ 1099511627776))) else (some false))
def queue_may.f (a0_0 : Int) (a0_1 : Int) (a0_2 : Int) : Option (Bool) := (if a0_0 ≥ 0 then (if a0_0 < 4 then ((queue_number.f a0_1).bind fun t1581 => (if t1581 = true then ((queue_number.f a0_2).bind fun t1584 => (some t1584)) else (some false))) else (some false)) else (some false))
def queue_all_1.f (a0_0 : Int) (a0_1 : Int) (a0_2 : Int) : Option (Bool) := ((queue_may.f a0_0 a0_1 a0_2).bind fun t1589 => (if t1589 = true then (some false) else (some true)))
def slices_IndexFunc_api_Wait_api_Wait.l1 (k : Nat) (l0 : List S23) : Nat → Int → Option (Int)
  | 0, _ => none
  | ml1 + 1, i1651 => (if i1651 < (l0.length : Int) then (if 0 ≤ i1651 then ((l0[i1651.toNat]?).bind fun x1680 => ((queue_all_1.f x1680.f0 x1680.f1 x1680.f2).bind fun t1683 => (if t1683 = true then (some i1651) else (slices_IndexFunc_api_Wait_api_Wait.l1 k l0 ml1 (wrap64 (i1651 + 1)))))) else none) else (some (-1)))
def slices_IndexFunc_api_Wait_api_Wait.f (k : Nat) (l0 : List S23) : Option (Int) := (slices_IndexFunc_api_Wait_api_Wait.l1 k l0 k 0)
def slices_ContainsFunc_api_Wait_api_Wait.f (k : Nat) (l0 : List S23) : Option (Bool) := ((slices_IndexFunc_api_Wait_api_Wait.f k l0).bind fun t1686 => (some (decide (t1686 ≥ 0))))
def queue_all.f (k : Nat) (l0 : List S23) : Option (Bool) := (if (l0.length : Int) ≤ 64 then ((slices_ContainsFunc_api_Wait_api_Wait.f k l0).bind fun t1694 => (if t1694 = true then (some false) else (some true))) else (some false))
def queue_Right.l1 (k : Nat) (l0 : List S23) : Nat → Int → Option (Bool)
  | 0, _ => none
  | ml1 + 1, i1528 => (if i1528 < (l0.length : Int) then (if 0 ≤ i1528 then ((l0[i1528.toNat]?).bind fun x1709 => (if 0 ≤ IntKind.i64.wrap ((wrap64 (i1528 - 1)).tdiv 2) then ((l0[(IntKind.i64.wrap ((wrap64 (i1528 - 1)).tdiv 2)).toNat]?).bind fun x1711 => ((queue_Less.f k x1709.f0 x1709.f1 x1709.f2 x1711.f0 x1711.f1 x1711.f2).bind fun t1712 => (if t1712 = true then (some false) else (queue_Right.l1 k l0 ml1 (wrap64 (i1528 + 1)))))) else none)) else none) else ((queue_all.f k l0).bind fun t1715 => (some t1715)))
def queue_Right.f (k : Nat) (l0 : List S23) : Option (Bool) := (queue_Right.l1 k l0 k 1)
def waits_may.f (k : Nat) (a0_0 : ByteArray) (a0_1 : Int) (a0_2 : Int) (a0_3 : Int) : Option (Bool) := ((goods_Right.f k ([a0_0] : List ByteArray) []).bind fun t1722 => (if t1722 = true then ((queue_Right.f k ([(⟨a0_1, a0_2, a0_3⟩ : S23)] : List S23)).bind fun t1727 => (some t1727)) else (some false)))
def waits_like_is.f (a0_0 : ByteArray) (a0_1 : Int) (a0_2 : Int) (a0_3 : Int) (a1_0 : ByteArray) (a1_1 : Int) (a1_2 : Int) (a1_3 : Int) : Option (Bool) := (if a0_3 = a1_3 then (some true) else (some (a0_2 == a1_2)))
def slices_IndexFunc_api_Line_api_Line.l1 (k : Nat) (a1_90_0 : ByteArray) (a1_90_1 : Int) (a1_90_2 : Int) (a1_90_3 : Int) (l0 : List S25) : Nat → Int → Option (Int)
  | 0, _ => none
  | ml1 + 1, i1810 => (if i1810 < (l0.length : Int) then (if 0 ≤ i1810 then ((l0[i1810.toNat]?).bind fun x1839 => ((waits_like_is.f a1_90_0 a1_90_1 a1_90_2 a1_90_3 x1839.f0 x1839.f1 x1839.f2 x1839.f3).bind fun t1842 => (if t1842 = true then (some i1810) else (slices_IndexFunc_api_Line_api_Line.l1 k a1_90_0 a1_90_1 a1_90_2 a1_90_3 l0 ml1 (wrap64 (i1810 + 1)))))) else none) else (some (-1)))
def slices_IndexFunc_api_Line_api_Line.f (k : Nat) (l0 : List S25) (a1_90_0 : ByteArray) (a1_90_1 : Int) (a1_90_2 : Int) (a1_90_3 : Int) : Option (Int) := (slices_IndexFunc_api_Line_api_Line.l1 k a1_90_0 a1_90_1 a1_90_2 a1_90_3 l0 k 0)
def slices_ContainsFunc_api_Line_api_Line.f (k : Nat) (l0 : List S25) (a1_90_0 : ByteArray) (a1_90_1 : Int) (a1_90_2 : Int) (a1_90_3 : Int) : Option (Bool) := ((slices_IndexFunc_api_Line_api_Line.f k l0 a1_90_0 a1_90_1 a1_90_2 a1_90_3).bind fun t1845 => (some (decide (t1845 ≥ 0))))
def waits_all.l1 (k : Nat) (l0 : List S25) : Nat → Int → Option (Bool)
  | 0, _ => none
  | ml1 + 1, i1956 => (if i1956 < (l0.length : Int) then (if 0 ≤ i1956 then ((l0[i1956.toNat]?).bind fun x2007 => ((waits_may.f k x2007.f0 x2007.f1 x2007.f2 x2007.f3).bind fun t2011 => (if t2011 = true then (if i1956 ≤ (l0.length : Int) then ((slices_ContainsFunc_api_Line_api_Line.f k ((l0.take i1956.toNat).drop 0) x2007.f0 x2007.f1 x2007.f2 x2007.f3).bind fun t2017 => (if t2017 = true then (some false) else (waits_all.l1 k l0 ml1 (wrap64 (i1956 + 1))))) else none) else (some false)))) else none) else (some (decide ((l0.length : Int) ≤ 32))))
def waits_all.f (k : Nat) (l0 : List S25) : Option (Bool) := (waits_all.l1 k l0 k 0)
def waits_compare.f (k : Nat) (a0_0 : ByteArray) (a0_1 : Int) (a0_2 : Int) (a0_3 : Int) (a1_0 : ByteArray) (a1_1 : Int) (a1_2 : Int) (a1_3 : Int) : Option (Int) := ((queue_Less.f k a0_1 a0_2 a0_3 a1_1 a1_2 a1_3).bind fun t2040 => (if t2040 = true then ((queue_Less.f k a1_1 a1_2 a1_3 a0_1 a0_2 a0_3).bind fun t2046 => (if t2046 = true then ((strings_Compare.f a0_0 a1_0).bind fun t2049 => ((cmp_Or_int.f k ([t2049, wrap64 (1 - 1)] : List Int)).bind fun t2053 => (some t2053))) else ((strings_Compare.f a0_0 a1_0).bind fun t2055 => ((cmp_Or_int.f k ([t2055, wrap64 (0 - 1)] : List Int)).bind fun t2059 => (some t2059))))) else ((queue_Less.f k a1_1 a1_2 a1_3 a0_1 a0_2 a0_3).bind fun t2064 => (if t2064 = true then ((strings_Compare.f a0_0 a1_0).bind fun t2067 => ((cmp_Or_int.f k ([t2067, wrap64 (1 - 0)] : List Int)).bind fun t2071 => (some t2071))) else ((strings_Compare.f a0_0 a1_0).bind fun t2073 => ((cmp_Or_int.f k ([t2073, wrap64 (0 - 0)] : List Int)).bind fun t2077 => (some t2077)))))))
def slices_IsSortedFunc_api_Line_api_Line.l1 (k : Nat) (l0 : List S25) : Nat → Int → Option (Bool)
  | 0, _ => none
  | ml1 + 1, i2152 => (if i2152 > 0 then (if 0 ≤ i2152 then ((l0[i2152.toNat]?).bind fun x2186 => (if 0 ≤ wrap64 (i2152 - 1) then ((l0[(wrap64 (i2152 - 1)).toNat]?).bind fun x2188 => ((waits_compare.f k x2186.f0 x2186.f1 x2186.f2 x2186.f3 x2188.f0 x2188.f1 x2188.f2 x2188.f3).bind fun t2189 => (if t2189 < 0 then (some false) else (slices_IsSortedFunc_api_Line_api_Line.l1 k l0 ml1 (wrap64 (i2152 - 1)))))) else none)) else none) else (some true))
def slices_IsSortedFunc_api_Line_api_Line.f (k : Nat) (l0 : List S25) : Option (Bool) := (slices_IsSortedFunc_api_Line_api_Line.l1 k l0 k (wrap64 ((l0.length : Int) - 1)))
def waits_Right.f (k : Nat) (l0 : List S25) : Option (Bool) := ((waits_all.f k l0).bind fun t2195 => (if t2195 = true then ((slices_IsSortedFunc_api_Line_api_Line.f k l0).bind fun t2198 => (some t2198)) else (some false)))
def waits_at_1.f (a0_0 : ByteArray) (a0_1 : Int) (a0_2 : Int) (a0_3 : Int) (a1_0 : Int) : Option (Bool) := (some (a0_3 == a1_0))
def slices_IndexFunc_api_Line_api_Line_s42.l1 (k : Nat) (a1_0_0 : Int) (l0 : List S25) : Nat → Int → Option (Int)
  | 0, _ => none
  | ml1 + 1, i2280 => (if i2280 < (l0.length : Int) then (if 0 ≤ i2280 then ((l0[i2280.toNat]?).bind fun x2309 => ((waits_at_1.f x2309.f0 x2309.f1 x2309.f2 x2309.f3 a1_0_0).bind fun t2312 => (if t2312 = true then (some i2280) else (slices_IndexFunc_api_Line_api_Line_s42.l1 k a1_0_0 l0 ml1 (wrap64 (i2280 + 1)))))) else none) else (some (-1)))
def slices_IndexFunc_api_Line_api_Line_s42.f (k : Nat) (l0 : List S25) (a1_0_0 : Int) : Option (Int) := (slices_IndexFunc_api_Line_api_Line_s42.l1 k a1_0_0 l0 k 0)
def waits_at.f (k : Nat) (l0 : List S25) (a1 : Int) : Option (Int × Int) := ((waits_Right.f k l0).bind fun t2209 => (if t2209 = true then ((slices_IndexFunc_api_Line_api_Line_s42.f k l0 a1).bind fun t2315 => (if t2315 < 0 then (some (0, 8)) else (some (t2315, 0)))) else (some (0, 1))))
def slices_Clone_api_Line_api_Line.f (l0 : List S25) : Option (List S25) := if l0.length * 40 ≤ 140737488355328 then some l0 else none
def slices_Delete_api_Line_api_Line.f (l0 : List S25) (a1 : Int) (a2 : Int) : Option (List S25) := if 0 ≤ a1 ∧ a1 ≤ a2 ∧ a2 ≤ (l0.length : Int) then some (l0.take a1.toNat ++ l0.drop a2.toNat) else none
def waits_Drop.f (k : Nat) (l0 : List S25) (a1 : Int) : Option (List S25 × Int) := ((waits_at.f k l0 a1).bind fun ⟨t2321, t2322⟩ => (if t2322 = 0 then ((slices_Clone_api_Line_api_Line.f l0).bind fun r2329 => ((slices_Delete_api_Line_api_Line.f r2329 t2321 (wrap64 (t2321 + 1))).bind fun r2333 => (some (r2333, 0)))) else (some (([] : List S25), t2322))))
def slices_SortFunc_api_Line_api_Line.p (k : Nat) (x y : S25) : Option Int := waits_compare.f k x.f0 x.f1 x.f2 x.f3 y.f0 y.f1 y.f2 y.f3
def slices_SortFunc_api_Line_api_Line.f (k : Nat) (l0 : List S25) : Option (List S25) := if 4 ≤ k ∧ l0.length < 4611686018427387904 then some (l0.mergeSort fun x y => !decide ((slices_SortFunc_api_Line_api_Line.p k y x).getD 0 < 0)) else none
def waits_Make.f (k : Nat) (l0 : List S25) : Option (List S25 × Int) := ((waits_all.f k l0).bind fun t2391 => (if t2391 = true then ((slices_Clone_api_Line_api_Line.f l0).bind fun r2394 => ((slices_SortFunc_api_Line_api_Line.f k r2394).bind fun r2398 => (some (r2398, 0)))) else (some (([] : List S25), 1))))
def waits_Move.f (k : Nat) (l0 : List S25) (a1 : Int) (a2 : Int) : Option (List S25 × Int) := (if a2 < 0 then (some (([] : List S25), 1)) else (if a2 ≥ 4 then (some (([] : List S25), 1)) else ((waits_at.f k l0 a1).bind fun ⟨t2362, t2363⟩ => (if t2363 = 0 then ((slices_Clone_api_Line_api_Line.f l0).bind fun r2370 => (if 0 ≤ t2362 then ((r2370[t2362.toNat]?).bind fun x2375 => ((waits_Make.f k (r2370.set t2362.toNat (⟨x2375.f0, a2, x2375.f2, x2375.f3⟩ : S25))).bind fun ⟨r2402, t2403⟩ => (some (r2402, t2403)))) else none)) else (some (([] : List S25), t2363))))))
def waits_Find.f (k : Nat) (l0 : List S25) (a1 : Int) : Option (ByteArray × Int × Int × Int × Int) := ((waits_at.f k l0 a1).bind fun ⟨t2415, t2416⟩ => (if t2416 = 0 then (if 0 ≤ t2415 then ((l0[t2415.toNat]?).bind fun x2423 => (some (x2423.f0, x2423.f1, x2423.f2, x2423.f3, 0))) else none) else (some ((⟨#[]⟩ : ByteArray), 0, 0, 0, t2416))))
def waits_Of.l1 (k : Nat) (a1 : ByteArray) (l0 : List S25) : Nat → (List S23) → Int → Option (List S23 × Int)
  | 0, _, _ => none
  | ml1 + 1, l2562, i2564 => (if i2564 < (l0.length : Int) then (if 0 ≤ i2564 then ((l0[i2564.toNat]?).bind fun x2608 => (if (x2608.f0 == a1) = true then (if (l2562.length + ([(⟨x2608.f1, x2608.f2, x2608.f3⟩ : S23)] : List S23).length) * 24 ≤ 140737488355328 then (waits_Of.l1 k a1 l0 ml1 (l2562 ++ ([(⟨x2608.f1, x2608.f2, x2608.f3⟩ : S23)] : List S23)) (wrap64 (i2564 + 1))) else none) else (waits_Of.l1 k a1 l0 ml1 l2562 (wrap64 (i2564 + 1))))) else none) else (some (l2562, 0)))
def waits_Of.f (k : Nat) (l0 : List S25) (a1 : ByteArray) : Option (List S23 × Int) := ((waits_Right.f k l0).bind fun t2444 => (if t2444 = true then (waits_Of.l1 k a1 l0 k ([] : List S23) 0) else (some (([] : List S23), 1))))
def tarrylaw09_alive.f (k : Nat)  : Option (Bool) := ((waits_Make.f k ([(⟨(⟨#[99, 117, 112]⟩ : ByteArray), 1, 1, 1⟩ : S25), (⟨(⟨#[99, 117, 112]⟩ : ByteArray), 0, 7, 2⟩ : S25)] : List S25)).bind fun ⟨r2627, t2628⟩ => ((waits_Of.f k r2627 (⟨#[99, 117, 112]⟩ : ByteArray)).bind fun ⟨r2632, t2633⟩ => (if t2628 = 0 then (if t2633 = 0 then (if (r2632.length : Int) = 2 then ((r2632[0]?).bind fun x2653 => (some (x2653.f2 == 2))) else (some false)) else (some false)) else (some false))))
def tarryref07_Name.l1 (k : Nat) (a0 : ByteArray) : Nat → Int → Option (Bool)
  | 0, _ => none
  | ml1 + 1, i2896 => (if i2896 < (a0.size : Int) then (if 0 ≤ i2896 then (if i2896 < (a0.size : Int) then (if (bt a0 i2896) < 97 then (if (bt a0 i2896) < 48 then (some false) else (if (bt a0 i2896) > 57 then (some false) else (tarryref07_Name.l1 k a0 ml1 (wrap64 (i2896 + 1))))) else (if (bt a0 i2896) > 122 then (if (bt a0 i2896) < 48 then (some false) else (if (bt a0 i2896) > 57 then (some false) else (tarryref07_Name.l1 k a0 ml1 (wrap64 (i2896 + 1))))) else (tarryref07_Name.l1 k a0 ml1 (wrap64 (i2896 + 1))))) else none) else none) else (if (a0.size : Int) > 0 then (some (decide ((a0.size : Int) ≤ 16))) else (some false)))
def tarryref07_Name.f (k : Nat) (a0 : ByteArray) : Option (Bool) := (tarryref07_Name.l1 k a0 k 0)
def tarryref06_May.f (a0_0 : Int) (a0_1 : Int) (a0_2 : Int) : Option (Bool) := (if a0_0 ≥ 0 then (if a0_0 ≤ 3 then (if a0_1 ≥ 1 then (if a0_1 ≤ 1099511627776 then (if a0_2 ≥ 1 then (some (decide (a0_2 ≤ 1099511627776))) else (some false)) else (some false)) else (some false)) else (some false)) else (some false))
def tarryref09_May.f (k : Nat) (a0_0 : ByteArray) (a0_1 : Int) (a0_2 : Int) (a0_3 : Int) : Option (Bool) := ((tarryref07_Name.f k a0_0).bind fun t3049 => (if t3049 = true then ((tarryref06_May.f a0_1 a0_2 a0_3).bind fun t3052 => (some t3052)) else (some false)))
def tarryref09_Twice.l1 (k : Nat) (a1_2 : Int) (a1_3 : Int) (l0 : List S25) : Nat → Int → Option (Bool)
  | 0, _ => none
  | ml1 + 1, i3167 => (if i3167 < (l0.length : Int) then (if 0 ≤ i3167 then ((l0[i3167.toNat]?).bind fun x3211 => (if x3211.f3 = a1_3 then (some true) else (if x3211.f2 = a1_2 then (some true) else (tarryref09_Twice.l1 k a1_2 a1_3 l0 ml1 (wrap64 (i3167 + 1)))))) else none) else (some false))
def tarryref09_Twice.f (k : Nat) (l0 : List S25) (a1_0 : ByteArray) (a1_1 : Int) (a1_2 : Int) (a1_3 : Int) : Option (Bool) := (tarryref09_Twice.l1 k a1_2 a1_3 l0 k 0)
def tarryref09_All.l1 (k : Nat) (l0 : List S25) : Nat → Int → Option (Bool)
  | 0, _ => none
  | ml1 + 1, i3330 => (if i3330 < (l0.length : Int) then (if 0 ≤ i3330 then ((l0[i3330.toNat]?).bind fun x3381 => ((tarryref09_May.f k x3381.f0 x3381.f1 x3381.f2 x3381.f3).bind fun t3385 => (if t3385 = true then (if i3330 ≤ (l0.length : Int) then ((tarryref09_Twice.f k ((l0.take i3330.toNat).drop 0) x3381.f0 x3381.f1 x3381.f2 x3381.f3).bind fun t3391 => (if t3391 = true then (some false) else (tarryref09_All.l1 k l0 ml1 (wrap64 (i3330 + 1))))) else none) else (some false)))) else none) else (some (decide ((l0.length : Int) ≤ 32))))
def tarryref09_All.f (k : Nat) (l0 : List S25) : Option (Bool) := (tarryref09_All.l1 k l0 k 0)
def tarryref07_Less.l1 (k : Nat) (a0 : ByteArray) (a1 : ByteArray) : Nat → Int → Option (Bool)
  | 0, _ => none
  | ml1 + 1, i3516 => (if i3516 < (a0.size : Int) then (if i3516 < (a1.size : Int) then (if 0 ≤ i3516 then (if i3516 < (a0.size : Int) then (if i3516 < (a1.size : Int) then (if (bt a0 i3516) = (bt a1 i3516) then (tarryref07_Less.l1 k a0 a1 ml1 (wrap64 (i3516 + 1))) else (some (decide ((bt a0 i3516) < (bt a1 i3516))))) else none) else none) else none) else (some (decide ((a0.size : Int) < (a1.size : Int))))) else (some (decide ((a0.size : Int) < (a1.size : Int)))))
def tarryref07_Less.f (k : Nat) (a0 : ByteArray) (a1 : ByteArray) : Option (Bool) := (tarryref07_Less.l1 k a0 a1 k 0)
def tarryref06_Less.f (a0_0 : Int) (a0_1 : Int) (a0_2 : Int) (a1_0 : Int) (a1_1 : Int) (a1_2 : Int) : Option (Bool) := (if a0_0 = a1_0 then (if a0_1 = a1_1 then (some (decide (a0_2 < a1_2))) else (some (decide (a0_1 < a1_1)))) else (some (decide (a0_0 < a1_0))))
def tarryref09_Less.f (k : Nat) (a0_0 : ByteArray) (a0_1 : Int) (a0_2 : Int) (a0_3 : Int) (a1_0 : ByteArray) (a1_1 : Int) (a1_2 : Int) (a1_3 : Int) : Option (Bool) := ((tarryref07_Less.f k a0_0 a1_0).bind fun t3595 => (if t3595 = true then (some true) else (if (a0_0 == a1_0) = true then ((tarryref06_Less.f a0_1 a0_2 a0_3 a1_1 a1_2 a1_3).bind fun t3600 => (some t3600)) else (some false))))
def tarryref09_Make.l9 (k : Nat) (rec_l5 : (List S25) → Int → Option (List S25)) (i4897 : Int) (l4896 : List S25) (x5390 : S25) : Nat → Int → Option (List S25)
  | 0, _ => none
  | ml9 + 1, i5447 => (if i5447 < (l4896.length : Int) then (if 0 ≤ i5447 then ((l4896[i5447.toNat]?).bind fun x5509 => ((tarryref09_Less.f k x5509.f0 x5509.f1 x5509.f2 x5509.f3 x5390.f0 x5390.f1 x5390.f2 x5390.f3).bind fun t5510 => (if t5510 = true then (tarryref09_Make.l9 k rec_l5 i4897 l4896 x5390 ml9 (wrap64 (i5447 + 1))) else (if i5447 ≤ (l4896.length : Int) then (if (([] : List S25).length + ((l4896.take i5447.toNat).drop 0).length) * 40 ≤ 140737488355328 then (if ((([] : List S25) ++ ((l4896.take i5447.toNat).drop 0)).length + ([x5390] : List S25).length) * 40 ≤ 140737488355328 then (if (((([] : List S25) ++ ((l4896.take i5447.toNat).drop 0)) ++ ([x5390] : List S25)).length + ((l4896.take l4896.length).drop i5447.toNat).length) * 40 ≤ 140737488355328 then (rec_l5 (((([] : List S25) ++ ((l4896.take i5447.toNat).drop 0)) ++ ([x5390] : List S25)) ++ ((l4896.take l4896.length).drop i5447.toNat)) (wrap64 (i4897 + 1))) else none) else none) else none) else none)))) else none) else (if 0 ≤ i5447 then (if i5447 ≤ (l4896.length : Int) then (if (([] : List S25).length + ((l4896.take i5447.toNat).drop 0).length) * 40 ≤ 140737488355328 then (if ((([] : List S25) ++ ((l4896.take i5447.toNat).drop 0)).length + ([x5390] : List S25).length) * 40 ≤ 140737488355328 then (if (((([] : List S25) ++ ((l4896.take i5447.toNat).drop 0)) ++ ([x5390] : List S25)).length + ((l4896.take l4896.length).drop i5447.toNat).length) * 40 ≤ 140737488355328 then (rec_l5 (((([] : List S25) ++ ((l4896.take i5447.toNat).drop 0)) ++ ([x5390] : List S25)) ++ ((l4896.take l4896.length).drop i5447.toNat)) (wrap64 (i4897 + 1))) else none) else none) else none) else none) else none))
def tarryref09_Make.l5 (k : Nat) (l0 : List S25) : Nat → (List S25) → Int → Option (List S25)
  | 0, _, _ => none
  | ml5 + 1, l4896, i4897 => (if i4897 < (l0.length : Int) then (if 0 ≤ i4897 then ((l0[i4897.toNat]?).bind fun x5390 => (tarryref09_Make.l9 k (tarryref09_Make.l5 k l0 ml5) i4897 l4896 x5390 k 0)) else none) else (some l4896))
def tarryref09_Make.f (k : Nat) (l0 : List S25) : Option (List S25) := (tarryref09_Make.l5 k l0 k ([] : List S25) 0)
def tarryref09_Same.l1 (k : Nat) (l0 : List S25) (l1 : List S25) : Nat → Int → Option (Bool)
  | 0, _ => none
  | ml1 + 1, i5613 => (if i5613 < (l0.length : Int) then (if 0 ≤ i5613 then ((l0[i5613.toNat]?).bind fun x5636 => ((l1[i5613.toNat]?).bind fun x5637 => (if (((x5636.f0 == x5637.f0) && ((x5636.f1 == x5637.f1) && ((x5636.f2 == x5637.f2) && (x5636.f3 == x5637.f3))))) = true then (tarryref09_Same.l1 k l0 l1 ml1 (wrap64 (i5613 + 1))) else (some false)))) else none) else (some true))
def tarryref09_Same.f (k : Nat) (l0 : List S25) (l1 : List S25) : Option (Bool) := (if (l0.length : Int) = (l1.length : Int) then (tarryref09_Same.l1 k l0 l1 k 0) else (some false))
def tarryref09_Right.f (k : Nat) (l0 : List S25) : Option (Bool) := ((tarryref09_All.f k l0).bind fun t5642 => (if t5642 = true then ((tarryref09_Make.f k l0).bind fun r5645 => ((tarryref09_Same.f k r5645 l0).bind fun t5649 => (some t5649))) else (some false)))
def tarryref09_Of.l1 (k : Nat) (a1 : ByteArray) (l0 : List S25) : Nat → (List S23) → Int → Option (List S23)
  | 0, _, _ => none
  | ml1 + 1, l5800, i5801 => (if i5801 < (l0.length : Int) then (if 0 ≤ i5801 then ((l0[i5801.toNat]?).bind fun x5845 => (if (x5845.f0 == a1) = true then (if (l5800.length + ([(⟨x5845.f1, x5845.f2, x5845.f3⟩ : S23)] : List S23).length) * 24 ≤ 140737488355328 then (tarryref09_Of.l1 k a1 l0 ml1 (l5800 ++ ([(⟨x5845.f1, x5845.f2, x5845.f3⟩ : S23)] : List S23)) (wrap64 (i5801 + 1))) else none) else (tarryref09_Of.l1 k a1 l0 ml1 l5800 (wrap64 (i5801 + 1))))) else none) else (some l5800))
def tarryref09_Of.f (k : Nat) (l0 : List S25) (a1 : ByteArray) : Option (List S23) := (tarryref09_Of.l1 k a1 l0 k ([] : List S23) 0)
def tarryref06_Same.l1 (k : Nat) (l0 : List S23) (l1 : List S23) : Nat → Int → Option (Bool)
  | 0, _ => none
  | ml1 + 1, i5919 => (if i5919 < (l0.length : Int) then (if 0 ≤ i5919 then ((l0[i5919.toNat]?).bind fun x5942 => ((l1[i5919.toNat]?).bind fun x5943 => (if (((x5942.f0 == x5943.f0) && ((x5942.f1 == x5943.f1) && (x5942.f2 == x5943.f2)))) = true then (tarryref06_Same.l1 k l0 l1 ml1 (wrap64 (i5919 + 1))) else (some false)))) else none) else (some true))
def tarryref06_Same.f (k : Nat) (l0 : List S23) (l1 : List S23) : Option (Bool) := (if (l0.length : Int) = (l1.length : Int) then (tarryref06_Same.l1 k l0 l1 k 0) else (some false))
def tarryref09_At.l1 (k : Nat) (a1 : Int) (l0 : List S25) : Nat → Int → Option (Int)
  | 0, _ => none
  | ml1 + 1, i6042 => (if i6042 < (l0.length : Int) then (if 0 ≤ i6042 then ((l0[i6042.toNat]?).bind fun x6071 => (if x6071.f3 = a1 then (some i6042) else (tarryref09_At.l1 k a1 l0 ml1 (wrap64 (i6042 + 1))))) else none) else (some (-1)))
def tarryref09_At.f (k : Nat) (l0 : List S25) (a1 : Int) : Option (Int) := (tarryref09_At.l1 k a1 l0 k 0)
def tarryref09_Without.l1 (k : Nat) (a1 : Int) (l0 : List S25) : Nat → (List S25) → Int → Option (List S25)
  | 0, _, _ => none
  | ml1 + 1, l6229, i6230 => (if i6230 < (l0.length : Int) then (if 0 ≤ i6230 then ((l0[i6230.toNat]?).bind fun x6274 => (if x6274.f3 = a1 then (tarryref09_Without.l1 k a1 l0 ml1 l6229 (wrap64 (i6230 + 1))) else (if (l6229.length + ([x6274] : List S25).length) * 40 ≤ 140737488355328 then (tarryref09_Without.l1 k a1 l0 ml1 (l6229 ++ ([x6274] : List S25)) (wrap64 (i6230 + 1))) else none))) else none) else (some l6229))
def tarryref09_Without.f (k : Nat) (l0 : List S25) (a1 : Int) : Option (List S25) := (tarryref09_Without.l1 k a1 l0 k ([] : List S25) 0)
def tarryref09_With.f (k : Nat) (l0 : List S25) (a1_0 : ByteArray) (a1_1 : Int) (a1_2 : Int) (a1_3 : Int) : Option (List S25) := (if (([] : List S25).length + l0.length) * 40 ≤ 140737488355328 then (if ((([] : List S25) ++ l0).length + ([(⟨a1_0, a1_1, a1_2, a1_3⟩ : S25)] : List S25).length) * 40 ≤ 140737488355328 then ((tarryref09_Make.f k ((([] : List S25) ++ l0) ++ ([(⟨a1_0, a1_1, a1_2, a1_3⟩ : S25)] : List S25))).bind fun r6301 => (some r6301)) else none) else none)
def tarrylaw09_WaitsGo.j4 (k : Nat) (a1 : Int) (r133 : List S25) (r2338 : List S25) (t2339 : Int) (t2426 : ByteArray) (t2427 : Int) (t2428 : Int) (t2429 : Int) (t2430 : Int) (t6902 : Int)  : Option (Bool) := (if t6902 < 0 then (if t2339 = 8 then (if t2430 = 8 then (if (r2338.length : Int) = 0 then (some (((t2426 == (⟨#[]⟩ : ByteArray)) && ((t2427 == 0) && ((t2428 == 0) && (t2429 == 0)))))) else none) else none) else none) else (if t2339 = 0 then ((tarryref09_Without.f k r133 a1).bind fun r7442 => ((tarryref09_Same.f k r2338 r7442).bind fun t7446 => (if t7446 = true then (if t2430 = 0 then (if 0 ≤ t6902 then ((r133[t6902.toNat]?).bind fun x7452 => (some (((t2426 == x7452.f0) && ((t2427 == x7452.f1) && ((t2428 == x7452.f2) && (t2429 == x7452.f3))))))) else none) else none) else none))) else none))
def tarrylaw09_WaitsGo.j2 (k : Nat) (a1 : Int) (a2 : Int) (a3 : ByteArray) (r133 : List S25) (r2338 : List S25) (r2408 : List S25) (r2620 : List S23) (t2339 : Int) (t2409 : Int) (t2426 : ByteArray) (t2427 : Int) (t2428 : Int) (t2429 : Int) (t2430 : Int) (t2621 : Int) (q6842 : Bool) : Option (Bool) := (if q6842 = true then (if t2339 = 1 then (if t2409 = 1 then (if t2430 = 1 then (if t2621 = 1 then (if (wrap64 ((wrap64 ((r2338.length : Int) + (r2408.length : Int))) + (r2620.length : Int))) = 0 then (some (((t2426 == (⟨#[]⟩ : ByteArray)) && ((t2427 == 0) && ((t2428 == 0) && (t2429 == 0)))))) else none) else none) else none) else none) else none) else (if t2621 = 0 then ((tarryref09_Of.f k r133 (a3.extract 0 ((mn (a3.size : Int) 18).toNat))).bind fun r6895 => ((tarryref06_Same.f k r2620 r6895).bind fun t6899 => (if t6899 = true then ((tarryref09_At.f k r133 a1).bind fun t6902 => (if a2 < 0 then (if t2409 = 1 then (if (r2408.length : Int) = 0 then (tarrylaw09_WaitsGo.j4 k a1 r133 r2338 t2339 t2426 t2427 t2428 t2429 t2430 t6902) else none) else none) else (if a2 > 3 then (if t2409 = 1 then (if (r2408.length : Int) = 0 then (tarrylaw09_WaitsGo.j4 k a1 r133 r2338 t2339 t2426 t2427 t2428 t2429 t2430 t6902) else none) else none) else (if t6902 < 0 then (if t2409 = 8 then (if (r2408.length : Int) = 0 then (tarrylaw09_WaitsGo.j4 k a1 r133 r2338 t2339 t2426 t2427 t2428 t2429 t2430 t6902) else none) else none) else (if 0 ≤ t6902 then ((r133[t6902.toNat]?).bind fun x7391 => (if t2409 = 0 then ((tarryref09_Without.f k r133 a1).bind fun r7397 => ((tarryref09_With.f k r7397 x7391.f0 a2 x7391.f2 x7391.f3).bind fun r7401 => ((tarryref09_Same.f k r2408 r7401).bind fun t7405 => (if t7405 = true then (tarrylaw09_WaitsGo.j4 k a1 r133 r2338 t2339 t2426 t2427 t2428 t2429 t2430 t6902) else none)))) else none)) else none))))) else none))) else none))
def tarrylaw09_WaitsGo.f (k : Nat) (l0 : List S25) (a1 : Int) (a2 : Int) (a3 : ByteArray) : Option (Bool) := ((tarrylaw09_few.f k l0).bind fun r133 => (if 0 ≤ mn (a3.size : Int) 18 then (if (mn (a3.size : Int) 18) ≤ (a3.size : Int) then ((waits_Drop.f k r133 a1).bind fun ⟨r2338, t2339⟩ => ((waits_Move.f k r133 a1 a2).bind fun ⟨r2408, t2409⟩ => ((waits_Find.f k r133 a1).bind fun ⟨t2426, t2427, t2428, t2429, t2430⟩ => ((waits_Of.f k r133 (a3.extract 0 ((mn (a3.size : Int) 18).toNat))).bind fun ⟨r2620, t2621⟩ => ((tarrylaw09_alive.f k).bind fun t2666 => (if t2666 = true then ((tarryref09_Right.f k r133).bind fun t6839 => (if t6839 = true then (tarrylaw09_WaitsGo.j2 k a1 a2 a3 r133 r2338 r2408 r2620 t2339 t2409 t2426 t2427 t2428 t2429 t2430 t2621 false) else (tarrylaw09_WaitsGo.j2 k a1 a2 a3 r133 r2338 r2408 r2620 t2339 t2409 t2426 t2427 t2428 t2429 t2430 t2621 true))) else none)))))) else none) else none))
/-- THE ONE PURE STATEMENT. -/
def tarrylaw09_WaitsGo.Pure : Prop := ∀ (l0 : List S25) (a1 : Int) (a2 : Int) (a3 : ByteArray), allOk ok25 l0 → (Lit.int .i64 a1).wf = true → (Lit.int .i64 a2).wf = true → a3.size ≤ 140737488351232 → ∃ k, tarrylaw09_WaitsGo.f k l0 a1 a2 a3 = some true

end Go.Proofs.Ytdofmkbffffbpaa.PWaitsGo
