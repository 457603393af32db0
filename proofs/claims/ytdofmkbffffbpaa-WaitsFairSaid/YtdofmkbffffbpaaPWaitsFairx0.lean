/- Written by a program of this repo: what the program's functions do, each as a Lean function, shown of the loaded code; or a statement's row over that; no condition of its own. -/
import Derived.Test.YtdofmkbffffbpaaProg
import Derived.Test.YtdofmkbffffbpaaV19
import Derived.Shelf.SlSortCmp.NoneTotal
namespace Go.Proofs.Ytdofmkbffffbpaa.PWaitsFair
open Go Go.RowKit Go.Proofs.YtdofmkbffffbpaaV
set_option linter.unusedVariables false
set_option linter.unusedSimpArgs false

structure S25 where
  f0 : ByteArray
  f1 : Int
  f2 : Int
  f3 : Int
def enc25 (x : S25) : List Value := [.string x.f0, .int .i64 x.f1, .int .i64 x.f2, .int .i64 x.f3]
theorem enc25_ok (a : S25) : (enc25 a).length = 4 ∧ ∀ u ∈ enc25 a, u.oneCell' = true := ⟨rfl, by intro u hu; simp only [enc25, List.mem_cons, List.not_mem_nil, or_false] at hu; rcases hu with rfl | rfl | rfl | rfl <;> rfl⟩
def ok25 (x : S25) : Prop := x.f0.size ≤ 9223372036854775807 ∧ (Lit.int .i64 x.f1).wf = true ∧ (Lit.int .i64 x.f2).wf = true ∧ (Lit.int .i64 x.f3).wf = true
structure S93 where
  f0 : ByteArray
  f1 : ByteArray
  f2 : Int
  f3 : Int
  f4 : Int
def enc93 (x : S93) : List Value := [.string x.f0, .string x.f1, .int .i64 x.f2, .int .i64 x.f3, .int .i64 x.f4]
theorem enc93_ok (a : S93) : (enc93 a).length = 5 ∧ ∀ u ∈ enc93 a, u.oneCell' = true := ⟨rfl, by intro u hu; simp only [enc93, List.mem_cons, List.not_mem_nil, or_false] at hu; rcases hu with rfl | rfl | rfl | rfl | rfl <;> rfl⟩
def ok93 (x : S93) : Prop := x.f0.size ≤ 9223372036854775807 ∧ x.f1.size ≤ 9223372036854775807 ∧ (Lit.int .i64 x.f2).wf = true ∧ (Lit.int .i64 x.f3).wf = true ∧ (Lit.int .i64 x.f4).wf = true
structure S23 where
  f0 : Int
  f1 : Int
  f2 : Int
def enc23 (x : S23) : List Value := [.int .i64 x.f0, .int .i64 x.f1, .int .i64 x.f2]
theorem enc23_ok (a : S23) : (enc23 a).length = 3 ∧ ∀ u ∈ enc23 a, u.oneCell' = true := ⟨rfl, by intro u hu; simp only [enc23, List.mem_cons, List.not_mem_nil, or_false] at hu; rcases hu with rfl | rfl | rfl <;> rfl⟩
def ok23 (x : S23) : Prop := (Lit.int .i64 x.f0).wf = true ∧ (Lit.int .i64 x.f1).wf = true ∧ (Lit.int .i64 x.f2).wf = true
def enc_str (x : ByteArray) : List Value := [.string x]
theorem enc_str_ok (a : ByteArray) : (enc_str a).length = 1 ∧ ∀ u ∈ enc_str a, u.oneCell' = true := ⟨rfl, by intro u hu; simp only [enc_str, List.mem_cons, List.not_mem_nil, or_false] at hu; rcases hu with rfl; rfl⟩
def enc_intu8 (x : Int) : List Value := [.int .u8 x]
theorem enc_intu8_ok (a : Int) : (enc_intu8 a).length = 1 ∧ ∀ u ∈ enc_intu8 a, u.oneCell' = true := ⟨rfl, by intro u hu; simp only [enc_intu8, List.mem_cons, List.not_mem_nil, or_false] at hu; rcases hu with rfl; rfl⟩
def enc_inti64 (x : Int) : List Value := [.int .i64 x]
theorem enc_inti64_ok (a : Int) : (enc_inti64 a).length = 1 ∧ ∀ u ∈ enc_inti64 a, u.oneCell' = true := ⟨rfl, by intro u hu; simp only [enc_inti64, List.mem_cons, List.not_mem_nil, or_false] at hu; rcases hu with rfl; rfl⟩
theorem VC.join0 {E : Env} {P : Program} {Q : Exit → Act → World → Prop} {s : St}  {c1 c2 : Code} (I : St) (F : Prop) (hx : VC P E c1 (Exit.then (fun a w => F ∧ Inv E (I) a w) Q) s) (hy : F → VC P E c2 Q (I)) : VC P E (.seq c1 c2) Q s :=
  fun a w hi => wpIn_seq (Code.wpIn_mono (fun e a w h => by
    cases e <;> first | exact h | (obtain ⟨hf, hi⟩ := h; exact hy  hf a w hi)) (hx a w hi))
theorem VN.meet0 {E : Env} {Q : Exit → Act → World → Prop} {s : St}  {I : St} {F : Prop}  (bs rs : List Nat) (hf : F) (hl : Le s (I) bs rs) : VN E (Exit.then (fun a w => F ∧ Inv E (I) a w) Q) s :=
  fun a w hi => ⟨hf, hi.le hl⟩
theorem VC.join1 {E : Env} {P : Program} {Q : Exit → Act → World → Prop} {s : St} {α0 : Type} {c1 c2 : Code} (I : α0 → St) (F : α0 → Prop) (hx : VC P E c1 (Exit.then (fun a w => ∃ (x0 : α0), F x0 ∧ Inv E (I x0) a w) Q) s) (hy : ∀ (x0 : α0), F x0 → VC P E c2 Q (I x0)) : VC P E (.seq c1 c2) Q s :=
  fun a w hi => wpIn_seq (Code.wpIn_mono (fun e a w h => by
    cases e <;> first | exact h | (obtain ⟨x0, hf, hi⟩ := h; exact hy x0 hf a w hi)) (hx a w hi))
theorem VN.meet1 {E : Env} {Q : Exit → Act → World → Prop} {s : St} {α0 : Type} {I : α0 → St} {F : α0 → Prop} (x0 : α0) (bs rs : List Nat) (hf : F x0) (hl : Le s (I x0) bs rs) : VN E (Exit.then (fun a w => ∃ (x0 : α0), F x0 ∧ Inv E (I x0) a w) Q) s :=
  fun a w hi => ⟨x0, hf, hi.le hl⟩
theorem VC.loop1 {E : Env} {P : Program} {Q : Exit → Act → World → Prop} {s : St} {α0 : Type} {c : Code} (I : α0 → St) (F : Nat → α0 → Prop) (k : Nat) (x0 : α0) (bs rs : List Nat) (hf : F k x0) (hl : Le s (I x0) bs rs) (hz : ∀ (x0 : α0), ¬ F 0 x0) (h : ∀ k, (∀ (x0 : α0), F k x0 → VLp P E c Q k (I x0)) → ∀ (x0 : α0), F (k + 1) x0 → VC P E c (Exit.then (Code.roundsIn E.F 0 P c Q k) Q) (I x0)) : VC P E (.loop c) Q s := by
  have key : ∀ k (x0 : α0), F k x0 → VLp P E c Q k (I x0) := by
    intro k
    induction k with
    | zero => intro x0 hf; exact absurd hf (hz x0)
    | succ k ih => intro x0 hf; exact VLp.succ (h k ih x0 hf)
  exact fun a w hi => wpIn_loop_rounds k (key k x0 hf a w (hi.le hl))
theorem VC.loop2 {E : Env} {P : Program} {Q : Exit → Act → World → Prop} {s : St} {α0 : Type} {α1 : Type} {c : Code} (I : α0 → α1 → St) (F : Nat → α0 → α1 → Prop) (k : Nat) (x0 : α0) (x1 : α1) (bs rs : List Nat) (hf : F k x0 x1) (hl : Le s (I x0 x1) bs rs) (hz : ∀ (x0 : α0) (x1 : α1), ¬ F 0 x0 x1) (h : ∀ k, (∀ (x0 : α0) (x1 : α1), F k x0 x1 → VLp P E c Q k (I x0 x1)) → ∀ (x0 : α0) (x1 : α1), F (k + 1) x0 x1 → VC P E c (Exit.then (Code.roundsIn E.F 0 P c Q k) Q) (I x0 x1)) : VC P E (.loop c) Q s := by
  have key : ∀ k (x0 : α0) (x1 : α1), F k x0 x1 → VLp P E c Q k (I x0 x1) := by
    intro k
    induction k with
    | zero => intro x0 x1 hf; exact absurd hf (hz x0 x1)
    | succ k ih => intro x0 x1 hf; exact VLp.succ (h k ih x0 x1 hf)
  exact fun a w hi => wpIn_loop_rounds k (key k x0 x1 hf a w (hi.le hl))
theorem VC.loop3 {E : Env} {P : Program} {Q : Exit → Act → World → Prop} {s : St} {α0 : Type} {α1 : Type} {α2 : Type} {c : Code} (I : α0 → α1 → α2 → St) (F : Nat → α0 → α1 → α2 → Prop) (k : Nat) (x0 : α0) (x1 : α1) (x2 : α2) (bs rs : List Nat) (hf : F k x0 x1 x2) (hl : Le s (I x0 x1 x2) bs rs) (hz : ∀ (x0 : α0) (x1 : α1) (x2 : α2), ¬ F 0 x0 x1 x2) (h : ∀ k, (∀ (x0 : α0) (x1 : α1) (x2 : α2), F k x0 x1 x2 → VLp P E c Q k (I x0 x1 x2)) → ∀ (x0 : α0) (x1 : α1) (x2 : α2), F (k + 1) x0 x1 x2 → VC P E c (Exit.then (Code.roundsIn E.F 0 P c Q k) Q) (I x0 x1 x2)) : VC P E (.loop c) Q s := by
  have key : ∀ k (x0 : α0) (x1 : α1) (x2 : α2), F k x0 x1 x2 → VLp P E c Q k (I x0 x1 x2) := by
    intro k
    induction k with
    | zero => intro x0 x1 x2 hf; exact absurd hf (hz x0 x1 x2)
    | succ k ih => intro x0 x1 x2 hf; exact VLp.succ (h k ih x0 x1 x2 hf)
  exact fun a w hi => wpIn_loop_rounds k (key k x0 x1 x2 hf a w (hi.le hl))
theorem VC.stop0 {E : Env} {P : Program} {Q : Exit → Act → World → Prop} {s : St}  {c1 : Code} (I : St) (F : Prop) (hx : VC P E c1 (Exit.then (fun a w => F ∧ Inv E (I) a w) Q) s) (hy : F → VN E Q (I)) : VC P E c1 Q s :=
  fun a w hi => Code.wpIn_mono (fun e a w h => by
    cases e <;> first | exact h | (obtain ⟨hf, hi⟩ := h; exact hy  hf a w hi)) (hx a w hi)
theorem VC.stop1 {E : Env} {P : Program} {Q : Exit → Act → World → Prop} {s : St} {α0 : Type} {c1 : Code} (I : α0 → St) (F : α0 → Prop) (hx : VC P E c1 (Exit.then (fun a w => ∃ (x0 : α0), F x0 ∧ Inv E (I x0) a w) Q) s) (hy : ∀ (x0 : α0), F x0 → VN E Q (I x0)) : VC P E c1 Q s :=
  fun a w hi => Code.wpIn_mono (fun e a w h => by
    cases e <;> first | exact h | (obtain ⟨x0, hf, hi⟩ := h; exact hy x0 hf a w hi)) (hx a w hi)
theorem TI26 : TI Try.prog 26 true 4 := ⟨⟨_, Try.underlying26, rfl⟩, by kernel_rfl⟩
theorem Z26 : (Try.prog.info? 26).bind (·.zero) = some (.agg #[.string (⟨#[]⟩ : ByteArray), .int .i64 0, .int .i64 0, .int .i64 0]) := by kernel_rfl
theorem ZL26 : (.agg #[.string (⟨#[]⟩ : ByteArray), .int .i64 0, .int .i64 0, .int .i64 0] : Value).cells.toList = [.string (⟨#[]⟩ : ByteArray), .int .i64 0, .int .i64 0, .int .i64 0] := rfl
theorem TI9 : TI Try.prog 9 false 1 := ⟨⟨_, Try.underlying9, rfl⟩, by kernel_rfl⟩
theorem FI26_0 : FI Try.prog 26 0 0 1 := ⟨_, _, _, Try.underlying26, rfl, rfl, TI9⟩
theorem FO8 : FOk Try.prog 8 := ⟨_, Try.func8, by kernel_rfl, by kernel_rfl⟩
theorem EI26 : EI Try.prog 26 4 40 := ei_of (z := .agg #[.string (⟨#[]⟩ : ByteArray), .int .i64 0, .int .i64 0, .int .i64 0]) (by kernel_rfl) rfl (by decide) (by decide)
theorem FO7 : FOk Try.prog 7 := ⟨_, Try.func7, by kernel_rfl, by kernel_rfl⟩
theorem Z9 : (Try.prog.info? 9).bind (·.zero) = some (.string (⟨#[]⟩ : ByteArray)) := by kernel_rfl
theorem TI72 : TI Try.prog 72 false 1 := ⟨⟨_, Try.underlying72, rfl⟩, by kernel_rfl⟩
theorem TI73 : TI Try.prog 73 false 1 := ⟨⟨_, Try.underlying73, rfl⟩, by kernel_rfl⟩
theorem Z75 : (Try.prog.info? 75).bind (·.zero) = some (.agg #[.slice none 0 0, .slice none 0 0]) := by kernel_rfl
theorem SI75 : SI Try.prog 75 [.slice none 0 0, .slice none 0 0] [(0, 1), (1, 1)] := ⟨⟨_, Try.underlying75, (.cons ⟨rfl, _, TI72⟩ (.cons ⟨rfl, _, TI73⟩ .nil))⟩, Z75⟩
theorem FI75_1 : FI Try.prog 75 1 1 1 := ⟨_, _, _, Try.underlying75, rfl, rfl, TI73⟩
theorem TI94 : TI Try.prog 94 true 5 := ⟨⟨_, Try.underlying94, rfl⟩, by kernel_rfl⟩
theorem Z94 : (Try.prog.info? 94).bind (·.zero) = some (.agg #[.string (⟨#[]⟩ : ByteArray), .string (⟨#[]⟩ : ByteArray), .int .i64 0, .int .i64 0, .int .i64 0]) := by kernel_rfl
theorem ZL94 : (.agg #[.string (⟨#[]⟩ : ByteArray), .string (⟨#[]⟩ : ByteArray), .int .i64 0, .int .i64 0, .int .i64 0] : Value).cells.toList = [.string (⟨#[]⟩ : ByteArray), .string (⟨#[]⟩ : ByteArray), .int .i64 0, .int .i64 0, .int .i64 0] := rfl
theorem FI94_0 : FI Try.prog 94 0 0 1 := ⟨_, _, _, Try.underlying94, rfl, rfl, TI9⟩
theorem FI94_1 : FI Try.prog 94 1 1 1 := ⟨_, _, _, Try.underlying94, rfl, rfl, TI9⟩
theorem FO67 : FOk Try.prog 67 := ⟨_, Try.func67, by kernel_rfl, by kernel_rfl⟩
theorem FO84 : FOk Try.prog 84 := ⟨_, Try.func84, by kernel_rfl, by kernel_rfl⟩
theorem FO66 : FOk Try.prog 66 := ⟨_, Try.func66, by kernel_rfl, by kernel_rfl⟩
theorem TI5 : TI Try.prog 5 false 1 := ⟨⟨_, Try.underlying5, rfl⟩, by kernel_rfl⟩
theorem FO88 : FOk Try.prog 88 := ⟨_, Try.func88, by kernel_rfl, by kernel_rfl⟩
theorem FO94 : FOk Try.prog 94 := ⟨_, Try.func94, by kernel_rfl, by kernel_rfl⟩
theorem FO89 : FOk Try.prog 89 := ⟨_, Try.func89, by kernel_rfl, by kernel_rfl⟩
theorem FO72 : FOk Try.prog 72 := ⟨_, Try.func72, by kernel_rfl, by kernel_rfl⟩
theorem TI3 : TI Try.prog 3 false 1 := ⟨⟨_, Try.underlying3, rfl⟩, by kernel_rfl⟩
theorem FI94_2 : FI Try.prog 94 2 2 1 := ⟨_, _, _, Try.underlying94, rfl, rfl, TI3⟩
theorem FO85 : FOk Try.prog 85 := ⟨_, Try.func85, by kernel_rfl, by kernel_rfl⟩
theorem FI94_3 : FI Try.prog 94 3 3 1 := ⟨_, _, _, Try.underlying94, rfl, rfl, TI3⟩
theorem FI94_4 : FI Try.prog 94 4 4 1 := ⟨_, _, _, Try.underlying94, rfl, rfl, TI3⟩
theorem FO68 : FOk Try.prog 68 := ⟨_, Try.func68, by kernel_rfl, by kernel_rfl⟩
theorem FI75_0 : FI Try.prog 75 0 0 1 := ⟨_, _, _, Try.underlying75, rfl, rfl, TI72⟩
theorem FO86 : FOk Try.prog 86 := ⟨_, Try.func86, by kernel_rfl, by kernel_rfl⟩
theorem FO69 : FOk Try.prog 69 := ⟨_, Try.func69, by kernel_rfl, by kernel_rfl⟩
theorem FO71 : FOk Try.prog 71 := ⟨_, Try.func71, by kernel_rfl, by kernel_rfl⟩
theorem FO87 : FOk Try.prog 87 := ⟨_, Try.func87, by kernel_rfl, by kernel_rfl⟩
theorem FO70 : FOk Try.prog 70 := ⟨_, Try.func70, by kernel_rfl, by kernel_rfl⟩
theorem FO65 : FOk Try.prog 65 := ⟨_, Try.func65, by kernel_rfl, by kernel_rfl⟩
theorem FO47 : FOk Try.prog 47 := ⟨_, Try.func47, by kernel_rfl, by kernel_rfl⟩
theorem FO73 : FOk Try.prog 73 := ⟨_, Try.func73, by kernel_rfl, by kernel_rfl⟩
theorem FO77 : FOk Try.prog 77 := ⟨_, Try.func77, by kernel_rfl, by kernel_rfl⟩
theorem FO54 : FOk Try.prog 54 := ⟨_, Try.func54, by kernel_rfl, by kernel_rfl⟩
theorem Z3 : (Try.prog.info? 3).bind (·.zero) = some (.int .i64 0) := by kernel_rfl
theorem FO46 : FOk Try.prog 46 := ⟨_, Try.func46, by kernel_rfl, by kernel_rfl⟩
theorem FO75 : FOk Try.prog 75 := ⟨_, Try.func75, by kernel_rfl, by kernel_rfl⟩
theorem FO74 : FOk Try.prog 74 := ⟨_, Try.func74, by kernel_rfl, by kernel_rfl⟩
theorem FO48 : FOk Try.prog 48 := ⟨_, Try.func48, by kernel_rfl, by kernel_rfl⟩
theorem TI24 : TI Try.prog 24 true 3 := ⟨⟨_, Try.underlying24, rfl⟩, by kernel_rfl⟩
theorem FI26_1 : FI Try.prog 26 1 1 3 := ⟨_, _, _, Try.underlying26, rfl, rfl, TI24⟩
theorem Z24 : (Try.prog.info? 24).bind (·.zero) = some (.agg #[.int .i64 0, .int .i64 0, .int .i64 0]) := by kernel_rfl
theorem FI24_0 : FI Try.prog 24 0 0 1 := ⟨_, _, _, Try.underlying24, rfl, rfl, TI3⟩
theorem FI24_1 : FI Try.prog 24 1 1 1 := ⟨_, _, _, Try.underlying24, rfl, rfl, TI3⟩
theorem FI24_2 : FI Try.prog 24 2 2 1 := ⟨_, _, _, Try.underlying24, rfl, rfl, TI3⟩
theorem FO42 : FOk Try.prog 42 := ⟨_, Try.func42, by kernel_rfl, by kernel_rfl⟩
theorem FO23 : FOk Try.prog 23 := ⟨_, Try.func23, by kernel_rfl, by kernel_rfl⟩
theorem FO96 : FOk Try.prog 96 := ⟨_, Try.func96, by kernel_rfl, by kernel_rfl⟩
theorem FO92 : FOk Try.prog 92 := ⟨_, Try.func92, by kernel_rfl, by kernel_rfl⟩
theorem FO91 : FOk Try.prog 91 := ⟨_, Try.func91, by kernel_rfl, by kernel_rfl⟩
theorem FO95 : FOk Try.prog 95 := ⟨_, Try.func95, by kernel_rfl, by kernel_rfl⟩
theorem FO90 : FOk Try.prog 90 := ⟨_, Try.func90, by kernel_rfl, by kernel_rfl⟩
theorem FO76 : FOk Try.prog 76 := ⟨_, Try.func76, by kernel_rfl, by kernel_rfl⟩
theorem FO49 : FOk Try.prog 49 := ⟨_, Try.func49, by kernel_rfl, by kernel_rfl⟩
theorem FO33 : FOk Try.prog 33 := ⟨_, Try.func33, by kernel_rfl, by kernel_rfl⟩
theorem FI57_1 : FI Try.prog 57 1 1 3 := ⟨_, _, _, Try.underlying57, rfl, rfl, TI24⟩
theorem FO35 : FOk Try.prog 35 := ⟨_, Try.func35, by kernel_rfl, by kernel_rfl⟩
theorem FO50 : FOk Try.prog 50 := ⟨_, Try.func50, by kernel_rfl, by kernel_rfl⟩
theorem FO34 : FOk Try.prog 34 := ⟨_, Try.func34, by kernel_rfl, by kernel_rfl⟩
theorem FO29 : FOk Try.prog 29 := ⟨_, Try.func29, by kernel_rfl, by kernel_rfl⟩
theorem FO32 : FOk Try.prog 32 := ⟨_, Try.func32, by kernel_rfl, by kernel_rfl⟩
theorem FO37 : FOk Try.prog 37 := ⟨_, Try.func37, by kernel_rfl, by kernel_rfl⟩
theorem FO11 : FOk Try.prog 11 := ⟨_, Try.func11, by kernel_rfl, by kernel_rfl⟩
theorem FO53 : FOk Try.prog 53 := ⟨_, Try.func53, by kernel_rfl, by kernel_rfl⟩
theorem FO41 : FOk Try.prog 41 := ⟨_, Try.func41, by kernel_rfl, by kernel_rfl⟩
theorem FO30 : FOk Try.prog 30 := ⟨_, Try.func30, by kernel_rfl, by kernel_rfl⟩
theorem FO31 : FOk Try.prog 31 := ⟨_, Try.func31, by kernel_rfl, by kernel_rfl⟩
theorem FO9 : FOk Try.prog 9 := ⟨_, Try.func9, by kernel_rfl, by kernel_rfl⟩
theorem FO20 : FOk Try.prog 20 := ⟨_, Try.func20, by kernel_rfl, by kernel_rfl⟩
theorem SI24 : SI Try.prog 24 [.int .i64 0, .int .i64 0, .int .i64 0] [(0, 1), (1, 1), (2, 1)] := ⟨⟨_, Try.underlying24, (.cons ⟨rfl, _, TI3⟩ (.cons ⟨rfl, _, TI3⟩ (.cons ⟨rfl, _, TI3⟩ .nil)))⟩, Z24⟩
theorem SI26 : SI Try.prog 26 [.string (⟨#[]⟩ : ByteArray), .int .i64 0, .int .i64 0, .int .i64 0] [(0, 1), (1, 3)] := ⟨⟨_, Try.underlying26, (.cons ⟨rfl, _, TI9⟩ (.cons ⟨rfl, _, TI24⟩ .nil))⟩, Z26⟩
theorem EI24 : EI Try.prog 24 3 24 := ei_of (z := .agg #[.int .i64 0, .int .i64 0, .int .i64 0]) (by kernel_rfl) rfl (by decide) (by decide)
theorem FO22 : FOk Try.prog 22 := ⟨_, Try.func22, by kernel_rfl, by kernel_rfl⟩
theorem FO13 : FOk Try.prog 13 := ⟨_, Try.func13, by kernel_rfl, by kernel_rfl⟩
theorem FO21 : FOk Try.prog 21 := ⟨_, Try.func21, by kernel_rfl, by kernel_rfl⟩
theorem ZL24 : (.agg #[.int .i64 0, .int .i64 0, .int .i64 0] : Value).cells.toList = [.int .i64 0, .int .i64 0, .int .i64 0] := rfl
def tarrylaw09_cut.f (a0_0 : ByteArray) (a0_1 : Int) (a0_2 : Int) (a0_3 : Int) : Option (ByteArray × Int × Int × Int) := (if 0 ≤ mn (a0_0.size : Int) 18 then (if (mn (a0_0.size : Int) 18) ≤ (a0_0.size : Int) then (some (a0_0.extract 0 ((mn (a0_0.size : Int) 18).toNat), a0_1, a0_2, a0_3)) else none) else none)
def tarrylaw09_few.l1 (k : Nat) (l0 : List S25) : Nat → (List S25) → Int → Option (List S25)
  | 0, _, _ => none
  | ml1 + 1, l94, i96 => (if i96 < (((l0.take ((mn (l0.length : Int) 34).toNat)).drop 0).length : Int) then (if 0 ≤ i96 then ((((l0.take ((mn (l0.length : Int) 34).toNat)).drop 0)[i96.toNat]?).bind fun x119 => ((tarrylaw09_cut.f x119.f0 x119.f1 x119.f2 x119.f3).bind fun ⟨t123, t124, t125, t126⟩ => (if (l94.length + ([(⟨t123, t124, t125, t126⟩ : S25)] : List S25).length) * 40 ≤ 140737488355328 then (tarrylaw09_few.l1 k l0 ml1 (l94 ++ ([(⟨t123, t124, t125, t126⟩ : S25)] : List S25)) (wrap64 (i96 + 1))) else none))) else none) else (some l94))
def tarrylaw09_few.f (k : Nat) (l0 : List S25) : Option (List S25) := (if 0 ≤ mn (l0.length : Int) 34 then (if (mn (l0.length : Int) 34) ≤ (l0.length : Int) then (tarrylaw09_few.l1 k l0 k ([] : List S25) 0) else none) else none)
def goods_Right_1.f (a0_0 : ByteArray) (a0_1 : ByteArray) (a0_2 : Int) (a0_3 : Int) (a0_4 : Int) (a1_0 : ByteArray) (a1_1 : ByteArray) (a1_2 : Int) (a1_3 : Int) (a1_4 : Int) : Option (Bool) := (if (a0_0 == a1_0) = true then (some (a0_1 == a1_1)) else (some false))
def slices_IndexFunc_api_Sub_api_Sub.l1 (k : Nat) (a1_0_0 : ByteArray) (a1_0_1 : ByteArray) (a1_0_2 : Int) (a1_0_3 : Int) (a1_0_4 : Int) (l0 : List S93) : Nat → Int → Option (Int)
  | 0, _ => none
  | ml1 + 1, i257 => (if i257 < (l0.length : Int) then (if 0 ≤ i257 then ((l0[i257.toNat]?).bind fun x286 => ((goods_Right_1.f x286.f0 x286.f1 x286.f2 x286.f3 x286.f4 a1_0_0 a1_0_1 a1_0_2 a1_0_3 a1_0_4).bind fun t289 => (if t289 = true then (some i257) else (slices_IndexFunc_api_Sub_api_Sub.l1 k a1_0_0 a1_0_1 a1_0_2 a1_0_3 a1_0_4 l0 ml1 (wrap64 (i257 + 1)))))) else none) else (some (-1)))
def slices_IndexFunc_api_Sub_api_Sub.f (k : Nat) (l0 : List S93) (a1_0_0 : ByteArray) (a1_0_1 : ByteArray) (a1_0_2 : Int) (a1_0_3 : Int) (a1_0_4 : Int) : Option (Int) := (slices_IndexFunc_api_Sub_api_Sub.l1 k a1_0_0 a1_0_1 a1_0_2 a1_0_3 a1_0_4 l0 k 0)
def slices_ContainsFunc_api_Sub_api_Sub.f (k : Nat) (l0 : List S93) (a1_0_0 : ByteArray) (a1_0_1 : ByteArray) (a1_0_2 : Int) (a1_0_3 : Int) (a1_0_4 : Int) : Option (Bool) := ((slices_IndexFunc_api_Sub_api_Sub.f k l0 a1_0_0 a1_0_1 a1_0_2 a1_0_3 a1_0_4).bind fun t292 => (some (decide (t292 ≥ 0))))
def goods_name_1.f (a0 : Int) : Option (Bool) := (if a0 < 97 then (if a0 < 48 then (some true) else (some (decide (a0 > 57)))) else (if a0 > 122 then (if a0 < 48 then (some true) else (some (decide (a0 > 57)))) else (some false)))
def slices_IndexFunc_byte_byte.l1 (k : Nat) (l0 : List Int) : Nat → Int → Option (Int)
  | 0, _ => none
  | ml1 + 1, i393 => (if i393 < (l0.length : Int) then (if 0 ≤ i393 then ((l0[i393.toNat]?).bind fun x422 => ((goods_name_1.f x422).bind fun t425 => (if t425 = true then (some i393) else (slices_IndexFunc_byte_byte.l1 k l0 ml1 (wrap64 (i393 + 1)))))) else none) else (some (-1)))
def slices_IndexFunc_byte_byte.f (k : Nat) (l0 : List Int) : Option (Int) := (slices_IndexFunc_byte_byte.l1 k l0 k 0)
def slices_ContainsFunc_byte_byte.f (k : Nat) (l0 : List Int) : Option (Bool) := ((slices_IndexFunc_byte_byte.f k l0).bind fun t428 => (some (decide (t428 ≥ 0))))
def goods_name.f (k : Nat) (a0 : ByteArray) : Option (Bool) := (if (a0 == (⟨#[]⟩ : ByteArray)) = true then (some false) else (if (a0.size : Int) ≤ 16 then (if a0.size ≤ 140737488355328 then ((slices_ContainsFunc_byte_byte.f k (byI a0)).bind fun t441 => (if t441 = true then (some false) else (some true))) else none) else (some false)))
def goods_in.f (a0 : Int) (a1 : Int) : Option (Bool) := (if a0 ≥ 1 then (some (decide (a0 ≤ a1))) else (some false))
def goods_may.f (k : Nat) (a0_0 : ByteArray) (a0_1 : ByteArray) (a0_2 : Int) (a0_3 : Int) (a0_4 : Int) : Option (Bool) := ((goods_name.f k a0_0).bind fun t466 => (if t466 = true then ((goods_name.f k a0_1).bind fun t469 => (if t469 = true then (if (a0_0 == a0_1) = true then (some false) else ((goods_in.f a0_2 9).bind fun t474 => (if t474 = true then ((goods_in.f a0_3 100).bind fun t477 => (if t477 = true then ((goods_in.f a0_4 100).bind fun t480 => (some t480)) else (some false))) else (some false)))) else (some false))) else (some false)))
def slices_Index_string_string.l1 (k : Nat) (a1 : ByteArray) (l0 : List ByteArray) : Nat → Int → Option (Int)
  | 0, _ => none
  | ml1 + 1, i544 => (if i544 < (l0.length : Int) then (if 0 ≤ i544 then ((l0[i544.toNat]?).bind fun x570 => (if (a1 == x570) = true then (some i544) else (slices_Index_string_string.l1 k a1 l0 ml1 (wrap64 (i544 + 1))))) else none) else (some (-1)))
def slices_Index_string_string.f (k : Nat) (l0 : List ByteArray) (a1 : ByteArray) : Option (Int) := (slices_Index_string_string.l1 k a1 l0 k 0)
def slices_Contains_string_string.f (k : Nat) (l0 : List ByteArray) (a1 : ByteArray) : Option (Bool) := ((slices_Index_string_string.f k l0 a1).bind fun t575 => (some (decide (t575 ≥ 0))))
def goods_Right_2.f (k : Nat) (a0 : ByteArray) : Option (Bool) := ((goods_name.f k a0).bind fun t888 => (if t888 = true then (some false) else (some true)))
def slices_IndexFunc_string_string.l1 (k : Nat) (l0 : List ByteArray) : Nat → Int → Option (Int)
  | 0, _ => none
  | ml1 + 1, i950 => (if i950 < (l0.length : Int) then (if 0 ≤ i950 then ((l0[i950.toNat]?).bind fun x979 => ((goods_Right_2.f k x979).bind fun t982 => (if t982 = true then (some i950) else (slices_IndexFunc_string_string.l1 k l0 ml1 (wrap64 (i950 + 1)))))) else none) else (some (-1)))
def slices_IndexFunc_string_string.f (k : Nat) (l0 : List ByteArray) : Option (Int) := (slices_IndexFunc_string_string.l1 k l0 k 0)
def slices_ContainsFunc_string_string.f (k : Nat) (l0 : List ByteArray) : Option (Bool) := ((slices_IndexFunc_string_string.f k l0).bind fun t985 => (some (decide (t985 ≥ 0))))
def internal_bytealg_CompareString.f (a0 : ByteArray) (a1 : ByteArray) : Option (Int) := (some (Lib.compareBytes a0.data.toList a1.data.toList))
def strings_Compare.f (a0 : ByteArray) (a1 : ByteArray) : Option (Int) := ((internal_bytealg_CompareString.f a0 a1).bind fun t1004 => (some t1004))
def goods_rising_string.l1 (k : Nat) (a1 : Int) (l0 : List ByteArray) : Nat → Int → Option (Bool)
  | 0, _ => none
  | ml1 + 1, i1076 => (if i1076 < (l0.length : Int) then (if 0 ≤ wrap64 (i1076 - 1) then ((l0[(wrap64 (i1076 - 1)).toNat]?).bind fun x1111 => (if 0 ≤ i1076 then ((l0[i1076.toNat]?).bind fun x1113 => ((strings_Compare.f x1111 x1113).bind fun t1114 => (if t1114 ≥ 0 then (some false) else (goods_rising_string.l1 k a1 l0 ml1 (wrap64 (i1076 + 1)))))) else none)) else none) else (some (decide ((l0.length : Int) ≤ a1))))
def goods_rising_string.f (k : Nat) (l0 : List ByteArray) (a1 : Int) : Option (Bool) := (goods_rising_string.l1 k a1 l0 k 1)
def cmp_isNaN_int.f (a0 : Int) : Option (Bool) := (some (a0 != a0))
def cmp_Compare_int.f (a0 : Int) (a1 : Int) : Option (Int) := ((cmp_isNaN_int.f a0).bind fun t1137 => ((cmp_isNaN_int.f a1).bind fun t1139 => (if t1137 = true then (if t1139 = true then (some 0) else (some (-1))) else (if t1139 = true then (some 1) else (if a0 < a1 then (some (-1)) else (if a0 > a1 then (some 1) else (some 0)))))))
def cmp_Or_int.l1 (k : Nat) (l0 : List Int) : Nat → Int → Option (Int)
  | 0, _ => none
  | ml1 + 1, i1219 => (if i1219 < (l0.length : Int) then (if 0 ≤ i1219 then ((l0[i1219.toNat]?).bind fun x1245 => (if x1245 = 0 then (cmp_Or_int.l1 k l0 ml1 (wrap64 (i1219 + 1))) else (some x1245))) else none) else (some 0))
def cmp_Or_int.f (k : Nat) (l0 : List Int) : Option (Int) := (cmp_Or_int.l1 k l0 k 0)
def goods_compare.f (k : Nat) (a0_0 : ByteArray) (a0_1 : ByteArray) (a0_2 : Int) (a0_3 : Int) (a0_4 : Int) (a1_0 : ByteArray) (a1_1 : ByteArray) (a1_2 : Int) (a1_3 : Int) (a1_4 : Int) : Option (Int) := ((strings_Compare.f a0_0 a1_0).bind fun t1134 => ((cmp_Compare_int.f a0_2 a1_2).bind fun t1157 => ((cmp_Or_int.f k ([t1134, t1157] : List Int)).bind fun t1250 => (some t1250))))
def goods_rising_Sub.l1 (k : Nat) (a1 : Int) (l0 : List S93) : Nat → Int → Option (Bool)
  | 0, _ => none
  | ml1 + 1, i1322 => (if i1322 < (l0.length : Int) then (if 0 ≤ wrap64 (i1322 - 1) then ((l0[(wrap64 (i1322 - 1)).toNat]?).bind fun x1357 => (if 0 ≤ i1322 then ((l0[i1322.toNat]?).bind fun x1359 => ((goods_compare.f k x1357.f0 x1357.f1 x1357.f2 x1357.f3 x1357.f4 x1359.f0 x1359.f1 x1359.f2 x1359.f3 x1359.f4).bind fun t1360 => (if t1360 ≥ 0 then (some false) else (goods_rising_Sub.l1 k a1 l0 ml1 (wrap64 (i1322 + 1)))))) else none)) else none) else (some (decide ((l0.length : Int) ≤ a1))))
def goods_rising_Sub.f (k : Nat) (l0 : List S93) (a1 : Int) : Option (Bool) := (goods_rising_Sub.l1 k a1 l0 k 1)
def goods_Right.l1 (k : Nat) (l0_0 : List ByteArray) (l0_1 : List S93) : Nat → Int → Option (Bool)
  | 0, _ => none
  | ml1 + 1, i811 => (if i811 < (l0_1.length : Int) then (if 0 ≤ i811 then ((l0_1[i811.toNat]?).bind fun x1404 => (if i811 ≤ (l0_1.length : Int) then ((slices_ContainsFunc_api_Sub_api_Sub.f k ((l0_1.take i811.toNat).drop 0) x1404.f0 x1404.f1 x1404.f2 x1404.f3 x1404.f4).bind fun t1411 => (if t1411 = true then (some false) else ((goods_may.f k x1404.f0 x1404.f1 x1404.f2 x1404.f3 x1404.f4).bind fun t1424 => (if t1424 = true then ((slices_Contains_string_string.f k l0_0 x1404.f0).bind fun t1427 => (if t1427 = true then ((slices_Contains_string_string.f k l0_0 x1404.f1).bind fun t1430 => (if t1430 = true then (goods_Right.l1 k l0_0 l0_1 ml1 (wrap64 (i811 + 1))) else (some false))) else (some false))) else (some false))))) else none)) else none) else ((slices_ContainsFunc_string_string.f k l0_0).bind fun t1436 => (if t1436 = true then (some false) else ((goods_rising_string.f k l0_0 8).bind fun t1444 => (if t1444 = true then ((goods_rising_Sub.f k l0_1 16).bind fun t1447 => (some t1447)) else (some false))))))
def goods_Right.f (k : Nat) (l0_0 : List ByteArray) (l0_1 : List S93) : Option (Bool) := (goods_Right.l1 k l0_0 l0_1 k 0)
def queue_compare.f (k : Nat) (a0_0 : Int) (a0_1 : Int) (a0_2 : Int) (a1_0 : Int) (a1_1 : Int) (a1_2 : Int) : Option (Int) := ((cmp_Compare_int.f a0_0 a1_0).bind fun t1469 => ((cmp_Compare_int.f a0_1 a1_1).bind fun t1471 => ((cmp_Compare_int.f a0_2 a1_2).bind fun t1473 => ((cmp_Or_int.f k ([t1469, t1471, t1473] : List Int)).bind fun t1477 => (some t1477)))))
def queue_Less.f (k : Nat) (a0_0 : Int) (a0_1 : Int) (a0_2 : Int) (a1_0 : Int) (a1_1 : Int) (a1_2 : Int) : Option (Bool) := ((queue_compare.f k a0_0 a0_1 a0_2 a1_0 a1_1 a1_2).bind fun t1479 => (some (decide (t1479 < 0))))
def queue_number.f (a0 : Int) : Option (Bool) := (if a0 ≥ 1 then (some (decide (a0 ≤ 1099511627776))) else (some false))
def queue_may.f (a0_0 : Int) (a0_1 : Int) (a0_2 : Int) : Option (Bool) := (if a0_0 ≥ 0 then (if a0_0 < 4 then ((queue_number.f a0_1).bind fun t1597 => (if t1597 = true then ((queue_number.f a0_2).bind fun t1600 => (some t1600)) else (some false))) else (some false)) else (some false))
def queue_all_1.f (a0_0 : Int) (a0_1 : Int) (a0_2 : Int) : Option (Bool) := ((queue_may.f a0_0 a0_1 a0_2).bind fun t1605 => (if t1605 = true then (some false) else (some true)))
def slices_IndexFunc_api_Wait_api_Wait.l1 (k : Nat) (l0 : List S23) : Nat → Int → Option (Int)
  | 0, _ => none
  | ml1 + 1, i1667 => (if i1667 < (l0.length : Int) then (if 0 ≤ i1667 then ((l0[i1667.toNat]?).bind fun x1696 => ((queue_all_1.f x1696.f0 x1696.f1 x1696.f2).bind fun t1699 => (if t1699 = true then (some i1667) else (slices_IndexFunc_api_Wait_api_Wait.l1 k l0 ml1 (wrap64 (i1667 + 1)))))) else none) else (some (-1)))
def slices_IndexFunc_api_Wait_api_Wait.f (k : Nat) (l0 : List S23) : Option (Int) := (slices_IndexFunc_api_Wait_api_Wait.l1 k l0 k 0)
def slices_ContainsFunc_api_Wait_api_Wait.f (k : Nat) (l0 : List S23) : Option (Bool) := ((slices_IndexFunc_api_Wait_api_Wait.f k l0).bind fun t1702 => (some (decide (t1702 ≥ 0))))
def queue_all.f (k : Nat) (l0 : List S23) : Option (Bool) := (if (l0.length : Int) ≤ 64 then ((slices_ContainsFunc_api_Wait_api_Wait.f k l0).bind fun t1710 => (if t1710 = true then (some false) else (some true))) else (some false))
def queue_Right.l1 (k : Nat) (l0 : List S23) : Nat → Int → Option (Bool)
  | 0, _ => none
  | ml1 + 1, i1544 => (if i1544 < (l0.length : Int) then (if 0 ≤ i1544 then ((l0[i1544.toNat]?).bind fun x1725 => (if 0 ≤ IntKind.i64.wrap ((wrap64 (i1544 - 1)).tdiv 2) then ((l0[(IntKind.i64.wrap ((wrap64 (i1544 - 1)).tdiv 2)).toNat]?).bind fun x1727 => ((queue_Less.f k x1725.f0 x1725.f1 x1725.f2 x1727.f0 x1727.f1 x1727.f2).bind fun t1728 => (if t1728 = true then (some false) else (queue_Right.l1 k l0 ml1 (wrap64 (i1544 + 1)))))) else none)) else none) else ((queue_all.f k l0).bind fun t1731 => (some t1731)))
def queue_Right.f (k : Nat) (l0 : List S23) : Option (Bool) := (queue_Right.l1 k l0 k 1)
def waits_may.f (k : Nat) (a0_0 : ByteArray) (a0_1 : Int) (a0_2 : Int) (a0_3 : Int) : Option (Bool) := ((goods_Right.f k ([a0_0] : List ByteArray) []).bind fun t1738 => (if t1738 = true then ((queue_Right.f k ([(⟨a0_1, a0_2, a0_3⟩ : S23)] : List S23)).bind fun t1743 => (some t1743)) else (some false)))
def waits_like_is.f (a0_0 : ByteArray) (a0_1 : Int) (a0_2 : Int) (a0_3 : Int) (a1_0 : ByteArray) (a1_1 : Int) (a1_2 : Int) (a1_3 : Int) : Option (Bool) := (if a0_3 = a1_3 then (some true) else (some (a0_2 == a1_2)))
def slices_IndexFunc_api_Line_api_Line.l1 (k : Nat) (a1_90_0 : ByteArray) (a1_90_1 : Int) (a1_90_2 : Int) (a1_90_3 : Int) (l0 : List S25) : Nat → Int → Option (Int)
  | 0, _ => none
  | ml1 + 1, i1826 => (if i1826 < (l0.length : Int) then (if 0 ≤ i1826 then ((l0[i1826.toNat]?).bind fun x1855 => ((waits_like_is.f a1_90_0 a1_90_1 a1_90_2 a1_90_3 x1855.f0 x1855.f1 x1855.f2 x1855.f3).bind fun t1858 => (if t1858 = true then (some i1826) else (slices_IndexFunc_api_Line_api_Line.l1 k a1_90_0 a1_90_1 a1_90_2 a1_90_3 l0 ml1 (wrap64 (i1826 + 1)))))) else none) else (some (-1)))
def slices_IndexFunc_api_Line_api_Line.f (k : Nat) (l0 : List S25) (a1_90_0 : ByteArray) (a1_90_1 : Int) (a1_90_2 : Int) (a1_90_3 : Int) : Option (Int) := (slices_IndexFunc_api_Line_api_Line.l1 k a1_90_0 a1_90_1 a1_90_2 a1_90_3 l0 k 0)
def slices_ContainsFunc_api_Line_api_Line.f (k : Nat) (l0 : List S25) (a1_90_0 : ByteArray) (a1_90_1 : Int) (a1_90_2 : Int) (a1_90_3 : Int) : Option (Bool) := ((slices_IndexFunc_api_Line_api_Line.f k l0 a1_90_0 a1_90_1 a1_90_2 a1_90_3).bind fun t1861 => (some (decide (t1861 ≥ 0))))
def waits_all.l1 (k : Nat) (l0 : List S25) : Nat → Int → Option (Bool)
  | 0, _ => none
  | ml1 + 1, i1972 => (if i1972 < (l0.length : Int) then (if 0 ≤ i1972 then ((l0[i1972.toNat]?).bind fun x2023 => ((waits_may.f k x2023.f0 x2023.f1 x2023.f2 x2023.f3).bind fun t2027 => (if t2027 = true then (if i1972 ≤ (l0.length : Int) then ((slices_ContainsFunc_api_Line_api_Line.f k ((l0.take i1972.toNat).drop 0) x2023.f0 x2023.f1 x2023.f2 x2023.f3).bind fun t2033 => (if t2033 = true then (some false) else (waits_all.l1 k l0 ml1 (wrap64 (i1972 + 1))))) else none) else (some false)))) else none) else (some (decide ((l0.length : Int) ≤ 32))))
def waits_all.f (k : Nat) (l0 : List S25) : Option (Bool) := (waits_all.l1 k l0 k 0)
def waits_compare.f (k : Nat) (a0_0 : ByteArray) (a0_1 : Int) (a0_2 : Int) (a0_3 : Int) (a1_0 : ByteArray) (a1_1 : Int) (a1_2 : Int) (a1_3 : Int) : Option (Int) := ((queue_Less.f k a0_1 a0_2 a0_3 a1_1 a1_2 a1_3).bind fun t2056 => (if t2056 = true then ((queue_Less.f k a1_1 a1_2 a1_3 a0_1 a0_2 a0_3).bind fun t2062 => (if t2062 = true then ((strings_Compare.f a0_0 a1_0).bind fun t2065 => ((cmp_Or_int.f k ([t2065, wrap64 (1 - 1)] : List Int)).bind fun t2069 => (some t2069))) else ((strings_Compare.f a0_0 a1_0).bind fun t2071 => ((cmp_Or_int.f k ([t2071, wrap64 (0 - 1)] : List Int)).bind fun t2075 => (some t2075))))) else ((queue_Less.f k a1_1 a1_2 a1_3 a0_1 a0_2 a0_3).bind fun t2080 => (if t2080 = true then ((strings_Compare.f a0_0 a1_0).bind fun t2083 => ((cmp_Or_int.f k ([t2083, wrap64 (1 - 0)] : List Int)).bind fun t2087 => (some t2087))) else ((strings_Compare.f a0_0 a1_0).bind fun t2089 => ((cmp_Or_int.f k ([t2089, wrap64 (0 - 0)] : List Int)).bind fun t2093 => (some t2093)))))))
def slices_IsSortedFunc_api_Line_api_Line.l1 (k : Nat) (l0 : List S25) : Nat → Int → Option (Bool)
  | 0, _ => none
  | ml1 + 1, i2168 => (if i2168 > 0 then (if 0 ≤ i2168 then ((l0[i2168.toNat]?).bind fun x2202 => (if 0 ≤ wrap64 (i2168 - 1) then ((l0[(wrap64 (i2168 - 1)).toNat]?).bind fun x2204 => ((waits_compare.f k x2202.f0 x2202.f1 x2202.f2 x2202.f3 x2204.f0 x2204.f1 x2204.f2 x2204.f3).bind fun t2205 => (if t2205 < 0 then (some false) else (slices_IsSortedFunc_api_Line_api_Line.l1 k l0 ml1 (wrap64 (i2168 - 1)))))) else none)) else none) else (some true))
def slices_IsSortedFunc_api_Line_api_Line.f (k : Nat) (l0 : List S25) : Option (Bool) := (slices_IsSortedFunc_api_Line_api_Line.l1 k l0 k (wrap64 ((l0.length : Int) - 1)))
def waits_Right.f (k : Nat) (l0 : List S25) : Option (Bool) := ((waits_all.f k l0).bind fun t2211 => (if t2211 = true then ((slices_IsSortedFunc_api_Line_api_Line.f k l0).bind fun t2214 => (some t2214)) else (some false)))
def waits_at_1.f (a0_0 : ByteArray) (a0_1 : Int) (a0_2 : Int) (a0_3 : Int) (a1_0 : Int) : Option (Bool) := (some (a0_3 == a1_0))
def slices_IndexFunc_api_Line_api_Line_s42.l1 (k : Nat) (a1_0_0 : Int) (l0 : List S25) : Nat → Int → Option (Int)
  | 0, _ => none
  | ml1 + 1, i2296 => (if i2296 < (l0.length : Int) then (if 0 ≤ i2296 then ((l0[i2296.toNat]?).bind fun x2325 => ((waits_at_1.f x2325.f0 x2325.f1 x2325.f2 x2325.f3 a1_0_0).bind fun t2328 => (if t2328 = true then (some i2296) else (slices_IndexFunc_api_Line_api_Line_s42.l1 k a1_0_0 l0 ml1 (wrap64 (i2296 + 1)))))) else none) else (some (-1)))
def slices_IndexFunc_api_Line_api_Line_s42.f (k : Nat) (l0 : List S25) (a1_0_0 : Int) : Option (Int) := (slices_IndexFunc_api_Line_api_Line_s42.l1 k a1_0_0 l0 k 0)
def waits_at.f (k : Nat) (l0 : List S25) (a1 : Int) : Option (Int × Int) := ((waits_Right.f k l0).bind fun t2225 => (if t2225 = true then ((slices_IndexFunc_api_Line_api_Line_s42.f k l0 a1).bind fun t2331 => (if t2331 < 0 then (some (0, 8)) else (some (t2331, 0)))) else (some (0, 1))))
def slices_Clone_api_Line_api_Line.f (l0 : List S25) : Option (List S25) := if l0.length * 40 ≤ 140737488355328 then some l0 else none
def slices_SortFunc_api_Line_api_Line.p (k : Nat) (x y : S25) : Option Int := waits_compare.f k x.f0 x.f1 x.f2 x.f3 y.f0 y.f1 y.f2 y.f3
def slices_SortFunc_api_Line_api_Line.f (k : Nat) (l0 : List S25) : Option (List S25) := if 4 ≤ k ∧ l0.length < 4611686018427387904 then some (l0.mergeSort fun x y => !decide ((slices_SortFunc_api_Line_api_Line.p k y x).getD 0 < 0)) else none
def waits_Make.f (k : Nat) (l0 : List S25) : Option (List S25 × Int) := ((waits_all.f k l0).bind fun t2366 => (if t2366 = true then ((slices_Clone_api_Line_api_Line.f l0).bind fun r2369 => ((slices_SortFunc_api_Line_api_Line.f k r2369).bind fun r2373 => (some (r2373, 0)))) else (some (([] : List S25), 1))))
def waits_Move.f (k : Nat) (l0 : List S25) (a1 : Int) (a2 : Int) : Option (List S25 × Int) := (if a2 < 0 then (some (([] : List S25), 1)) else (if a2 ≥ 4 then (some (([] : List S25), 1)) else ((waits_at.f k l0 a1).bind fun ⟨t2337, t2338⟩ => (if t2338 = 0 then ((slices_Clone_api_Line_api_Line.f l0).bind fun r2345 => (if 0 ≤ t2337 then ((r2345[t2337.toNat]?).bind fun x2350 => ((waits_Make.f k (r2345.set t2337.toNat (⟨x2350.f0, a2, x2350.f2, x2350.f3⟩ : S25))).bind fun ⟨r2377, t2378⟩ => (some (r2377, t2378)))) else none)) else (some (([] : List S25), t2338))))))
def waits_Of.l1 (k : Nat) (a1 : ByteArray) (l0 : List S25) : Nat → (List S23) → Int → Option (List S23 × Int)
  | 0, _, _ => none
  | ml1 + 1, l2526, i2528 => (if i2528 < (l0.length : Int) then (if 0 ≤ i2528 then ((l0[i2528.toNat]?).bind fun x2572 => (if (x2572.f0 == a1) = true then (if (l2526.length + ([(⟨x2572.f1, x2572.f2, x2572.f3⟩ : S23)] : List S23).length) * 24 ≤ 140737488355328 then (waits_Of.l1 k a1 l0 ml1 (l2526 ++ ([(⟨x2572.f1, x2572.f2, x2572.f3⟩ : S23)] : List S23)) (wrap64 (i2528 + 1))) else none) else (waits_Of.l1 k a1 l0 ml1 l2526 (wrap64 (i2528 + 1))))) else none) else (some (l2526, 0)))
def waits_Of.f (k : Nat) (l0 : List S25) (a1 : ByteArray) : Option (List S23 × Int) := ((waits_Right.f k l0).bind fun t2408 => (if t2408 = true then (waits_Of.l1 k a1 l0 k ([] : List S23) 0) else (some (([] : List S23), 1))))
def tarrylaw09_alive.f (k : Nat)  : Option (Bool) := ((waits_Make.f k ([(⟨(⟨#[99, 117, 112]⟩ : ByteArray), 1, 1, 1⟩ : S25), (⟨(⟨#[99, 117, 112]⟩ : ByteArray), 0, 7, 2⟩ : S25)] : List S25)).bind fun ⟨r2392, t2393⟩ => ((waits_Of.f k r2392 (⟨#[99, 117, 112]⟩ : ByteArray)).bind fun ⟨r2584, t2585⟩ => (if t2393 = 0 then (if t2585 = 0 then (if (r2584.length : Int) = 2 then ((r2584[0]?).bind fun x2605 => (some (x2605.f2 == 2))) else (some false)) else (some false)) else (some false))))
def waits_Find.f (k : Nat) (l0 : List S25) (a1 : Int) : Option (ByteArray × Int × Int × Int × Int) := ((waits_at.f k l0 a1).bind fun ⟨t2621, t2622⟩ => (if t2622 = 0 then (if 0 ≤ t2621 then ((l0[t2621.toNat]?).bind fun x2629 => (some (x2629.f0, x2629.f1, x2629.f2, x2629.f3, 0))) else none) else (some ((⟨#[]⟩ : ByteArray), 0, 0, 0, t2622))))
def tarrylaw09_WaitsFair.l1 (k : Nat) (a1 : Int) (a2 : Int) (r2639 : List S23) (t2634 : Int) : Nat → Bool → Int → Option (Bool)
  | 0, _, _ => none
  | ml1 + 1, q3026, i3027 => (if i3027 < (r2639.length : Int) then (if 0 ≤ i3027 then ((r2639[i3027.toNat]?).bind fun x3212 => (if i3027 > 0 then (if 0 ≤ wrap64 (i3027 - 1) then ((r2639[(wrap64 (i3027 - 1)).toNat]?).bind fun x3226 => ((queue_Less.f k x3226.f0 x3226.f1 x3226.f2 x3212.f0 x3212.f1 x3212.f2).bind fun t3227 => (if t3227 = true then (if x3212.f2 = a1 then (tarrylaw09_WaitsFair.l1 k a1 a2 r2639 t2634 ml1 true (wrap64 (i3027 + 1))) else (if x3212.f0 > a2 then (if true = q3026 then (tarrylaw09_WaitsFair.l1 k a1 a2 r2639 t2634 ml1 q3026 (wrap64 (i3027 + 1))) else none) else (if x3212.f0 = a2 then (if (decide (x3212.f1 > t2634)) = q3026 then (tarrylaw09_WaitsFair.l1 k a1 a2 r2639 t2634 ml1 q3026 (wrap64 (i3027 + 1))) else none) else (if false = q3026 then (tarrylaw09_WaitsFair.l1 k a1 a2 r2639 t2634 ml1 q3026 (wrap64 (i3027 + 1))) else none)))) else none))) else none) else (if x3212.f2 = a1 then (tarrylaw09_WaitsFair.l1 k a1 a2 r2639 t2634 ml1 true (wrap64 (i3027 + 1))) else (if x3212.f0 > a2 then (if true = q3026 then (tarrylaw09_WaitsFair.l1 k a1 a2 r2639 t2634 ml1 q3026 (wrap64 (i3027 + 1))) else none) else (if x3212.f0 = a2 then (if (decide (x3212.f1 > t2634)) = q3026 then (tarrylaw09_WaitsFair.l1 k a1 a2 r2639 t2634 ml1 q3026 (wrap64 (i3027 + 1))) else none) else (if false = q3026 then (tarrylaw09_WaitsFair.l1 k a1 a2 r2639 t2634 ml1 q3026 (wrap64 (i3027 + 1))) else none)))))) else none) else (some q3026))
def tarrylaw09_WaitsFair.f (k : Nat) (l0 : List S25) (a1 : Int) (a2 : Int) : Option (Bool) := ((tarrylaw09_few.f k l0).bind fun r133 => ((waits_Move.f k r133 a1 a2).bind fun ⟨r2383, t2384⟩ => (if t2384 = 0 then ((waits_Find.f k r2383 a1).bind fun ⟨t2632, t2633, t2634, t2635, t2636⟩ => ((waits_Of.f k r2383 t2632).bind fun ⟨r2639, t2640⟩ => (if t2636 = 0 then (if t2640 = 0 then (if t2633 = a2 then ((tarrylaw09_alive.f k).bind fun t2677 => (if t2677 = true then (tarrylaw09_WaitsFair.l1 k a1 a2 r2639 t2634 k false 0) else none)) else none) else none) else none))) else ((tarrylaw09_alive.f k).bind fun t3274 => (if t3274 = true then (some ((r2383.length : Int) == 0)) else none)))))
/-- THE ONE PURE STATEMENT. -/
def tarrylaw09_WaitsFair.Pure : Prop := ∀ (l0 : List S25) (a1 : Int) (a2 : Int), allOk ok25 l0 → (Lit.int .i64 a1).wf = true → (Lit.int .i64 a2).wf = true → ∃ k, tarrylaw09_WaitsFair.f k l0 a1 a2 = some true

end Go.Proofs.Ytdofmkbffffbpaa.PWaitsFair
