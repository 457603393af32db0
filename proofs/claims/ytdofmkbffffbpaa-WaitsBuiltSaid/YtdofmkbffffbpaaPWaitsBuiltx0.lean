/- Written by a program of this repo: what the program's functions do, each as a Lean function, shown of the loaded code; or a statement's row over that; no condition of its own. -/
import Derived.Test.YtdofmkbffffbpaaProg
import Derived.Test.YtdofmkbffffbpaaV19
import Derived.Shelf.SlSortCmp.NoneTotal
namespace Go.Proofs.Ytdofmkbffffbpaa.PWaitsBuilt
open Go Go.RowKit Go.Proofs.YtdofmkbffffbpaaV
set_option linter.unusedVariables false
set_option linter.unusedSimpArgs false

structure S25 where
  f0 : ByteArray
  f1 : Int
  f2 : Int
  f3 : Int
def enc25 (x : S25) : List Value := [.string x.f0, .int .i64 x.f1, .int .i64 x.f2, .int .i64 x.f3]
theorem enc25_ok (a : S25) : (enc25 a).length = 4 ∧ ∀ u ∈ enc25 a, u.oneCell' = true := ⟨rfl, by intro u hu; simp only [enc25, List.mem_cons, List.not_mem_nil, or_false] at hu; rcases hu with rfl | rfl | rfl | rfl <;> rfl⟩
def ok25 (x : S25) : Prop := x.f0.size ≤ 9223372036854775807 ∧ (Lit.int .i64 x.f1).wf = true ∧ (Lit.int .i64 x.f2).wf = true ∧ (Lit.int .i64 x.f3).wf = true
structure S93 where
  f0 : ByteArray
  f1 : ByteArray
  f2 : Int
  f3 : Int
  f4 : Int
def enc93 (x : S93) : List Value := [.string x.f0, .string x.f1, .int .i64 x.f2, .int .i64 x.f3, .int .i64 x.f4]
theorem enc93_ok (a : S93) : (enc93 a).length = 5 ∧ ∀ u ∈ enc93 a, u.oneCell' = true := ⟨rfl, by intro u hu; simp only [enc93, List.mem_cons, List.not_mem_nil, or_false] at hu; rcases hu with rfl | rfl | rfl | rfl | rfl <;> rfl⟩
def ok93 (x : S93) : Prop := x.f0.size ≤ 9223372036854775807 ∧ x.f1.size ≤ 9223372036854775807 ∧ (Lit.int .i64 x.f2).wf = true ∧ (Lit.int .i64 x.f3).wf = true ∧ (Lit.int .i64 x.f4).wf = true
structure S23 where
  f0 : Int
  f1 : Int
  f2 : Int
def enc23 (x : S23) : List Value := [.int .i64 x.f0, .int .i64 x.f1, .int .i64 x.f2]
theorem enc23_ok (a : S23) : (enc23 a).length = 3 ∧ ∀ u ∈ enc23 a, u.oneCell' = true := ⟨rfl, by intro u hu; simp only [enc23, List.mem_cons, List.not_mem_nil, or_false] at hu; rcases hu with rfl | rfl | rfl <;> rfl⟩
def ok23 (x : S23) : Prop := (Lit.int .i64 x.f0).wf = true ∧ (Lit.int .i64 x.f1).wf = true ∧ (Lit.int .i64 x.f2).wf = true
def enc_str (x : ByteArray) : List Value := [.string x]
theorem enc_str_ok (a : ByteArray) : (enc_str a).length = 1 ∧ ∀ u ∈ enc_str a, u.oneCell' = true := ⟨rfl, by intro u hu; simp only [enc_str, List.mem_cons, List.not_mem_nil, or_false] at hu; rcases hu with rfl; rfl⟩
def enc_intu8 (x : Int) : List Value := [.int .u8 x]
theorem enc_intu8_ok (a : Int) : (enc_intu8 a).length = 1 ∧ ∀ u ∈ enc_intu8 a, u.oneCell' = true := ⟨rfl, by intro u hu; simp only [enc_intu8, List.mem_cons, List.not_mem_nil, or_false] at hu; rcases hu with rfl; rfl⟩
def enc_inti64 (x : Int) : List Value := [.int .i64 x]
theorem enc_inti64_ok (a : Int) : (enc_inti64 a).length = 1 ∧ ∀ u ∈ enc_inti64 a, u.oneCell' = true := ⟨rfl, by intro u hu; simp only [enc_inti64, List.mem_cons, List.not_mem_nil, or_false] at hu; rcases hu with rfl; rfl⟩
theorem VC.join0 {E : Env} {P : Program} {Q : Exit → Act → World → Prop} {s : St}  {c1 c2 : Code} (I : St) (F : Prop) (hx : VC P E c1 (Exit.then (fun a w => F ∧ Inv E (I) a w) Q) s) (hy : F → VC P E c2 Q (I)) : VC P E (.seq c1 c2) Q s :=
  fun a w hi => wpIn_seq (Code.wpIn_mono (fun e a w h => by
    cases e <;> first | exact h | (obtain ⟨hf, hi⟩ := h; exact hy  hf a w hi)) (hx a w hi))
theorem VN.meet0 {E : Env} {Q : Exit → Act → World → Prop} {s : St}  {I : St} {F : Prop}  (bs rs : List Nat) (hf : F) (hl : Le s (I) bs rs) : VN E (Exit.then (fun a w => F ∧ Inv E (I) a w) Q) s :=
  fun a w hi => ⟨hf, hi.le hl⟩
theorem VC.join1 {E : Env} {P : Program} {Q : Exit → Act → World → Prop} {s : St} {α0 : Type} {c1 c2 : Code} (I : α0 → St) (F : α0 → Prop) (hx : VC P E c1 (Exit.then (fun a w => ∃ (x0 : α0), F x0 ∧ Inv E (I x0) a w) Q) s) (hy : ∀ (x0 : α0), F x0 → VC P E c2 Q (I x0)) : VC P E (.seq c1 c2) Q s :=
  fun a w hi => wpIn_seq (Code.wpIn_mono (fun e a w h => by
    cases e <;> first | exact h | (obtain ⟨x0, hf, hi⟩ := h; exact hy x0 hf a w hi)) (hx a w hi))
theorem VN.meet1 {E : Env} {Q : Exit → Act → World → Prop} {s : St} {α0 : Type} {I : α0 → St} {F : α0 → Prop} (x0 : α0) (bs rs : List Nat) (hf : F x0) (hl : Le s (I x0) bs rs) : VN E (Exit.then (fun a w => ∃ (x0 : α0), F x0 ∧ Inv E (I x0) a w) Q) s :=
  fun a w hi => ⟨x0, hf, hi.le hl⟩
theorem VC.loop1 {E : Env} {P : Program} {Q : Exit → Act → World → Prop} {s : St} {α0 : Type} {c : Code} (I : α0 → St) (F : Nat → α0 → Prop) (k : Nat) (x0 : α0) (bs rs : List Nat) (hf : F k x0) (hl : Le s (I x0) bs rs) (hz : ∀ (x0 : α0), ¬ F 0 x0) (h : ∀ k, (∀ (x0 : α0), F k x0 → VLp P E c Q k (I x0)) → ∀ (x0 : α0), F (k + 1) x0 → VC P E c (Exit.then (Code.roundsIn E.F 0 P c Q k) Q) (I x0)) : VC P E (.loop c) Q s := by
  have key : ∀ k (x0 : α0), F k x0 → VLp P E c Q k (I x0) := by
    intro k
    induction k with
    | zero => intro x0 hf; exact absurd hf (hz x0)
    | succ k ih => intro x0 hf; exact VLp.succ (h k ih x0 hf)
  exact fun a w hi => wpIn_loop_rounds k (key k x0 hf a w (hi.le hl))
theorem VC.loop3 {E : Env} {P : Program} {Q : Exit → Act → World → Prop} {s : St} {α0 : Type} {α1 : Type} {α2 : Type} {c : Code} (I : α0 → α1 → α2 → St) (F : Nat → α0 → α1 → α2 → Prop) (k : Nat) (x0 : α0) (x1 : α1) (x2 : α2) (bs rs : List Nat) (hf : F k x0 x1 x2) (hl : Le s (I x0 x1 x2) bs rs) (hz : ∀ (x0 : α0) (x1 : α1) (x2 : α2), ¬ F 0 x0 x1 x2) (h : ∀ k, (∀ (x0 : α0) (x1 : α1) (x2 : α2), F k x0 x1 x2 → VLp P E c Q k (I x0 x1 x2)) → ∀ (x0 : α0) (x1 : α1) (x2 : α2), F (k + 1) x0 x1 x2 → VC P E c (Exit.then (Code.roundsIn E.F 0 P c Q k) Q) (I x0 x1 x2)) : VC P E (.loop c) Q s := by
  have key : ∀ k (x0 : α0) (x1 : α1) (x2 : α2), F k x0 x1 x2 → VLp P E c Q k (I x0 x1 x2) := by
    intro k
    induction k with
    | zero => intro x0 x1 x2 hf; exact absurd hf (hz x0 x1 x2)
    | succ k ih => intro x0 x1 x2 hf; exact VLp.succ (h k ih x0 x1 x2 hf)
  exact fun a w hi => wpIn_loop_rounds k (key k x0 x1 x2 hf a w (hi.le hl))
theorem VC.stop0 {E : Env} {P : Program} {Q : Exit → Act → World → Prop} {s : St}  {c1 : Code} (I : St) (F : Prop) (hx : VC P E c1 (Exit.then (fun a w => F ∧ Inv E (I) a w) Q) s) (hy : F → VN E Q (I)) : VC P E c1 Q s :=
  fun a w hi => Code.wpIn_mono (fun e a w h => by
    cases e <;> first | exact h | (obtain ⟨hf, hi⟩ := h; exact hy  hf a w hi)) (hx a w hi)
theorem VC.stop1 {E : Env} {P : Program} {Q : Exit → Act → World → Prop} {s : St} {α0 : Type} {c1 : Code} (I : α0 → St) (F : α0 → Prop) (hx : VC P E c1 (Exit.then (fun a w => ∃ (x0 : α0), F x0 ∧ Inv E (I x0) a w) Q) s) (hy : ∀ (x0 : α0), F x0 → VN E Q (I x0)) : VC P E c1 Q s :=
  fun a w hi => Code.wpIn_mono (fun e a w h => by
    cases e <;> first | exact h | (obtain ⟨x0, hf, hi⟩ := h; exact hy x0 hf a w hi)) (hx a w hi)
theorem TI26 : TI Try.prog 26 true 4 := ⟨⟨_, Try.underlying26, rfl⟩, by kernel_rfl⟩
theorem Z26 : (Try.prog.info? 26).bind (·.zero) = some (.agg #[.string (⟨#[]⟩ : ByteArray), .int .i64 0, .int .i64 0, .int .i64 0]) := by kernel_rfl
theorem ZL26 : (.agg #[.string (⟨#[]⟩ : ByteArray), .int .i64 0, .int .i64 0, .int .i64 0] : Value).cells.toList = [.string (⟨#[]⟩ : ByteArray), .int .i64 0, .int .i64 0, .int .i64 0] := rfl
theorem TI9 : TI Try.prog 9 false 1 := ⟨⟨_, Try.underlying9, rfl⟩, by kernel_rfl⟩
theorem FI26_0 : FI Try.prog 26 0 0 1 := ⟨_, _, _, Try.underlying26, rfl, rfl, TI9⟩
theorem FO8 : FOk Try.prog 8 := ⟨_, Try.func8, by kernel_rfl, by kernel_rfl⟩
theorem EI26 : EI Try.prog 26 4 40 := ei_of (z := .agg #[.string (⟨#[]⟩ : ByteArray), .int .i64 0, .int .i64 0, .int .i64 0]) (by kernel_rfl) rfl (by decide) (by decide)
theorem FO7 : FOk Try.prog 7 := ⟨_, Try.func7, by kernel_rfl, by kernel_rfl⟩
theorem Z9 : (Try.prog.info? 9).bind (·.zero) = some (.string (⟨#[]⟩ : ByteArray)) := by kernel_rfl
theorem TI72 : TI Try.prog 72 false 1 := ⟨⟨_, Try.underlying72, rfl⟩, by kernel_rfl⟩
theorem TI73 : TI Try.prog 73 false 1 := ⟨⟨_, Try.underlying73, rfl⟩, by kernel_rfl⟩
theorem Z75 : (Try.prog.info? 75).bind (·.zero) = some (.agg #[.slice none 0 0, .slice none 0 0]) := by kernel_rfl
theorem SI75 : SI Try.prog 75 [.slice none 0 0, .slice none 0 0] [(0, 1), (1, 1)] := ⟨⟨_, Try.underlying75, (.cons ⟨rfl, _, TI72⟩ (.cons ⟨rfl, _, TI73⟩ .nil))⟩, Z75⟩
theorem FI75_1 : FI Try.prog 75 1 1 1 := ⟨_, _, _, Try.underlying75, rfl, rfl, TI73⟩
theorem TI94 : TI Try.prog 94 true 5 := ⟨⟨_, Try.underlying94, rfl⟩, by kernel_rfl⟩
theorem Z94 : (Try.prog.info? 94).bind (·.zero) = some (.agg #[.string (⟨#[]⟩ : ByteArray), .string (⟨#[]⟩ : ByteArray), .int .i64 0, .int .i64 0, .int .i64 0]) := by kernel_rfl
theorem ZL94 : (.agg #[.string (⟨#[]⟩ : ByteArray), .string (⟨#[]⟩ : ByteArray), .int .i64 0, .int .i64 0, .int .i64 0] : Value).cells.toList = [.string (⟨#[]⟩ : ByteArray), .string (⟨#[]⟩ : ByteArray), .int .i64 0, .int .i64 0, .int .i64 0] := rfl
theorem FI94_0 : FI Try.prog 94 0 0 1 := ⟨_, _, _, Try.underlying94, rfl, rfl, TI9⟩
theorem FI94_1 : FI Try.prog 94 1 1 1 := ⟨_, _, _, Try.underlying94, rfl, rfl, TI9⟩
theorem FO67 : FOk Try.prog 67 := ⟨_, Try.func67, by kernel_rfl, by kernel_rfl⟩
theorem FO84 : FOk Try.prog 84 := ⟨_, Try.func84, by kernel_rfl, by kernel_rfl⟩
theorem FO66 : FOk Try.prog 66 := ⟨_, Try.func66, by kernel_rfl, by kernel_rfl⟩
theorem TI5 : TI Try.prog 5 false 1 := ⟨⟨_, Try.underlying5, rfl⟩, by kernel_rfl⟩
theorem FO88 : FOk Try.prog 88 := ⟨_, Try.func88, by kernel_rfl, by kernel_rfl⟩
theorem FO94 : FOk Try.prog 94 := ⟨_, Try.func94, by kernel_rfl, by kernel_rfl⟩
theorem FO89 : FOk Try.prog 89 := ⟨_, Try.func89, by kernel_rfl, by kernel_rfl⟩
theorem FO72 : FOk Try.prog 72 := ⟨_, Try.func72, by kernel_rfl, by kernel_rfl⟩
theorem TI3 : TI Try.prog 3 false 1 := ⟨⟨_, Try.underlying3, rfl⟩, by kernel_rfl⟩
theorem FI94_2 : FI Try.prog 94 2 2 1 := ⟨_, _, _, Try.underlying94, rfl, rfl, TI3⟩
theorem FO85 : FOk Try.prog 85 := ⟨_, Try.func85, by kernel_rfl, by kernel_rfl⟩
theorem FI94_3 : FI Try.prog 94 3 3 1 := ⟨_, _, _, Try.underlying94, rfl, rfl, TI3⟩
theorem FI94_4 : FI Try.prog 94 4 4 1 := ⟨_, _, _, Try.underlying94, rfl, rfl, TI3⟩
theorem FO68 : FOk Try.prog 68 := ⟨_, Try.func68, by kernel_rfl, by kernel_rfl⟩
theorem FI75_0 : FI Try.prog 75 0 0 1 := ⟨_, _, _, Try.underlying75, rfl, rfl, TI72⟩
theorem FO86 : FOk Try.prog 86 := ⟨_, Try.func86, by kernel_rfl, by kernel_rfl⟩
theorem FO69 : FOk Try.prog 69 := ⟨_, Try.func69, by kernel_rfl, by kernel_rfl⟩
theorem FO71 : FOk Try.prog 71 := ⟨_, Try.func71, by kernel_rfl, by kernel_rfl⟩
theorem FO87 : FOk Try.prog 87 := ⟨_, Try.func87, by kernel_rfl, by kernel_rfl⟩
theorem FO70 : FOk Try.prog 70 := ⟨_, Try.func70, by kernel_rfl, by kernel_rfl⟩
theorem FO65 : FOk Try.prog 65 := ⟨_, Try.func65, by kernel_rfl, by kernel_rfl⟩
theorem FO47 : FOk Try.prog 47 := ⟨_, Try.func47, by kernel_rfl, by kernel_rfl⟩
theorem FO73 : FOk Try.prog 73 := ⟨_, Try.func73, by kernel_rfl, by kernel_rfl⟩
theorem FO77 : FOk Try.prog 77 := ⟨_, Try.func77, by kernel_rfl, by kernel_rfl⟩
theorem FO54 : FOk Try.prog 54 := ⟨_, Try.func54, by kernel_rfl, by kernel_rfl⟩
theorem Z3 : (Try.prog.info? 3).bind (·.zero) = some (.int .i64 0) := by kernel_rfl
theorem FO46 : FOk Try.prog 46 := ⟨_, Try.func46, by kernel_rfl, by kernel_rfl⟩
theorem FO75 : FOk Try.prog 75 := ⟨_, Try.func75, by kernel_rfl, by kernel_rfl⟩
theorem FO74 : FOk Try.prog 74 := ⟨_, Try.func74, by kernel_rfl, by kernel_rfl⟩
theorem FO48 : FOk Try.prog 48 := ⟨_, Try.func48, by kernel_rfl, by kernel_rfl⟩
theorem TI24 : TI Try.prog 24 true 3 := ⟨⟨_, Try.underlying24, rfl⟩, by kernel_rfl⟩
theorem FI26_1 : FI Try.prog 26 1 1 3 := ⟨_, _, _, Try.underlying26, rfl, rfl, TI24⟩
theorem Z24 : (Try.prog.info? 24).bind (·.zero) = some (.agg #[.int .i64 0, .int .i64 0, .int .i64 0]) := by kernel_rfl
theorem FI24_0 : FI Try.prog 24 0 0 1 := ⟨_, _, _, Try.underlying24, rfl, rfl, TI3⟩
theorem FI24_1 : FI Try.prog 24 1 1 1 := ⟨_, _, _, Try.underlying24, rfl, rfl, TI3⟩
theorem FI24_2 : FI Try.prog 24 2 2 1 := ⟨_, _, _, Try.underlying24, rfl, rfl, TI3⟩
theorem FO42 : FOk Try.prog 42 := ⟨_, Try.func42, by kernel_rfl, by kernel_rfl⟩
theorem FO23 : FOk Try.prog 23 := ⟨_, Try.func23, by kernel_rfl, by kernel_rfl⟩
theorem FO96 : FOk Try.prog 96 := ⟨_, Try.func96, by kernel_rfl, by kernel_rfl⟩
theorem FO92 : FOk Try.prog 92 := ⟨_, Try.func92, by kernel_rfl, by kernel_rfl⟩
theorem FO91 : FOk Try.prog 91 := ⟨_, Try.func91, by kernel_rfl, by kernel_rfl⟩
theorem FO95 : FOk Try.prog 95 := ⟨_, Try.func95, by kernel_rfl, by kernel_rfl⟩
theorem FO90 : FOk Try.prog 90 := ⟨_, Try.func90, by kernel_rfl, by kernel_rfl⟩
theorem FO76 : FOk Try.prog 76 := ⟨_, Try.func76, by kernel_rfl, by kernel_rfl⟩
theorem FO49 : FOk Try.prog 49 := ⟨_, Try.func49, by kernel_rfl, by kernel_rfl⟩
theorem FO33 : FOk Try.prog 33 := ⟨_, Try.func33, by kernel_rfl, by kernel_rfl⟩
theorem FI57_1 : FI Try.prog 57 1 1 3 := ⟨_, _, _, Try.underlying57, rfl, rfl, TI24⟩
theorem FO35 : FOk Try.prog 35 := ⟨_, Try.func35, by kernel_rfl, by kernel_rfl⟩
theorem FO50 : FOk Try.prog 50 := ⟨_, Try.func50, by kernel_rfl, by kernel_rfl⟩
theorem FO34 : FOk Try.prog 34 := ⟨_, Try.func34, by kernel_rfl, by kernel_rfl⟩
theorem FO29 : FOk Try.prog 29 := ⟨_, Try.func29, by kernel_rfl, by kernel_rfl⟩
theorem FO30 : FOk Try.prog 30 := ⟨_, Try.func30, by kernel_rfl, by kernel_rfl⟩
theorem FO32 : FOk Try.prog 32 := ⟨_, Try.func32, by kernel_rfl, by kernel_rfl⟩
theorem FO31 : FOk Try.prog 31 := ⟨_, Try.func31, by kernel_rfl, by kernel_rfl⟩
theorem FO9 : FOk Try.prog 9 := ⟨_, Try.func9, by kernel_rfl, by kernel_rfl⟩
theorem SI24 : SI Try.prog 24 [.int .i64 0, .int .i64 0, .int .i64 0] [(0, 1), (1, 1), (2, 1)] := ⟨⟨_, Try.underlying24, (.cons ⟨rfl, _, TI3⟩ (.cons ⟨rfl, _, TI3⟩ (.cons ⟨rfl, _, TI3⟩ .nil)))⟩, Z24⟩
theorem SI26 : SI Try.prog 26 [.string (⟨#[]⟩ : ByteArray), .int .i64 0, .int .i64 0, .int .i64 0] [(0, 1), (1, 3)] := ⟨⟨_, Try.underlying26, (.cons ⟨rfl, _, TI9⟩ (.cons ⟨rfl, _, TI24⟩ .nil))⟩, Z26⟩
theorem FO37 : FOk Try.prog 37 := ⟨_, Try.func37, by kernel_rfl, by kernel_rfl⟩
theorem FO11 : FOk Try.prog 11 := ⟨_, Try.func11, by kernel_rfl, by kernel_rfl⟩
theorem EI24 : EI Try.prog 24 3 24 := ei_of (z := .agg #[.int .i64 0, .int .i64 0, .int .i64 0]) (by kernel_rfl) rfl (by decide) (by decide)
theorem FO22 : FOk Try.prog 22 := ⟨_, Try.func22, by kernel_rfl, by kernel_rfl⟩
theorem FO13 : FOk Try.prog 13 := ⟨_, Try.func13, by kernel_rfl, by kernel_rfl⟩
theorem FO36 : FOk Try.prog 36 := ⟨_, Try.func36, by kernel_rfl, by kernel_rfl⟩
theorem FO10 : FOk Try.prog 10 := ⟨_, Try.func10, by kernel_rfl, by kernel_rfl⟩
theorem EQ26 (a0 : ByteArray) (a1 : Int) (a2 : Int) (a3 : Int) (b0 : ByteArray) (b1 : Int) (b2 : Int) (b3 : Int) : EqV Try.prog 10000 26 (.agg #[.string a0, .int .i64 a1, .int .i64 a2, .int .i64 a3]) (.agg #[.string b0, .int .i64 b1, .int .i64 b2, .int .i64 b3]) ((a0 == b0) && ((a1 == b1) && ((a2 == b2) && (a3 == b3)))) := (.struct Try.underlying26 (by kernel_rfl) (.cons (by decide) TI9 (fun _ => rfl) rfl rfl rfl rfl (.string Try.underlying9) (.one (by decide) TI24 (fun h => absurd h (by decide)) rfl rfl rfl rfl (.struct Try.underlying24 (by kernel_rfl) (.cons (by decide) TI3 (fun _ => rfl) rfl rfl rfl rfl (.int Try.underlying3) (.cons (by decide) TI3 (fun _ => rfl) rfl rfl rfl rfl (.int Try.underlying3) (.one (by decide) TI3 (fun _ => rfl) rfl rfl rfl rfl (.int Try.underlying3))))))))
theorem EG26 : Try.prog.eqGuardType Try.prog.depth 26 = false := by kernel_rfl
theorem FO15 : FOk Try.prog 15 := ⟨_, Try.func15, by kernel_rfl, by kernel_rfl⟩
theorem FO53 : FOk Try.prog 53 := ⟨_, Try.func53, by kernel_rfl, by kernel_rfl⟩
theorem FO41 : FOk Try.prog 41 := ⟨_, Try.func41, by kernel_rfl, by kernel_rfl⟩
theorem FO43 : FOk Try.prog 43 := ⟨_, Try.func43, by kernel_rfl, by kernel_rfl⟩
theorem FO24 : FOk Try.prog 24 := ⟨_, Try.func24, by kernel_rfl, by kernel_rfl⟩
def tarrylaw09_cut.f (a0_0 : ByteArray) (a0_1 : Int) (a0_2 : Int) (a0_3 : Int) : Option (ByteArray × Int × Int × Int) := (if 0 ≤ mn (a0_0.size : Int) 18 then (if (mn (a0_0.size : Int) 18) ≤ (a0_0.size : Int) then (some (a0_0.extract 0 ((mn (a0_0.size : Int) 18).toNat), a0_1, a0_2, a0_3)) else none) else none)
def tarrylaw09_few.l1 (k : Nat) (l0 : List S25) : Nat → (List S25) → Int → Option (List S25)
  | 0, _, _ => none
  | ml1 + 1, l95, i97 => (if i97 < (((l0.take ((mn (l0.length : Int) 34).toNat)).drop 0).length : Int) then (if 0 ≤ i97 then ((((l0.take ((mn (l0.length : Int) 34).toNat)).drop 0)[i97.toNat]?).bind fun x120 => ((tarrylaw09_cut.f x120.f0 x120.f1 x120.f2 x120.f3).bind fun ⟨t124, t125, t126, t127⟩ => (if (l95.length + ([(⟨t124, t125, t126, t127⟩ : S25)] : List S25).length) * 40 ≤ 140737488355328 then (tarrylaw09_few.l1 k l0 ml1 (l95 ++ ([(⟨t124, t125, t126, t127⟩ : S25)] : List S25)) (wrap64 (i97 + 1))) else none))) else none) else (some l95))
def tarrylaw09_few.f (k : Nat) (l0 : List S25) : Option (List S25) := (if 0 ≤ mn (l0.length : Int) 34 then (if (mn (l0.length : Int) 34) ≤ (l0.length : Int) then (tarrylaw09_few.l1 k l0 k ([] : List S25) 0) else none) else none)
def goods_Right_1.f (a0_0 : ByteArray) (a0_1 : ByteArray) (a0_2 : Int) (a0_3 : Int) (a0_4 : Int) (a1_0 : ByteArray) (a1_1 : ByteArray) (a1_2 : Int) (a1_3 : Int) (a1_4 : Int) : Option (Bool) := (if (a0_0 == a1_0) = true then (some (a0_1 == a1_1)) else (some false))
def slices_IndexFunc_api_Sub_api_Sub.l1 (k : Nat) (a1_0_0 : ByteArray) (a1_0_1 : ByteArray) (a1_0_2 : Int) (a1_0_3 : Int) (a1_0_4 : Int) (l0 : List S93) : Nat → Int → Option (Int)
  | 0, _ => none
  | ml1 + 1, i242 => (if i242 < (l0.length : Int) then (if 0 ≤ i242 then ((l0[i242.toNat]?).bind fun x271 => ((goods_Right_1.f x271.f0 x271.f1 x271.f2 x271.f3 x271.f4 a1_0_0 a1_0_1 a1_0_2 a1_0_3 a1_0_4).bind fun t274 => (if t274 = true then (some i242) else (slices_IndexFunc_api_Sub_api_Sub.l1 k a1_0_0 a1_0_1 a1_0_2 a1_0_3 a1_0_4 l0 ml1 (wrap64 (i242 + 1)))))) else none) else (some (-1)))
def slices_IndexFunc_api_Sub_api_Sub.f (k : Nat) (l0 : List S93) (a1_0_0 : ByteArray) (a1_0_1 : ByteArray) (a1_0_2 : Int) (a1_0_3 : Int) (a1_0_4 : Int) : Option (Int) := (slices_IndexFunc_api_Sub_api_Sub.l1 k a1_0_0 a1_0_1 a1_0_2 a1_0_3 a1_0_4 l0 k 0)
def slices_ContainsFunc_api_Sub_api_Sub.f (k : Nat) (l0 : List S93) (a1_0_0 : ByteArray) (a1_0_1 : ByteArray) (a1_0_2 : Int) (a1_0_3 : Int) (a1_0_4 : Int) : Option (Bool) := ((slices_IndexFunc_api_Sub_api_Sub.f k l0 a1_0_0 a1_0_1 a1_0_2 a1_0_3 a1_0_4).bind fun t277 => (some (decide (t277 ≥ 0))))
def goods_name_1.f (a0 : Int) : Option (Bool) := (if a0 < 97 then (if a0 < 48 then (some true) else (some (decide (a0 > 57)))) else (if a0 > 122 then (if a0 < 48 then (some true) else (some (decide (a0 > 57)))) else (some false)))
def slices_IndexFunc_byte_byte.l1 (k : Nat) (l0 : List Int) : Nat → Int → Option (Int)
  | 0, _ => none
  | ml1 + 1, i378 => (if i378 < (l0.length : Int) then (if 0 ≤ i378 then ((l0[i378.toNat]?).bind fun x407 => ((goods_name_1.f x407).bind fun t410 => (if t410 = true then (some i378) else (slices_IndexFunc_byte_byte.l1 k l0 ml1 (wrap64 (i378 + 1)))))) else none) else (some (-1)))
def slices_IndexFunc_byte_byte.f (k : Nat) (l0 : List Int) : Option (Int) := (slices_IndexFunc_byte_byte.l1 k l0 k 0)
def slices_ContainsFunc_byte_byte.f (k : Nat) (l0 : List Int) : Option (Bool) := ((slices_IndexFunc_byte_byte.f k l0).bind fun t413 => (some (decide (t413 ≥ 0))))
def goods_name.f (k : Nat) (a0 : ByteArray) : Option (Bool) := (if (a0 == (⟨#[]⟩ : ByteArray)) = true then (some false) else (if (a0.size : Int) ≤ 16 then (if a0.size ≤ 140737488355328 then ((slices_ContainsFunc_byte_byte.f k (byI a0)).bind fun t426 => (if t426 = true then (some false) else (some true))) else none) else (some false)))
def goods_in.f (a0 : Int) (a1 : Int) : Option (Bool) := (if a0 ≥ 1 then (some (decide (a0 ≤ a1))) else (some false))
def goods_may.f (k : Nat) (a0_0 : ByteArray) (a0_1 : ByteArray) (a0_2 : Int) (a0_3 : Int) (a0_4 : Int) : Option (Bool) := ((goods_name.f k a0_0).bind fun t451 => (if t451 = true then ((goods_name.f k a0_1).bind fun t454 => (if t454 = true then (if (a0_0 == a0_1) = true then (some false) else ((goods_in.f a0_2 9).bind fun t459 => (if t459 = true then ((goods_in.f a0_3 100).bind fun t462 => (if t462 = true then ((goods_in.f a0_4 100).bind fun t465 => (some t465)) else (some false))) else (some false)))) else (some false))) else (some false)))
def slices_Index_string_string.l1 (k : Nat) (a1 : ByteArray) (l0 : List ByteArray) : Nat → Int → Option (Int)
  | 0, _ => none
  | ml1 + 1, i529 => (if i529 < (l0.length : Int) then (if 0 ≤ i529 then ((l0[i529.toNat]?).bind fun x555 => (if (a1 == x555) = true then (some i529) else (slices_Index_string_string.l1 k a1 l0 ml1 (wrap64 (i529 + 1))))) else none) else (some (-1)))
def slices_Index_string_string.f (k : Nat) (l0 : List ByteArray) (a1 : ByteArray) : Option (Int) := (slices_Index_string_string.l1 k a1 l0 k 0)
def slices_Contains_string_string.f (k : Nat) (l0 : List ByteArray) (a1 : ByteArray) : Option (Bool) := ((slices_Index_string_string.f k l0 a1).bind fun t560 => (some (decide (t560 ≥ 0))))
def goods_Right_2.f (k : Nat) (a0 : ByteArray) : Option (Bool) := ((goods_name.f k a0).bind fun t873 => (if t873 = true then (some false) else (some true)))
def slices_IndexFunc_string_string.l1 (k : Nat) (l0 : List ByteArray) : Nat → Int → Option (Int)
  | 0, _ => none
  | ml1 + 1, i935 => (if i935 < (l0.length : Int) then (if 0 ≤ i935 then ((l0[i935.toNat]?).bind fun x964 => ((goods_Right_2.f k x964).bind fun t967 => (if t967 = true then (some i935) else (slices_IndexFunc_string_string.l1 k l0 ml1 (wrap64 (i935 + 1)))))) else none) else (some (-1)))
def slices_IndexFunc_string_string.f (k : Nat) (l0 : List ByteArray) : Option (Int) := (slices_IndexFunc_string_string.l1 k l0 k 0)
def slices_ContainsFunc_string_string.f (k : Nat) (l0 : List ByteArray) : Option (Bool) := ((slices_IndexFunc_string_string.f k l0).bind fun t970 => (some (decide (t970 ≥ 0))))
def internal_bytealg_CompareString.f (a0 : ByteArray) (a1 : ByteArray) : Option (Int) := (some (Lib.compareBytes a0.data.toList a1.data.toList))
def strings_Compare.f (a0 : ByteArray) (a1 : ByteArray) : Option (Int) := ((internal_bytealg_CompareString.f a0 a1).bind fun t989 => (some t989))
def goods_rising_string.l1 (k : Nat) (a1 : Int) (l0 : List ByteArray) : Nat → Int → Option (Bool)
  | 0, _ => none
  | ml1 + 1, i1061 => (if i1061 < (l0.length : Int) then (if 0 ≤ wrap64 (i1061 - 1) then ((l0[(wrap64 (i1061 - 1)).toNat]?).bind fun x1096 => (if 0 ≤ i1061 then ((l0[i1061.toNat]?).bind fun x1098 => ((strings_Compare.f x1096 x1098).bind fun t1099 => (if t1099 ≥ 0 then (some false) else (goods_rising_string.l1 k a1 l0 ml1 (wrap64 (i1061 + 1)))))) else none)) else none) else (some (decide ((l0.length : Int) ≤ a1))))
def goods_rising_string.f (k : Nat) (l0 : List ByteArray) (a1 : Int) : Option (Bool) := (goods_rising_string.l1 k a1 l0 k 1)
def cmp_isNaN_int.f (a0 : Int) : Option (Bool) := (some (a0 != a0))
def cmp_Compare_int.f (a0 : Int) (a1 : Int) : Option (Int) := ((cmp_isNaN_int.f a0).bind fun t1122 => ((cmp_isNaN_int.f a1).bind fun t1124 => (if t1122 = true then (if t1124 = true then (some 0) else (some (-1))) else (if t1124 = true then (some 1) else (if a0 < a1 then (some (-1)) else (if a0 > a1 then (some 1) else (some 0)))))))
def cmp_Or_int.l1 (k : Nat) (l0 : List Int) : Nat → Int → Option (Int)
  | 0, _ => none
  | ml1 + 1, i1204 => (if i1204 < (l0.length : Int) then (if 0 ≤ i1204 then ((l0[i1204.toNat]?).bind fun x1230 => (if x1230 = 0 then (cmp_Or_int.l1 k l0 ml1 (wrap64 (i1204 + 1))) else (some x1230))) else none) else (some 0))
def cmp_Or_int.f (k : Nat) (l0 : List Int) : Option (Int) := (cmp_Or_int.l1 k l0 k 0)
def goods_compare.f (k : Nat) (a0_0 : ByteArray) (a0_1 : ByteArray) (a0_2 : Int) (a0_3 : Int) (a0_4 : Int) (a1_0 : ByteArray) (a1_1 : ByteArray) (a1_2 : Int) (a1_3 : Int) (a1_4 : Int) : Option (Int) := ((strings_Compare.f a0_0 a1_0).bind fun t1119 => ((cmp_Compare_int.f a0_2 a1_2).bind fun t1142 => ((cmp_Or_int.f k ([t1119, t1142] : List Int)).bind fun t1235 => (some t1235))))
def goods_rising_Sub.l1 (k : Nat) (a1 : Int) (l0 : List S93) : Nat → Int → Option (Bool)
  | 0, _ => none
  | ml1 + 1, i1307 => (if i1307 < (l0.length : Int) then (if 0 ≤ wrap64 (i1307 - 1) then ((l0[(wrap64 (i1307 - 1)).toNat]?).bind fun x1342 => (if 0 ≤ i1307 then ((l0[i1307.toNat]?).bind fun x1344 => ((goods_compare.f k x1342.f0 x1342.f1 x1342.f2 x1342.f3 x1342.f4 x1344.f0 x1344.f1 x1344.f2 x1344.f3 x1344.f4).bind fun t1345 => (if t1345 ≥ 0 then (some false) else (goods_rising_Sub.l1 k a1 l0 ml1 (wrap64 (i1307 + 1)))))) else none)) else none) else (some (decide ((l0.length : Int) ≤ a1))))
def goods_rising_Sub.f (k : Nat) (l0 : List S93) (a1 : Int) : Option (Bool) := (goods_rising_Sub.l1 k a1 l0 k 1)
def goods_Right.l1 (k : Nat) (l0_0 : List ByteArray) (l0_1 : List S93) : Nat → Int → Option (Bool)
  | 0, _ => none
  | ml1 + 1, i796 => (if i796 < (l0_1.length : Int) then (if 0 ≤ i796 then ((l0_1[i796.toNat]?).bind fun x1389 => (if i796 ≤ (l0_1.length : Int) then ((slices_ContainsFunc_api_Sub_api_Sub.f k ((l0_1.take i796.toNat).drop 0) x1389.f0 x1389.f1 x1389.f2 x1389.f3 x1389.f4).bind fun t1396 => (if t1396 = true then (some false) else ((goods_may.f k x1389.f0 x1389.f1 x1389.f2 x1389.f3 x1389.f4).bind fun t1409 => (if t1409 = true then ((slices_Contains_string_string.f k l0_0 x1389.f0).bind fun t1412 => (if t1412 = true then ((slices_Contains_string_string.f k l0_0 x1389.f1).bind fun t1415 => (if t1415 = true then (goods_Right.l1 k l0_0 l0_1 ml1 (wrap64 (i796 + 1))) else (some false))) else (some false))) else (some false))))) else none)) else none) else ((slices_ContainsFunc_string_string.f k l0_0).bind fun t1421 => (if t1421 = true then (some false) else ((goods_rising_string.f k l0_0 8).bind fun t1429 => (if t1429 = true then ((goods_rising_Sub.f k l0_1 16).bind fun t1432 => (some t1432)) else (some false))))))
def goods_Right.f (k : Nat) (l0_0 : List ByteArray) (l0_1 : List S93) : Option (Bool) := (goods_Right.l1 k l0_0 l0_1 k 0)
def queue_compare.f (k : Nat) (a0_0 : Int) (a0_1 : Int) (a0_2 : Int) (a1_0 : Int) (a1_1 : Int) (a1_2 : Int) : Option (Int) := ((cmp_Compare_int.f a0_0 a1_0).bind fun t1454 => ((cmp_Compare_int.f a0_1 a1_1).bind fun t1456 => ((cmp_Compare_int.f a0_2 a1_2).bind fun t1458 => ((cmp_Or_int.f k ([t1454, t1456, t1458] : List Int)).bind fun t1462 => (some t1462)))))
def queue_Less.f (k : Nat) (a0_0 : Int) (a0_1 : Int) (a0_2 : Int) (a1_0 : Int) (a1_1 : Int) (a1_2 : Int) : Option (Bool) := ((queue_compare.f k a0_0 a0_1 a0_2 a1_0 a1_1 a1_2).bind fun t1464 => (some (decide (t1464 < 0))))
def queue_number.f (a0 : Int) : Option (Bool) := (if a0 ≥ 1 then (some (decide (a0 ≤ 1099511627776))) else (some false))
def queue_may.f (a0_0 : Int) (a0_1 : Int) (a0_2 : Int) : Option (Bool) := (if a0_0 ≥ 0 then (if a0_0 < 4 then ((queue_number.f a0_1).bind fun t1582 => (if t1582 = true then ((queue_number.f a0_2).bind fun t1585 => (some t1585)) else (some false))) else (some false)) else (some false))
def queue_all_1.f (a0_0 : Int) (a0_1 : Int) (a0_2 : Int) : Option (Bool) := ((queue_may.f a0_0 a0_1 a0_2).bind fun t1590 => (if t1590 = true then (some false) else (some true)))
def slices_IndexFunc_api_Wait_api_Wait.l1 (k : Nat) (l0 : List S23) : Nat → Int → Option (Int)
  | 0, _ => none
  | ml1 + 1, i1652 => (if i1652 < (l0.length : Int) then (if 0 ≤ i1652 then ((l0[i1652.toNat]?).bind fun x1681 => ((queue_all_1.f x1681.f0 x1681.f1 x1681.f2).bind fun t1684 => (if t1684 = true then (some i1652) else (slices_IndexFunc_api_Wait_api_Wait.l1 k l0 ml1 (wrap64 (i1652 + 1)))))) else none) else (some (-1)))
def slices_IndexFunc_api_Wait_api_Wait.f (k : Nat) (l0 : List S23) : Option (Int) := (slices_IndexFunc_api_Wait_api_Wait.l1 k l0 k 0)
def slices_ContainsFunc_api_Wait_api_Wait.f (k : Nat) (l0 : List S23) : Option (Bool) := ((slices_IndexFunc_api_Wait_api_Wait.f k l0).bind fun t1687 => (some (decide (t1687 ≥ 0))))
def queue_all.f (k : Nat) (l0 : List S23) : Option (Bool) := (if (l0.length : Int) ≤ 64 then ((slices_ContainsFunc_api_Wait_api_Wait.f k l0).bind fun t1695 => (if t1695 = true then (some false) else (some true))) else (some false))
def queue_Right.l1 (k : Nat) (l0 : List S23) : Nat → Int → Option (Bool)
  | 0, _ => none
  | ml1 + 1, i1529 => (if i1529 < (l0.length : Int) then (if 0 ≤ i1529 then ((l0[i1529.toNat]?).bind fun x1710 => (if 0 ≤ IntKind.i64.wrap ((wrap64 (i1529 - 1)).tdiv 2) then ((l0[(IntKind.i64.wrap ((wrap64 (i1529 - 1)).tdiv 2)).toNat]?).bind fun x1712 => ((queue_Less.f k x1710.f0 x1710.f1 x1710.f2 x1712.f0 x1712.f1 x1712.f2).bind fun t1713 => (if t1713 = true then (some false) else (queue_Right.l1 k l0 ml1 (wrap64 (i1529 + 1)))))) else none)) else none) else ((queue_all.f k l0).bind fun t1716 => (some t1716)))
def queue_Right.f (k : Nat) (l0 : List S23) : Option (Bool) := (queue_Right.l1 k l0 k 1)
def waits_may.f (k : Nat) (a0_0 : ByteArray) (a0_1 : Int) (a0_2 : Int) (a0_3 : Int) : Option (Bool) := ((goods_Right.f k ([a0_0] : List ByteArray) []).bind fun t1723 => (if t1723 = true then ((queue_Right.f k ([(⟨a0_1, a0_2, a0_3⟩ : S23)] : List S23)).bind fun t1728 => (some t1728)) else (some false)))
def waits_like_is.f (a0_0 : ByteArray) (a0_1 : Int) (a0_2 : Int) (a0_3 : Int) (a1_0 : ByteArray) (a1_1 : Int) (a1_2 : Int) (a1_3 : Int) : Option (Bool) := (if a0_3 = a1_3 then (some true) else (some (a0_2 == a1_2)))
def slices_IndexFunc_api_Line_api_Line.l1 (k : Nat) (a1_90_0 : ByteArray) (a1_90_1 : Int) (a1_90_2 : Int) (a1_90_3 : Int) (l0 : List S25) : Nat → Int → Option (Int)
  | 0, _ => none
  | ml1 + 1, i1811 => (if i1811 < (l0.length : Int) then (if 0 ≤ i1811 then ((l0[i1811.toNat]?).bind fun x1840 => ((waits_like_is.f a1_90_0 a1_90_1 a1_90_2 a1_90_3 x1840.f0 x1840.f1 x1840.f2 x1840.f3).bind fun t1843 => (if t1843 = true then (some i1811) else (slices_IndexFunc_api_Line_api_Line.l1 k a1_90_0 a1_90_1 a1_90_2 a1_90_3 l0 ml1 (wrap64 (i1811 + 1)))))) else none) else (some (-1)))
def slices_IndexFunc_api_Line_api_Line.f (k : Nat) (l0 : List S25) (a1_90_0 : ByteArray) (a1_90_1 : Int) (a1_90_2 : Int) (a1_90_3 : Int) : Option (Int) := (slices_IndexFunc_api_Line_api_Line.l1 k a1_90_0 a1_90_1 a1_90_2 a1_90_3 l0 k 0)
def slices_ContainsFunc_api_Line_api_Line.f (k : Nat) (l0 : List S25) (a1_90_0 : ByteArray) (a1_90_1 : Int) (a1_90_2 : Int) (a1_90_3 : Int) : Option (Bool) := ((slices_IndexFunc_api_Line_api_Line.f k l0 a1_90_0 a1_90_1 a1_90_2 a1_90_3).bind fun t1846 => (some (decide (t1846 ≥ 0))))
def waits_all.l1 (k : Nat) (l0 : List S25) : Nat → Int → Option (Bool)
  | 0, _ => none
  | ml1 + 1, i1957 => (if i1957 < (l0.length : Int) then (if 0 ≤ i1957 then ((l0[i1957.toNat]?).bind fun x2008 => ((waits_may.f k x2008.f0 x2008.f1 x2008.f2 x2008.f3).bind fun t2012 => (if t2012 = true then (if i1957 ≤ (l0.length : Int) then ((slices_ContainsFunc_api_Line_api_Line.f k ((l0.take i1957.toNat).drop 0) x2008.f0 x2008.f1 x2008.f2 x2008.f3).bind fun t2018 => (if t2018 = true then (some false) else (waits_all.l1 k l0 ml1 (wrap64 (i1957 + 1))))) else none) else (some false)))) else none) else (some (decide ((l0.length : Int) ≤ 32))))
def waits_all.f (k : Nat) (l0 : List S25) : Option (Bool) := (waits_all.l1 k l0 k 0)
def slices_Clone_api_Line_api_Line.f (l0 : List S25) : Option (List S25) := if l0.length * 40 ≤ 140737488355328 then some l0 else none
def waits_compare.f (k : Nat) (a0_0 : ByteArray) (a0_1 : Int) (a0_2 : Int) (a0_3 : Int) (a1_0 : ByteArray) (a1_1 : Int) (a1_2 : Int) (a1_3 : Int) : Option (Int) := ((queue_Less.f k a0_1 a0_2 a0_3 a1_1 a1_2 a1_3).bind fun t2044 => (if t2044 = true then ((queue_Less.f k a1_1 a1_2 a1_3 a0_1 a0_2 a0_3).bind fun t2050 => (if t2050 = true then ((strings_Compare.f a0_0 a1_0).bind fun t2053 => ((cmp_Or_int.f k ([t2053, wrap64 (1 - 1)] : List Int)).bind fun t2057 => (some t2057))) else ((strings_Compare.f a0_0 a1_0).bind fun t2059 => ((cmp_Or_int.f k ([t2059, wrap64 (0 - 1)] : List Int)).bind fun t2063 => (some t2063))))) else ((queue_Less.f k a1_1 a1_2 a1_3 a0_1 a0_2 a0_3).bind fun t2068 => (if t2068 = true then ((strings_Compare.f a0_0 a1_0).bind fun t2071 => ((cmp_Or_int.f k ([t2071, wrap64 (1 - 0)] : List Int)).bind fun t2075 => (some t2075))) else ((strings_Compare.f a0_0 a1_0).bind fun t2077 => ((cmp_Or_int.f k ([t2077, wrap64 (0 - 0)] : List Int)).bind fun t2081 => (some t2081)))))))
def slices_SortFunc_api_Line_api_Line.p (k : Nat) (x y : S25) : Option Int := waits_compare.f k x.f0 x.f1 x.f2 x.f3 y.f0 y.f1 y.f2 y.f3
def slices_SortFunc_api_Line_api_Line.f (k : Nat) (l0 : List S25) : Option (List S25) := if 4 ≤ k ∧ l0.length < 4611686018427387904 then some (l0.mergeSort fun x y => !decide ((slices_SortFunc_api_Line_api_Line.p k y x).getD 0 < 0)) else none
def waits_Make.f (k : Nat) (l0 : List S25) : Option (List S25 × Int) := ((waits_all.f k l0).bind fun t2032 => (if t2032 = true then ((slices_Clone_api_Line_api_Line.f l0).bind fun r2035 => ((slices_SortFunc_api_Line_api_Line.f k r2035).bind fun r2083 => (some (r2083, 0)))) else (some (([] : List S25), 1))))
def slices_IsSortedFunc_api_Line_api_Line.l1 (k : Nat) (l0 : List S25) : Nat → Int → Option (Bool)
  | 0, _ => none
  | ml1 + 1, i2195 => (if i2195 > 0 then (if 0 ≤ i2195 then ((l0[i2195.toNat]?).bind fun x2229 => (if 0 ≤ wrap64 (i2195 - 1) then ((l0[(wrap64 (i2195 - 1)).toNat]?).bind fun x2231 => ((waits_compare.f k x2229.f0 x2229.f1 x2229.f2 x2229.f3 x2231.f0 x2231.f1 x2231.f2 x2231.f3).bind fun t2232 => (if t2232 < 0 then (some false) else (slices_IsSortedFunc_api_Line_api_Line.l1 k l0 ml1 (wrap64 (i2195 - 1)))))) else none)) else none) else (some true))
def slices_IsSortedFunc_api_Line_api_Line.f (k : Nat) (l0 : List S25) : Option (Bool) := (slices_IsSortedFunc_api_Line_api_Line.l1 k l0 k (wrap64 ((l0.length : Int) - 1)))
def waits_Right.f (k : Nat) (l0 : List S25) : Option (Bool) := ((waits_all.f k l0).bind fun t2238 => (if t2238 = true then ((slices_IsSortedFunc_api_Line_api_Line.f k l0).bind fun t2241 => (some t2241)) else (some false)))
def waits_Of.l1 (k : Nat) (a1 : ByteArray) (l0 : List S25) : Nat → (List S23) → Int → Option (List S23 × Int)
  | 0, _, _ => none
  | ml1 + 1, l2371, i2373 => (if i2373 < (l0.length : Int) then (if 0 ≤ i2373 then ((l0[i2373.toNat]?).bind fun x2417 => (if (x2417.f0 == a1) = true then (if (l2371.length + ([(⟨x2417.f1, x2417.f2, x2417.f3⟩ : S23)] : List S23).length) * 24 ≤ 140737488355328 then (waits_Of.l1 k a1 l0 ml1 (l2371 ++ ([(⟨x2417.f1, x2417.f2, x2417.f3⟩ : S23)] : List S23)) (wrap64 (i2373 + 1))) else none) else (waits_Of.l1 k a1 l0 ml1 l2371 (wrap64 (i2373 + 1))))) else none) else (some (l2371, 0)))
def waits_Of.f (k : Nat) (l0 : List S25) (a1 : ByteArray) : Option (List S23 × Int) := ((waits_Right.f k l0).bind fun t2253 => (if t2253 = true then (waits_Of.l1 k a1 l0 k ([] : List S23) 0) else (some (([] : List S23), 1))))
def tarrylaw09_alive.f (k : Nat)  : Option (Bool) := ((waits_Make.f k ([(⟨(⟨#[99, 117, 112]⟩ : ByteArray), 1, 1, 1⟩ : S25), (⟨(⟨#[99, 117, 112]⟩ : ByteArray), 0, 7, 2⟩ : S25)] : List S25)).bind fun ⟨r2101, t2102⟩ => ((waits_Of.f k r2101 (⟨#[99, 117, 112]⟩ : ByteArray)).bind fun ⟨r2429, t2430⟩ => (if t2102 = 0 then (if t2430 = 0 then (if (r2429.length : Int) = 2 then ((r2429[0]?).bind fun x2450 => (some (x2450.f2 == 2))) else (some false)) else (some false)) else (some false))))
def slices_Clip_api_Line_api_Line.f (l0 : List S25) : Option (List S25) := some l0
def waits_Put.f (k : Nat) (l0 : List S25) (a1_0 : ByteArray) (a1_1 : Int) (a1_2 : Int) (a1_3 : Int) : Option (List S25 × Int) := ((waits_Right.f k l0).bind fun t2536 => (if t2536 = true then ((waits_may.f k a1_0 a1_1 a1_2 a1_3).bind fun t2539 => (if t2539 = true then ((slices_ContainsFunc_api_Line_api_Line.f k l0 a1_0 a1_1 a1_2 a1_3).bind fun t2542 => (if t2542 = true then (some (([] : List S25), 9)) else (if (l0.length : Int) = 32 then (some (([] : List S25), 7)) else ((slices_Clip_api_Line_api_Line.f l0).bind fun r2549 => (if (r2549.length + ([(⟨a1_0, a1_1, a1_2, a1_3⟩ : S25)] : List S25).length) * 40 ≤ 140737488355328 then ((waits_Make.f k (r2549 ++ ([(⟨a1_0, a1_1, a1_2, a1_3⟩ : S25)] : List S25))).bind fun ⟨r2558, t2559⟩ => (some (r2558, t2559))) else none))))) else (some (([] : List S25), 1)))) else (some (([] : List S25), 1))))
def tarryref09_Same.l1 (k : Nat) (l0 : List S25) (l1 : List S25) : Nat → Int → Option (Bool)
  | 0, _ => none
  | ml1 + 1, i2798 => (if i2798 < (l0.length : Int) then (if 0 ≤ i2798 then ((l0[i2798.toNat]?).bind fun x2821 => ((l1[i2798.toNat]?).bind fun x2822 => (if (((x2821.f0 == x2822.f0) && ((x2821.f1 == x2822.f1) && ((x2821.f2 == x2822.f2) && (x2821.f3 == x2822.f3))))) = true then (tarryref09_Same.l1 k l0 l1 ml1 (wrap64 (i2798 + 1))) else (some false)))) else none) else (some true))
def tarryref09_Same.f (k : Nat) (l0 : List S25) (l1 : List S25) : Option (Bool) := (if (l0.length : Int) = (l1.length : Int) then (tarryref09_Same.l1 k l0 l1 k 0) else (some false))
def waits_at_1.f (a0_0 : ByteArray) (a0_1 : Int) (a0_2 : Int) (a0_3 : Int) (a1_0 : Int) : Option (Bool) := (some (a0_3 == a1_0))
def slices_IndexFunc_api_Line_api_Line_s50.l1 (k : Nat) (a1_0_0 : Int) (l0 : List S25) : Nat → Int → Option (Int)
  | 0, _ => none
  | ml1 + 1, i2942 => (if i2942 < (l0.length : Int) then (if 0 ≤ i2942 then ((l0[i2942.toNat]?).bind fun x2971 => ((waits_at_1.f x2971.f0 x2971.f1 x2971.f2 x2971.f3 a1_0_0).bind fun t2974 => (if t2974 = true then (some i2942) else (slices_IndexFunc_api_Line_api_Line_s50.l1 k a1_0_0 l0 ml1 (wrap64 (i2942 + 1)))))) else none) else (some (-1)))
def slices_IndexFunc_api_Line_api_Line_s50.f (k : Nat) (l0 : List S25) (a1_0_0 : Int) : Option (Int) := (slices_IndexFunc_api_Line_api_Line_s50.l1 k a1_0_0 l0 k 0)
def waits_at.f (k : Nat) (l0 : List S25) (a1 : Int) : Option (Int × Int) := ((waits_Right.f k l0).bind fun t2871 => (if t2871 = true then ((slices_IndexFunc_api_Line_api_Line_s50.f k l0 a1).bind fun t2977 => (if t2977 < 0 then (some (0, 8)) else (some (t2977, 0)))) else (some (0, 1))))
def slices_Delete_api_Line_api_Line.f (l0 : List S25) (a1 : Int) (a2 : Int) : Option (List S25) := if 0 ≤ a1 ∧ a1 ≤ a2 ∧ a2 ≤ (l0.length : Int) then some (l0.take a1.toNat ++ l0.drop a2.toNat) else none
def waits_Drop.f (k : Nat) (l0 : List S25) (a1 : Int) : Option (List S25 × Int) := ((waits_at.f k l0 a1).bind fun ⟨t2983, t2984⟩ => (if t2984 = 0 then ((slices_Clone_api_Line_api_Line.f l0).bind fun r2991 => ((slices_Delete_api_Line_api_Line.f r2991 t2983 (wrap64 (t2983 + 1))).bind fun r2995 => (some (r2995, 0)))) else (some (([] : List S25), t2984))))
def tarrylaw09_WaitsBuilt.l4 (k : Nat) (a1 : Int) (r134 : List S25) (r2087 : List S25) (t138 : ByteArray) (t139 : Int) (t140 : Int) (t141 : Int) : Nat → (List S25) → Int → Option (Bool)
  | 0, _, _ => none
  | ml4 + 1, l3273, i3275 => (if i3275 < (((([] : List S25) ++ ((r134.take r134.length).drop (((wrap64 ((a1.tmod (r134.length : Int)) + (r134.length : Int))).tmod (r134.length : Int)).toNat))) ++ ((r134.take (((wrap64 ((a1.tmod (r134.length : Int)) + (r134.length : Int))).tmod (r134.length : Int)).toNat)).drop 0)).length : Int) then (if 0 ≤ i3275 then ((((([] : List S25) ++ ((r134.take r134.length).drop (((wrap64 ((a1.tmod (r134.length : Int)) + (r134.length : Int))).tmod (r134.length : Int)).toNat))) ++ ((r134.take (((wrap64 ((a1.tmod (r134.length : Int)) + (r134.length : Int))).tmod (r134.length : Int)).toNat)).drop 0))[i3275.toNat]?).bind fun x3373 => ((waits_Put.f k l3273 x3373.f0 x3373.f1 x3373.f2 x3373.f3).bind fun ⟨r3377, t3378⟩ => (if t3378 = 0 then (tarrylaw09_WaitsBuilt.l4 k a1 r134 r2087 t138 t139 t140 t141 ml4 r3377 (wrap64 (i3275 + 1))) else none))) else none) else ((tarryref09_Same.f k l3273 r2087).bind fun t3404 => (if t3404 = true then ((tarrylaw09_alive.f k).bind fun t3407 => (if t3407 = true then ((waits_Put.f k l3273 t138 t139 t140 t141).bind fun ⟨r3410, t3411⟩ => (if t3411 = 0 then ((waits_Drop.f k r3410 t141).bind fun ⟨r3420, t3421⟩ => (if t3421 = 0 then ((tarryref09_Same.f k r3420 r2087).bind fun t3431 => (some t3431)) else none)) else (some ((r3410.length : Int) == 0)))) else none)) else none)))
def tarrylaw09_WaitsBuilt.j2 (k : Nat) (a1 : Int) (r134 : List S25) (r2087 : List S25) (t138 : ByteArray) (t139 : Int) (t140 : Int) (t141 : Int) (q3103 : Bool) : Option (Bool) := (if q3103 = true then ((tarrylaw09_alive.f k).bind fun t3109 => (if t3109 = true then (some ((r2087.length : Int) == 0)) else none)) else (if (r134.length : Int) ≠ 0 then (if 0 ≤ (wrap64 ((a1.tmod (r134.length : Int)) + (r134.length : Int))).tmod (r134.length : Int) then (if ((wrap64 ((a1.tmod (r134.length : Int)) + (r134.length : Int))).tmod (r134.length : Int)) ≤ (r134.length : Int) then (if (([] : List S25).length + ((r134.take r134.length).drop (((wrap64 ((a1.tmod (r134.length : Int)) + (r134.length : Int))).tmod (r134.length : Int)).toNat)).length) * 40 ≤ 140737488355328 then (if ((([] : List S25) ++ ((r134.take r134.length).drop (((wrap64 ((a1.tmod (r134.length : Int)) + (r134.length : Int))).tmod (r134.length : Int)).toNat))).length + ((r134.take (((wrap64 ((a1.tmod (r134.length : Int)) + (r134.length : Int))).tmod (r134.length : Int)).toNat)).drop 0).length) * 40 ≤ 140737488355328 then (tarrylaw09_WaitsBuilt.l4 k a1 r134 r2087 t138 t139 t140 t141 k ([] : List S25) 0) else none) else none) else none) else none) else none))
def tarrylaw09_WaitsBuilt.f (k : Nat) (l0 : List S25) (a1 : Int) (a2_0 : ByteArray) (a2_1 : Int) (a2_2 : Int) (a2_3 : Int) : Option (Bool) := ((tarrylaw09_few.f k l0).bind fun r134 => ((tarrylaw09_cut.f a2_0 a2_1 a2_2 a2_3).bind fun ⟨t138, t139, t140, t141⟩ => ((waits_Make.f k r134).bind fun ⟨r2087, t2088⟩ => (if t2088 = 0 then (tarrylaw09_WaitsBuilt.j2 k a1 r134 r2087 t138 t139 t140 t141 ((r134.length : Int) == 0)) else (tarrylaw09_WaitsBuilt.j2 k a1 r134 r2087 t138 t139 t140 t141 true)))))
/-- THE ONE PURE STATEMENT. -/
def tarrylaw09_WaitsBuilt.Pure : Prop := ∀ (l0 : List S25) (a1 : Int) (a2_0 : ByteArray) (a2_1 : Int) (a2_2 : Int) (a2_3 : Int), allOk ok25 l0 → (Lit.int .i64 a1).wf = true → a2_0.size ≤ 9223372036854775807 → (Lit.int .i64 a2_1).wf = true → (Lit.int .i64 a2_2).wf = true → (Lit.int .i64 a2_3).wf = true → ∃ k, tarrylaw09_WaitsBuilt.f k l0 a1 a2_0 a2_1 a2_2 a2_3 = some true

end Go.Proofs.Ytdofmkbffffbpaa.PWaitsBuilt
