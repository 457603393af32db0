/- Written by a program of this repo: what the program's functions do, each as a Lean function, shown of the loaded code; or a statement's row over that; no condition of its own. -/
import Derived.Test.YtibpoajlnloloaaProg
import Derived.Test.YtibpoajlnloloaaV20
namespace Go.Proofs.Ytibpoajlnloloaa.PStockKeeps
open Go Go.RowKit Go.Proofs.YtibpoajlnloloaaV
set_option linter.unusedVariables false
set_option linter.unusedSimpArgs false

structure S25 where
  f0 : Int
  f1 : ByteArray
  f2 : Int
def enc25 (x : S25) : List Value := [.int .i64 x.f0, .string x.f1, .int .i64 x.f2]
theorem enc25_ok (a : S25) : (enc25 a).length = 3 ∧ ∀ u ∈ enc25 a, u.oneCell' = true := ⟨rfl, by intro u hu; simp only [enc25, List.mem_cons, List.not_mem_nil, or_false] at hu; rcases hu with rfl | rfl | rfl <;> rfl⟩
def ok25 (x : S25) : Prop := (Lit.int .i64 x.f0).wf = true ∧ x.f1.size ≤ 9223372036854775807 ∧ (Lit.int .i64 x.f2).wf = true
structure S32 where
  f0 : ByteArray
  f1 : Int
  f2 : Int
  f3 : Int
  f4 : Int
  f5 : Int
def enc32 (x : S32) : List Value := [.string x.f0, .int .i64 x.f1, .int .i64 x.f2, .int .i64 x.f3, .int .i64 x.f4, .int .i64 x.f5]
theorem enc32_ok (a : S32) : (enc32 a).length = 6 ∧ ∀ u ∈ enc32 a, u.oneCell' = true := ⟨rfl, by intro u hu; simp only [enc32, List.mem_cons, List.not_mem_nil, or_false] at hu; rcases hu with rfl | rfl | rfl | rfl | rfl | rfl <;> rfl⟩
def ok32 (x : S32) : Prop := x.f0.size ≤ 9223372036854775807 ∧ (Lit.int .i64 x.f1).wf = true ∧ (Lit.int .i64 x.f2).wf = true ∧ (Lit.int .i64 x.f3).wf = true ∧ (Lit.int .i64 x.f4).wf = true ∧ (Lit.int .i64 x.f5).wf = true
structure S71 where
  f0 : ByteArray
  f1 : ByteArray
  f2 : Int
  f3 : Int
  f4 : Int
def enc71 (x : S71) : List Value := [.string x.f0, .string x.f1, .int .i64 x.f2, .int .i64 x.f3, .int .i64 x.f4]
theorem enc71_ok (a : S71) : (enc71 a).length = 5 ∧ ∀ u ∈ enc71 a, u.oneCell' = true := ⟨rfl, by intro u hu; simp only [enc71, List.mem_cons, List.not_mem_nil, or_false] at hu; rcases hu with rfl | rfl | rfl | rfl | rfl <;> rfl⟩
def ok71 (x : S71) : Prop := x.f0.size ≤ 9223372036854775807 ∧ x.f1.size ≤ 9223372036854775807 ∧ (Lit.int .i64 x.f2).wf = true ∧ (Lit.int .i64 x.f3).wf = true ∧ (Lit.int .i64 x.f4).wf = true
def enc_inti64 (x : Int) : List Value := [.int .i64 x]
theorem enc_inti64_ok (a : Int) : (enc_inti64 a).length = 1 ∧ ∀ u ∈ enc_inti64 a, u.oneCell' = true := ⟨rfl, by intro u hu; simp only [enc_inti64, List.mem_cons, List.not_mem_nil, or_false] at hu; rcases hu with rfl; rfl⟩
def enc_str (x : ByteArray) : List Value := [.string x]
theorem enc_str_ok (a : ByteArray) : (enc_str a).length = 1 ∧ ∀ u ∈ enc_str a, u.oneCell' = true := ⟨rfl, by intro u hu; simp only [enc_str, List.mem_cons, List.not_mem_nil, or_false] at hu; rcases hu with rfl; rfl⟩
def enc_intu8 (x : Int) : List Value := [.int .u8 x]
theorem enc_intu8_ok (a : Int) : (enc_intu8 a).length = 1 ∧ ∀ u ∈ enc_intu8 a, u.oneCell' = true := ⟨rfl, by intro u hu; simp only [enc_intu8, List.mem_cons, List.not_mem_nil, or_false] at hu; rcases hu with rfl; rfl⟩
theorem VC.join0 {E : Env} {P : Program} {Q : Exit → Act → World → Prop} {s : St}  {c1 c2 : Code} (I : St) (F : Prop) (hx : VC P E c1 (Exit.then (fun a w => F ∧ Inv E (I) a w) Q) s) (hy : F → VC P E c2 Q (I)) : VC P E (.seq c1 c2) Q s :=
  fun a w hi => wpIn_seq (Code.wpIn_mono (fun e a w h => by
    cases e <;> first | exact h | (obtain ⟨hf, hi⟩ := h; exact hy  hf a w hi)) (hx a w hi))
theorem VN.meet0 {E : Env} {Q : Exit → Act → World → Prop} {s : St}  {I : St} {F : Prop}  (bs rs : List Nat) (hf : F) (hl : Le s (I) bs rs) : VN E (Exit.then (fun a w => F ∧ Inv E (I) a w) Q) s :=
  fun a w hi => ⟨hf, hi.le hl⟩
theorem VC.join4 {E : Env} {P : Program} {Q : Exit → Act → World → Prop} {s : St} {α0 : Type} {α1 : Type} {α2 : Type} {α3 : Type} {c1 c2 : Code} (I : α0 → α1 → α2 → α3 → St) (F : α0 → α1 → α2 → α3 → Prop) (hx : VC P E c1 (Exit.then (fun a w => ∃ (x0 : α0) (x1 : α1) (x2 : α2) (x3 : α3), F x0 x1 x2 x3 ∧ Inv E (I x0 x1 x2 x3) a w) Q) s) (hy : ∀ (x0 : α0) (x1 : α1) (x2 : α2) (x3 : α3), F x0 x1 x2 x3 → VC P E c2 Q (I x0 x1 x2 x3)) : VC P E (.seq c1 c2) Q s :=
  fun a w hi => wpIn_seq (Code.wpIn_mono (fun e a w h => by
    cases e <;> first | exact h | (obtain ⟨x0, x1, x2, x3, hf, hi⟩ := h; exact hy x0 x1 x2 x3 hf a w hi)) (hx a w hi))
theorem VN.meet4 {E : Env} {Q : Exit → Act → World → Prop} {s : St} {α0 : Type} {α1 : Type} {α2 : Type} {α3 : Type} {I : α0 → α1 → α2 → α3 → St} {F : α0 → α1 → α2 → α3 → Prop} (x0 : α0) (x1 : α1) (x2 : α2) (x3 : α3) (bs rs : List Nat) (hf : F x0 x1 x2 x3) (hl : Le s (I x0 x1 x2 x3) bs rs) : VN E (Exit.then (fun a w => ∃ (x0 : α0) (x1 : α1) (x2 : α2) (x3 : α3), F x0 x1 x2 x3 ∧ Inv E (I x0 x1 x2 x3) a w) Q) s :=
  fun a w hi => ⟨x0, x1, x2, x3, hf, hi.le hl⟩
theorem VC.join5 {E : Env} {P : Program} {Q : Exit → Act → World → Prop} {s : St} {α0 : Type} {α1 : Type} {α2 : Type} {α3 : Type} {α4 : Type} {c1 c2 : Code} (I : α0 → α1 → α2 → α3 → α4 → St) (F : α0 → α1 → α2 → α3 → α4 → Prop) (hx : VC P E c1 (Exit.then (fun a w => ∃ (x0 : α0) (x1 : α1) (x2 : α2) (x3 : α3) (x4 : α4), F x0 x1 x2 x3 x4 ∧ Inv E (I x0 x1 x2 x3 x4) a w) Q) s) (hy : ∀ (x0 : α0) (x1 : α1) (x2 : α2) (x3 : α3) (x4 : α4), F x0 x1 x2 x3 x4 → VC P E c2 Q (I x0 x1 x2 x3 x4)) : VC P E (.seq c1 c2) Q s :=
  fun a w hi => wpIn_seq (Code.wpIn_mono (fun e a w h => by
    cases e <;> first | exact h | (obtain ⟨x0, x1, x2, x3, x4, hf, hi⟩ := h; exact hy x0 x1 x2 x3 x4 hf a w hi)) (hx a w hi))
theorem VN.meet5 {E : Env} {Q : Exit → Act → World → Prop} {s : St} {α0 : Type} {α1 : Type} {α2 : Type} {α3 : Type} {α4 : Type} {I : α0 → α1 → α2 → α3 → α4 → St} {F : α0 → α1 → α2 → α3 → α4 → Prop} (x0 : α0) (x1 : α1) (x2 : α2) (x3 : α3) (x4 : α4) (bs rs : List Nat) (hf : F x0 x1 x2 x3 x4) (hl : Le s (I x0 x1 x2 x3 x4) bs rs) : VN E (Exit.then (fun a w => ∃ (x0 : α0) (x1 : α1) (x2 : α2) (x3 : α3) (x4 : α4), F x0 x1 x2 x3 x4 ∧ Inv E (I x0 x1 x2 x3 x4) a w) Q) s :=
  fun a w hi => ⟨x0, x1, x2, x3, x4, hf, hi.le hl⟩
theorem VC.loop1 {E : Env} {P : Program} {Q : Exit → Act → World → Prop} {s : St} {α0 : Type} {c : Code} (I : α0 → St) (F : Nat → α0 → Prop) (k : Nat) (x0 : α0) (bs rs : List Nat) (hf : F k x0) (hl : Le s (I x0) bs rs) (hz : ∀ (x0 : α0), ¬ F 0 x0) (h : ∀ k, (∀ (x0 : α0), F k x0 → VLp P E c Q k (I x0)) → ∀ (x0 : α0), F (k + 1) x0 → VC P E c (Exit.then (Code.roundsIn E.F 0 P c Q k) Q) (I x0)) : VC P E (.loop c) Q s := by
  have key : ∀ k (x0 : α0), F k x0 → VLp P E c Q k (I x0) := by
    intro k
    induction k with
    | zero => intro x0 hf; exact absurd hf (hz x0)
    | succ k ih => intro x0 hf; exact VLp.succ (h k ih x0 hf)
  exact fun a w hi => wpIn_loop_rounds k (key k x0 hf a w (hi.le hl))
theorem VC.loop2 {E : Env} {P : Program} {Q : Exit → Act → World → Prop} {s : St} {α0 : Type} {α1 : Type} {c : Code} (I : α0 → α1 → St) (F : Nat → α0 → α1 → Prop) (k : Nat) (x0 : α0) (x1 : α1) (bs rs : List Nat) (hf : F k x0 x1) (hl : Le s (I x0 x1) bs rs) (hz : ∀ (x0 : α0) (x1 : α1), ¬ F 0 x0 x1) (h : ∀ k, (∀ (x0 : α0) (x1 : α1), F k x0 x1 → VLp P E c Q k (I x0 x1)) → ∀ (x0 : α0) (x1 : α1), F (k + 1) x0 x1 → VC P E c (Exit.then (Code.roundsIn E.F 0 P c Q k) Q) (I x0 x1)) : VC P E (.loop c) Q s := by
  have key : ∀ k (x0 : α0) (x1 : α1), F k x0 x1 → VLp P E c Q k (I x0 x1) := by
    intro k
    induction k with
    | zero => intro x0 x1 hf; exact absurd hf (hz x0 x1)
    | succ k ih => intro x0 x1 hf; exact VLp.succ (h k ih x0 x1 hf)
  exact fun a w hi => wpIn_loop_rounds k (key k x0 x1 hf a w (hi.le hl))
theorem VC.loop6 {E : Env} {P : Program} {Q : Exit → Act → World → Prop} {s : St} {α0 : Type} {α1 : Type} {α2 : Type} {α3 : Type} {α4 : Type} {α5 : Type} {c : Code} (I : α0 → α1 → α2 → α3 → α4 → α5 → St) (F : Nat → α0 → α1 → α2 → α3 → α4 → α5 → Prop) (k : Nat) (x0 : α0) (x1 : α1) (x2 : α2) (x3 : α3) (x4 : α4) (x5 : α5) (bs rs : List Nat) (hf : F k x0 x1 x2 x3 x4 x5) (hl : Le s (I x0 x1 x2 x3 x4 x5) bs rs) (hz : ∀ (x0 : α0) (x1 : α1) (x2 : α2) (x3 : α3) (x4 : α4) (x5 : α5), ¬ F 0 x0 x1 x2 x3 x4 x5) (h : ∀ k, (∀ (x0 : α0) (x1 : α1) (x2 : α2) (x3 : α3) (x4 : α4) (x5 : α5), F k x0 x1 x2 x3 x4 x5 → VLp P E c Q k (I x0 x1 x2 x3 x4 x5)) → ∀ (x0 : α0) (x1 : α1) (x2 : α2) (x3 : α3) (x4 : α4) (x5 : α5), F (k + 1) x0 x1 x2 x3 x4 x5 → VC P E c (Exit.then (Code.roundsIn E.F 0 P c Q k) Q) (I x0 x1 x2 x3 x4 x5)) : VC P E (.loop c) Q s := by
  have key : ∀ k (x0 : α0) (x1 : α1) (x2 : α2) (x3 : α3) (x4 : α4) (x5 : α5), F k x0 x1 x2 x3 x4 x5 → VLp P E c Q k (I x0 x1 x2 x3 x4 x5) := by
    intro k
    induction k with
    | zero => intro x0 x1 x2 x3 x4 x5 hf; exact absurd hf (hz x0 x1 x2 x3 x4 x5)
    | succ k ih => intro x0 x1 x2 x3 x4 x5 hf; exact VLp.succ (h k ih x0 x1 x2 x3 x4 x5 hf)
  exact fun a w hi => wpIn_loop_rounds k (key k x0 x1 x2 x3 x4 x5 hf a w (hi.le hl))
theorem VC.stop0 {E : Env} {P : Program} {Q : Exit → Act → World → Prop} {s : St}  {c1 : Code} (I : St) (F : Prop) (hx : VC P E c1 (Exit.then (fun a w => F ∧ Inv E (I) a w) Q) s) (hy : F → VN E Q (I)) : VC P E c1 Q s :=
  fun a w hi => Code.wpIn_mono (fun e a w h => by
    cases e <;> first | exact h | (obtain ⟨hf, hi⟩ := h; exact hy  hf a w hi)) (hx a w hi)
theorem VC.stop4 {E : Env} {P : Program} {Q : Exit → Act → World → Prop} {s : St} {α0 : Type} {α1 : Type} {α2 : Type} {α3 : Type} {c1 : Code} (I : α0 → α1 → α2 → α3 → St) (F : α0 → α1 → α2 → α3 → Prop) (hx : VC P E c1 (Exit.then (fun a w => ∃ (x0 : α0) (x1 : α1) (x2 : α2) (x3 : α3), F x0 x1 x2 x3 ∧ Inv E (I x0 x1 x2 x3) a w) Q) s) (hy : ∀ (x0 : α0) (x1 : α1) (x2 : α2) (x3 : α3), F x0 x1 x2 x3 → VN E Q (I x0 x1 x2 x3)) : VC P E c1 Q s :=
  fun a w hi => Code.wpIn_mono (fun e a w h => by
    cases e <;> first | exact h | (obtain ⟨x0, x1, x2, x3, hf, hi⟩ := h; exact hy x0 x1 x2 x3 hf a w hi)) (hx a w hi)
theorem VC.stop5 {E : Env} {P : Program} {Q : Exit → Act → World → Prop} {s : St} {α0 : Type} {α1 : Type} {α2 : Type} {α3 : Type} {α4 : Type} {c1 : Code} (I : α0 → α1 → α2 → α3 → α4 → St) (F : α0 → α1 → α2 → α3 → α4 → Prop) (hx : VC P E c1 (Exit.then (fun a w => ∃ (x0 : α0) (x1 : α1) (x2 : α2) (x3 : α3) (x4 : α4), F x0 x1 x2 x3 x4 ∧ Inv E (I x0 x1 x2 x3 x4) a w) Q) s) (hy : ∀ (x0 : α0) (x1 : α1) (x2 : α2) (x3 : α3) (x4 : α4), F x0 x1 x2 x3 x4 → VN E Q (I x0 x1 x2 x3 x4)) : VC P E c1 Q s :=
  fun a w hi => Code.wpIn_mono (fun e a w h => by
    cases e <;> first | exact h | (obtain ⟨x0, x1, x2, x3, x4, hf, hi⟩ := h; exact hy x0 x1 x2 x3 x4 hf a w hi)) (hx a w hi)
theorem MK9 : KeyOk Try.prog 9 mS := keyS Try.underlying9
theorem TI26 : TI Try.prog 26 true 3 := ⟨⟨_, Try.underlying26, rfl⟩, by kernel_rfl⟩
theorem Z26 : (Try.prog.info? 26).bind (·.zero) = some (.agg #[.int .i64 0, .string (⟨#[]⟩ : ByteArray), .int .i64 0]) := by kernel_rfl
theorem ZL26 : (.agg #[.int .i64 0, .string (⟨#[]⟩ : ByteArray), .int .i64 0] : Value).cells.toList = [.int .i64 0, .string (⟨#[]⟩ : ByteArray), .int .i64 0] := rfl
theorem TI9 : TI Try.prog 9 false 1 := ⟨⟨_, Try.underlying9, rfl⟩, by kernel_rfl⟩
theorem FI26_1 : FI Try.prog 26 1 1 1 := ⟨_, _, _, Try.underlying26, rfl, rfl, TI9⟩
theorem TI3 : TI Try.prog 3 false 1 := ⟨⟨_, Try.underlying3, rfl⟩, by kernel_rfl⟩
theorem FI26_2 : FI Try.prog 26 2 2 1 := ⟨_, _, _, Try.underlying26, rfl, rfl, TI3⟩
theorem FI26_0 : FI Try.prog 26 0 0 1 := ⟨_, _, _, Try.underlying26, rfl, rfl, TI3⟩
theorem TI33 : TI Try.prog 33 true 6 := ⟨⟨_, Try.underlying33, rfl⟩, by kernel_rfl⟩
theorem Z33 : (Try.prog.info? 33).bind (·.zero) = some (.agg #[.string (⟨#[]⟩ : ByteArray), .int .i64 0, .int .i64 0, .int .i64 0, .int .i64 0, .int .i64 0]) := by kernel_rfl
theorem ZL33 : (.agg #[.string (⟨#[]⟩ : ByteArray), .int .i64 0, .int .i64 0, .int .i64 0, .int .i64 0, .int .i64 0] : Value).cells.toList = [.string (⟨#[]⟩ : ByteArray), .int .i64 0, .int .i64 0, .int .i64 0, .int .i64 0, .int .i64 0] := rfl
theorem FI33_1 : FI Try.prog 33 1 1 1 := ⟨_, _, _, Try.underlying33, rfl, rfl, TI3⟩
theorem FI33_2 : FI Try.prog 33 2 2 1 := ⟨_, _, _, Try.underlying33, rfl, rfl, TI3⟩
theorem FI33_3 : FI Try.prog 33 3 3 1 := ⟨_, _, _, Try.underlying33, rfl, rfl, TI3⟩
theorem FI33_4 : FI Try.prog 33 4 4 1 := ⟨_, _, _, Try.underlying33, rfl, rfl, TI3⟩
theorem FI33_5 : FI Try.prog 33 5 5 1 := ⟨_, _, _, Try.underlying33, rfl, rfl, TI3⟩
theorem Z3 : (Try.prog.info? 3).bind (·.zero) = some (.int .i64 0) := by kernel_rfl
theorem FI33_0 : FI Try.prog 33 0 0 1 := ⟨_, _, _, Try.underlying33, rfl, rfl, TI9⟩
theorem Z9 : (Try.prog.info? 9).bind (·.zero) = some (.string (⟨#[]⟩ : ByteArray)) := by kernel_rfl
theorem TI60 : TI Try.prog 60 false 1 := ⟨⟨_, Try.underlying60, rfl⟩, by kernel_rfl⟩
theorem TI61 : TI Try.prog 61 false 1 := ⟨⟨_, Try.underlying61, rfl⟩, by kernel_rfl⟩
theorem Z63 : (Try.prog.info? 63).bind (·.zero) = some (.agg #[.slice none 0 0, .slice none 0 0]) := by kernel_rfl
theorem SI63 : SI Try.prog 63 [.slice none 0 0, .slice none 0 0] [(0, 1), (1, 1)] := ⟨⟨_, Try.underlying63, (.cons ⟨rfl, _, TI60⟩ (.cons ⟨rfl, _, TI61⟩ .nil))⟩, Z63⟩
theorem FI63_1 : FI Try.prog 63 1 1 1 := ⟨_, _, _, Try.underlying63, rfl, rfl, TI61⟩
theorem TI72 : TI Try.prog 72 true 5 := ⟨⟨_, Try.underlying72, rfl⟩, by kernel_rfl⟩
theorem Z72 : (Try.prog.info? 72).bind (·.zero) = some (.agg #[.string (⟨#[]⟩ : ByteArray), .string (⟨#[]⟩ : ByteArray), .int .i64 0, .int .i64 0, .int .i64 0]) := by kernel_rfl
theorem ZL72 : (.agg #[.string (⟨#[]⟩ : ByteArray), .string (⟨#[]⟩ : ByteArray), .int .i64 0, .int .i64 0, .int .i64 0] : Value).cells.toList = [.string (⟨#[]⟩ : ByteArray), .string (⟨#[]⟩ : ByteArray), .int .i64 0, .int .i64 0, .int .i64 0] := rfl
theorem FI72_0 : FI Try.prog 72 0 0 1 := ⟨_, _, _, Try.underlying72, rfl, rfl, TI9⟩
theorem FI72_1 : FI Try.prog 72 1 1 1 := ⟨_, _, _, Try.underlying72, rfl, rfl, TI9⟩
theorem FO47 : FOk Try.prog 47 := ⟨_, Try.func47, by kernel_rfl, by kernel_rfl⟩
theorem FO59 : FOk Try.prog 59 := ⟨_, Try.func59, by kernel_rfl, by kernel_rfl⟩
theorem FO46 : FOk Try.prog 46 := ⟨_, Try.func46, by kernel_rfl, by kernel_rfl⟩
theorem TI5 : TI Try.prog 5 false 1 := ⟨⟨_, Try.underlying5, rfl⟩, by kernel_rfl⟩
theorem FO63 : FOk Try.prog 63 := ⟨_, Try.func63, by kernel_rfl, by kernel_rfl⟩
theorem FO69 : FOk Try.prog 69 := ⟨_, Try.func69, by kernel_rfl, by kernel_rfl⟩
theorem FO64 : FOk Try.prog 64 := ⟨_, Try.func64, by kernel_rfl, by kernel_rfl⟩
theorem FO52 : FOk Try.prog 52 := ⟨_, Try.func52, by kernel_rfl, by kernel_rfl⟩
theorem FI72_2 : FI Try.prog 72 2 2 1 := ⟨_, _, _, Try.underlying72, rfl, rfl, TI3⟩
theorem FO60 : FOk Try.prog 60 := ⟨_, Try.func60, by kernel_rfl, by kernel_rfl⟩
theorem FI72_3 : FI Try.prog 72 3 3 1 := ⟨_, _, _, Try.underlying72, rfl, rfl, TI3⟩
theorem FI72_4 : FI Try.prog 72 4 4 1 := ⟨_, _, _, Try.underlying72, rfl, rfl, TI3⟩
theorem FO48 : FOk Try.prog 48 := ⟨_, Try.func48, by kernel_rfl, by kernel_rfl⟩
theorem FI63_0 : FI Try.prog 63 0 0 1 := ⟨_, _, _, Try.underlying63, rfl, rfl, TI60⟩
theorem FO61 : FOk Try.prog 61 := ⟨_, Try.func61, by kernel_rfl, by kernel_rfl⟩
theorem FO49 : FOk Try.prog 49 := ⟨_, Try.func49, by kernel_rfl, by kernel_rfl⟩
theorem FO51 : FOk Try.prog 51 := ⟨_, Try.func51, by kernel_rfl, by kernel_rfl⟩
theorem FO62 : FOk Try.prog 62 := ⟨_, Try.func62, by kernel_rfl, by kernel_rfl⟩
theorem FO50 : FOk Try.prog 50 := ⟨_, Try.func50, by kernel_rfl, by kernel_rfl⟩
theorem FO56 : FOk Try.prog 56 := ⟨_, Try.func56, by kernel_rfl, by kernel_rfl⟩
theorem FO41 : FOk Try.prog 41 := ⟨_, Try.func41, by kernel_rfl, by kernel_rfl⟩
theorem FO53 : FOk Try.prog 53 := ⟨_, Try.func53, by kernel_rfl, by kernel_rfl⟩
theorem FO70 : FOk Try.prog 70 := ⟨_, Try.func70, by kernel_rfl, by kernel_rfl⟩
theorem FO66 : FOk Try.prog 66 := ⟨_, Try.func66, by kernel_rfl, by kernel_rfl⟩
theorem FO65 : FOk Try.prog 65 := ⟨_, Try.func65, by kernel_rfl, by kernel_rfl⟩
theorem FO55 : FOk Try.prog 55 := ⟨_, Try.func55, by kernel_rfl, by kernel_rfl⟩
theorem FO54 : FOk Try.prog 54 := ⟨_, Try.func54, by kernel_rfl, by kernel_rfl⟩
theorem FO38 : FOk Try.prog 38 := ⟨_, Try.func38, by kernel_rfl, by kernel_rfl⟩
theorem FO23 : FOk Try.prog 23 := ⟨_, Try.func23, by kernel_rfl, by kernel_rfl⟩
theorem FO22 : FOk Try.prog 22 := ⟨_, Try.func22, by kernel_rfl, by kernel_rfl⟩
theorem FO44 : FOk Try.prog 44 := ⟨_, Try.func44, by kernel_rfl, by kernel_rfl⟩
theorem FO58 : FOk Try.prog 58 := ⟨_, Try.func58, by kernel_rfl, by kernel_rfl⟩
theorem FO45 : FOk Try.prog 45 := ⟨_, Try.func45, by kernel_rfl, by kernel_rfl⟩
theorem FO27 : FOk Try.prog 27 := ⟨_, Try.func27, by kernel_rfl, by kernel_rfl⟩
theorem FO9 : FOk Try.prog 9 := ⟨_, Try.func9, by kernel_rfl, by kernel_rfl⟩
theorem FO40 : FOk Try.prog 40 := ⟨_, Try.func40, by kernel_rfl, by kernel_rfl⟩
theorem FO39 : FOk Try.prog 39 := ⟨_, Try.func39, by kernel_rfl, by kernel_rfl⟩
theorem FO24 : FOk Try.prog 24 := ⟨_, Try.func24, by kernel_rfl, by kernel_rfl⟩
theorem EI33 : EI Try.prog 33 6 56 := ei_of (z := .agg #[.string (⟨#[]⟩ : ByteArray), .int .i64 0, .int .i64 0, .int .i64 0, .int .i64 0, .int .i64 0]) (by kernel_rfl) rfl (by decide) (by decide)
theorem FO25 : FOk Try.prog 25 := ⟨_, Try.func25, by kernel_rfl, by kernel_rfl⟩
theorem FO29 : FOk Try.prog 29 := ⟨_, Try.func29, by kernel_rfl, by kernel_rfl⟩
theorem FO28 : FOk Try.prog 28 := ⟨_, Try.func28, by kernel_rfl, by kernel_rfl⟩
theorem FO13 : FOk Try.prog 13 := ⟨_, Try.func13, by kernel_rfl, by kernel_rfl⟩
theorem FO30 : FOk Try.prog 30 := ⟨_, Try.func30, by kernel_rfl, by kernel_rfl⟩
theorem FO15 : FOk Try.prog 15 := ⟨_, Try.func15, by kernel_rfl, by kernel_rfl⟩
theorem FO31 : FOk Try.prog 31 := ⟨_, Try.func31, by kernel_rfl, by kernel_rfl⟩
theorem FO16 : FOk Try.prog 16 := ⟨_, Try.func16, by kernel_rfl, by kernel_rfl⟩
theorem FO37 : FOk Try.prog 37 := ⟨_, Try.func37, by kernel_rfl, by kernel_rfl⟩
theorem FO21 : FOk Try.prog 21 := ⟨_, Try.func21, by kernel_rfl, by kernel_rfl⟩
theorem FO7 : FOk Try.prog 7 := ⟨_, Try.func7, by kernel_rfl, by kernel_rfl⟩
theorem SI33 : SI Try.prog 33 [.string (⟨#[]⟩ : ByteArray), .int .i64 0, .int .i64 0, .int .i64 0, .int .i64 0, .int .i64 0] [(0, 1), (1, 1), (2, 1), (3, 1), (4, 1), (5, 1)] := ⟨⟨_, Try.underlying33, (.cons ⟨rfl, _, TI9⟩ (.cons ⟨rfl, _, TI3⟩ (.cons ⟨rfl, _, TI3⟩ (.cons ⟨rfl, _, TI3⟩ (.cons ⟨rfl, _, TI3⟩ (.cons ⟨rfl, _, TI3⟩ .nil))))))⟩, Z33⟩
theorem FO26 : FOk Try.prog 26 := ⟨_, Try.func26, by kernel_rfl, by kernel_rfl⟩
theorem FO8 : FOk Try.prog 8 := ⟨_, Try.func8, by kernel_rfl, by kernel_rfl⟩
theorem EQ33 (a0 : ByteArray) (a1 : Int) (a2 : Int) (a3 : Int) (a4 : Int) (a5 : Int) (b0 : ByteArray) (b1 : Int) (b2 : Int) (b3 : Int) (b4 : Int) (b5 : Int) : EqV Try.prog 10000 33 (.agg #[.string a0, .int .i64 a1, .int .i64 a2, .int .i64 a3, .int .i64 a4, .int .i64 a5]) (.agg #[.string b0, .int .i64 b1, .int .i64 b2, .int .i64 b3, .int .i64 b4, .int .i64 b5]) ((a0 == b0) && ((a1 == b1) && ((a2 == b2) && ((a3 == b3) && ((a4 == b4) && (a5 == b5)))))) := (.struct Try.underlying33 (by kernel_rfl) (.cons (by decide) TI9 (fun _ => rfl) rfl rfl rfl rfl (.string Try.underlying9) (.cons (by decide) TI3 (fun _ => rfl) rfl rfl rfl rfl (.int Try.underlying3) (.cons (by decide) TI3 (fun _ => rfl) rfl rfl rfl rfl (.int Try.underlying3) (.cons (by decide) TI3 (fun _ => rfl) rfl rfl rfl rfl (.int Try.underlying3) (.cons (by decide) TI3 (fun _ => rfl) rfl rfl rfl rfl (.int Try.underlying3) (.one (by decide) TI3 (fun _ => rfl) rfl rfl rfl rfl (.int Try.underlying3))))))))
theorem EG33 : Try.prog.eqGuardType Try.prog.depth 33 = false := by kernel_rfl
theorem FO10 : FOk Try.prog 10 := ⟨_, Try.func10, by kernel_rfl, by kernel_rfl⟩
def goods_Right_1.f (a0_0 : ByteArray) (a0_1 : ByteArray) (a0_2 : Int) (a0_3 : Int) (a0_4 : Int) (a1_0 : ByteArray) (a1_1 : ByteArray) (a1_2 : Int) (a1_3 : Int) (a1_4 : Int) : Option (Bool) := (if (a0_0 == a1_0) = true then (some (a0_1 == a1_1)) else (some false))
def slices_IndexFunc_api_Sub_api_Sub.l1 (k : Nat) (a1_0_0 : ByteArray) (a1_0_1 : ByteArray) (a1_0_2 : Int) (a1_0_3 : Int) (a1_0_4 : Int) (l0 : List S71) : Nat → Int → Option (Int)
  | 0, _ => none
  | ml1 + 1, i119 => (if i119 < (l0.length : Int) then (if 0 ≤ i119 then ((l0[i119.toNat]?).bind fun x148 => ((goods_Right_1.f x148.f0 x148.f1 x148.f2 x148.f3 x148.f4 a1_0_0 a1_0_1 a1_0_2 a1_0_3 a1_0_4).bind fun t151 => (if t151 = true then (some i119) else (slices_IndexFunc_api_Sub_api_Sub.l1 k a1_0_0 a1_0_1 a1_0_2 a1_0_3 a1_0_4 l0 ml1 (wrap64 (i119 + 1)))))) else none) else (some (-1)))
def slices_IndexFunc_api_Sub_api_Sub.f (k : Nat) (l0 : List S71) (a1_0_0 : ByteArray) (a1_0_1 : ByteArray) (a1_0_2 : Int) (a1_0_3 : Int) (a1_0_4 : Int) : Option (Int) := (slices_IndexFunc_api_Sub_api_Sub.l1 k a1_0_0 a1_0_1 a1_0_2 a1_0_3 a1_0_4 l0 k 0)
def slices_ContainsFunc_api_Sub_api_Sub.f (k : Nat) (l0 : List S71) (a1_0_0 : ByteArray) (a1_0_1 : ByteArray) (a1_0_2 : Int) (a1_0_3 : Int) (a1_0_4 : Int) : Option (Bool) := ((slices_IndexFunc_api_Sub_api_Sub.f k l0 a1_0_0 a1_0_1 a1_0_2 a1_0_3 a1_0_4).bind fun t154 => (some (decide (t154 ≥ 0))))
def goods_name_1.f (a0 : Int) : Option (Bool) := (if a0 < 97 then (if a0 < 48 then (some true) else (some (decide (a0 > 57)))) else (if a0 > 122 then (if a0 < 48 then (some true) else (some (decide (a0 > 57)))) else (some false)))
def slices_IndexFunc_byte_byte.l1 (k : Nat) (l0 : List Int) : Nat → Int → Option (Int)
  | 0, _ => none
  | ml1 + 1, i255 => (if i255 < (l0.length : Int) then (if 0 ≤ i255 then ((l0[i255.toNat]?).bind fun x284 => ((goods_name_1.f x284).bind fun t287 => (if t287 = true then (some i255) else (slices_IndexFunc_byte_byte.l1 k l0 ml1 (wrap64 (i255 + 1)))))) else none) else (some (-1)))
def slices_IndexFunc_byte_byte.f (k : Nat) (l0 : List Int) : Option (Int) := (slices_IndexFunc_byte_byte.l1 k l0 k 0)
def slices_ContainsFunc_byte_byte.f (k : Nat) (l0 : List Int) : Option (Bool) := ((slices_IndexFunc_byte_byte.f k l0).bind fun t290 => (some (decide (t290 ≥ 0))))
def goods_name.f (k : Nat) (a0 : ByteArray) : Option (Bool) := (if (a0 == (⟨#[]⟩ : ByteArray)) = true then (some false) else (if (a0.size : Int) ≤ 16 then (if a0.size ≤ 140737488355328 then ((slices_ContainsFunc_byte_byte.f k (byI a0)).bind fun t303 => (if t303 = true then (some false) else (some true))) else none) else (some false)))
def goods_in.f (a0 : Int) (a1 : Int) : Option (Bool) := (if a0 ≥ 1 then (some (decide (a0 ≤ a1))) else (some false))
def goods_may.f (k : Nat) (a0_0 : ByteArray) (a0_1 : ByteArray) (a0_2 : Int) (a0_3 : Int) (a0_4 : Int) : Option (Bool) := ((goods_name.f k a0_0).bind fun t328 => (if t328 = true then ((goods_name.f k a0_1).bind fun t331 => (if t331 = true then (if (a0_0 == a0_1) = true then (some false) else ((goods_in.f a0_2 9).bind fun t336 => (if t336 = true then ((goods_in.f a0_3 100).bind fun t339 => (if t339 = true then ((goods_in.f a0_4 100).bind fun t342 => (some t342)) else (some false))) else (some false)))) else (some false))) else (some false)))
def slices_Index_string_string.l1 (k : Nat) (a1 : ByteArray) (l0 : List ByteArray) : Nat → Int → Option (Int)
  | 0, _ => none
  | ml1 + 1, i406 => (if i406 < (l0.length : Int) then (if 0 ≤ i406 then ((l0[i406.toNat]?).bind fun x432 => (if (a1 == x432) = true then (some i406) else (slices_Index_string_string.l1 k a1 l0 ml1 (wrap64 (i406 + 1))))) else none) else (some (-1)))
def slices_Index_string_string.f (k : Nat) (l0 : List ByteArray) (a1 : ByteArray) : Option (Int) := (slices_Index_string_string.l1 k a1 l0 k 0)
def slices_Contains_string_string.f (k : Nat) (l0 : List ByteArray) (a1 : ByteArray) : Option (Bool) := ((slices_Index_string_string.f k l0 a1).bind fun t437 => (some (decide (t437 ≥ 0))))
def goods_Right_2.f (k : Nat) (a0 : ByteArray) : Option (Bool) := ((goods_name.f k a0).bind fun t750 => (if t750 = true then (some false) else (some true)))
def slices_IndexFunc_string_string.l1 (k : Nat) (l0 : List ByteArray) : Nat → Int → Option (Int)
  | 0, _ => none
  | ml1 + 1, i812 => (if i812 < (l0.length : Int) then (if 0 ≤ i812 then ((l0[i812.toNat]?).bind fun x841 => ((goods_Right_2.f k x841).bind fun t844 => (if t844 = true then (some i812) else (slices_IndexFunc_string_string.l1 k l0 ml1 (wrap64 (i812 + 1)))))) else none) else (some (-1)))
def slices_IndexFunc_string_string.f (k : Nat) (l0 : List ByteArray) : Option (Int) := (slices_IndexFunc_string_string.l1 k l0 k 0)
def slices_ContainsFunc_string_string.f (k : Nat) (l0 : List ByteArray) : Option (Bool) := ((slices_IndexFunc_string_string.f k l0).bind fun t847 => (some (decide (t847 ≥ 0))))
def internal_bytealg_CompareString.f (a0 : ByteArray) (a1 : ByteArray) : Option (Int) := (some (Lib.compareBytes a0.data.toList a1.data.toList))
def strings_Compare.f (a0 : ByteArray) (a1 : ByteArray) : Option (Int) := ((internal_bytealg_CompareString.f a0 a1).bind fun t866 => (some t866))
def goods_rising_string.l1 (k : Nat) (a1 : Int) (l0 : List ByteArray) : Nat → Int → Option (Bool)
  | 0, _ => none
  | ml1 + 1, i938 => (if i938 < (l0.length : Int) then (if 0 ≤ wrap64 (i938 - 1) then ((l0[(wrap64 (i938 - 1)).toNat]?).bind fun x973 => (if 0 ≤ i938 then ((l0[i938.toNat]?).bind fun x975 => ((strings_Compare.f x973 x975).bind fun t976 => (if t976 ≥ 0 then (some false) else (goods_rising_string.l1 k a1 l0 ml1 (wrap64 (i938 + 1)))))) else none)) else none) else (some (decide ((l0.length : Int) ≤ a1))))
def goods_rising_string.f (k : Nat) (l0 : List ByteArray) (a1 : Int) : Option (Bool) := (goods_rising_string.l1 k a1 l0 k 1)
def cmp_isNaN_int.f (a0 : Int) : Option (Bool) := (some (a0 != a0))
def cmp_Compare_int.f (a0 : Int) (a1 : Int) : Option (Int) := ((cmp_isNaN_int.f a0).bind fun t999 => ((cmp_isNaN_int.f a1).bind fun t1001 => (if t999 = true then (if t1001 = true then (some 0) else (some (-1))) else (if t1001 = true then (some 1) else (if a0 < a1 then (some (-1)) else (if a0 > a1 then (some 1) else (some 0)))))))
def cmp_Or_int.l1 (k : Nat) (l0 : List Int) : Nat → Int → Option (Int)
  | 0, _ => none
  | ml1 + 1, i1081 => (if i1081 < (l0.length : Int) then (if 0 ≤ i1081 then ((l0[i1081.toNat]?).bind fun x1107 => (if x1107 = 0 then (cmp_Or_int.l1 k l0 ml1 (wrap64 (i1081 + 1))) else (some x1107))) else none) else (some 0))
def cmp_Or_int.f (k : Nat) (l0 : List Int) : Option (Int) := (cmp_Or_int.l1 k l0 k 0)
def goods_compare.f (k : Nat) (a0_0 : ByteArray) (a0_1 : ByteArray) (a0_2 : Int) (a0_3 : Int) (a0_4 : Int) (a1_0 : ByteArray) (a1_1 : ByteArray) (a1_2 : Int) (a1_3 : Int) (a1_4 : Int) : Option (Int) := ((strings_Compare.f a0_0 a1_0).bind fun t996 => ((cmp_Compare_int.f a0_2 a1_2).bind fun t1019 => ((cmp_Or_int.f k ([t996, t1019] : List Int)).bind fun t1112 => (some t1112))))
def goods_rising_Sub.l1 (k : Nat) (a1 : Int) (l0 : List S71) : Nat → Int → Option (Bool)
  | 0, _ => none
  | ml1 + 1, i1184 => (if i1184 < (l0.length : Int) then (if 0 ≤ wrap64 (i1184 - 1) then ((l0[(wrap64 (i1184 - 1)).toNat]?).bind fun x1219 => (if 0 ≤ i1184 then ((l0[i1184.toNat]?).bind fun x1221 => ((goods_compare.f k x1219.f0 x1219.f1 x1219.f2 x1219.f3 x1219.f4 x1221.f0 x1221.f1 x1221.f2 x1221.f3 x1221.f4).bind fun t1222 => (if t1222 ≥ 0 then (some false) else (goods_rising_Sub.l1 k a1 l0 ml1 (wrap64 (i1184 + 1)))))) else none)) else none) else (some (decide ((l0.length : Int) ≤ a1))))
def goods_rising_Sub.f (k : Nat) (l0 : List S71) (a1 : Int) : Option (Bool) := (goods_rising_Sub.l1 k a1 l0 k 1)
def goods_Right.l1 (k : Nat) (l0_0 : List ByteArray) (l0_1 : List S71) : Nat → Int → Option (Bool)
  | 0, _ => none
  | ml1 + 1, i673 => (if i673 < (l0_1.length : Int) then (if 0 ≤ i673 then ((l0_1[i673.toNat]?).bind fun x1266 => (if i673 ≤ (l0_1.length : Int) then ((slices_ContainsFunc_api_Sub_api_Sub.f k ((l0_1.take i673.toNat).drop 0) x1266.f0 x1266.f1 x1266.f2 x1266.f3 x1266.f4).bind fun t1273 => (if t1273 = true then (some false) else ((goods_may.f k x1266.f0 x1266.f1 x1266.f2 x1266.f3 x1266.f4).bind fun t1286 => (if t1286 = true then ((slices_Contains_string_string.f k l0_0 x1266.f0).bind fun t1289 => (if t1289 = true then ((slices_Contains_string_string.f k l0_0 x1266.f1).bind fun t1292 => (if t1292 = true then (goods_Right.l1 k l0_0 l0_1 ml1 (wrap64 (i673 + 1))) else (some false))) else (some false))) else (some false))))) else none)) else none) else ((slices_ContainsFunc_string_string.f k l0_0).bind fun t1298 => (if t1298 = true then (some false) else ((goods_rising_string.f k l0_0 8).bind fun t1306 => (if t1306 = true then ((goods_rising_Sub.f k l0_1 16).bind fun t1309 => (some t1309)) else (some false))))))
def goods_Right.f (k : Nat) (l0_0 : List ByteArray) (l0_1 : List S71) : Option (Bool) := (goods_Right.l1 k l0_0 l0_1 k 0)
def stock_name.f (k : Nat) (a0 : ByteArray) : Option (Bool) := ((goods_Right.f k ([a0] : List ByteArray) []).bind fun t1312 => (some t1312))
def stock_units.f (a0 : Int) : Option (Bool) := (if a0 ≥ 1 then (some (decide (a0 ≤ 1073741824))) else (some false))
def stock_may_1.f (a0 : Int) : Option (Bool) := (if a0 = 0 then (some false) else ((stock_units.f a0).bind fun t1338 => (if t1338 = true then (some false) else (some true))))
def slices_IndexFunc_int_int.l1 (k : Nat) (l0 : List Int) : Nat → Int → Option (Int)
  | 0, _ => none
  | ml1 + 1, i1400 => (if i1400 < (l0.length : Int) then (if 0 ≤ i1400 then ((l0[i1400.toNat]?).bind fun x1429 => ((stock_may_1.f x1429).bind fun t1432 => (if t1432 = true then (some i1400) else (slices_IndexFunc_int_int.l1 k l0 ml1 (wrap64 (i1400 + 1)))))) else none) else (some (-1)))
def slices_IndexFunc_int_int.f (k : Nat) (l0 : List Int) : Option (Int) := (slices_IndexFunc_int_int.l1 k l0 k 0)
def slices_ContainsFunc_int_int.f (k : Nat) (l0 : List Int) : Option (Bool) := ((slices_IndexFunc_int_int.f k l0).bind fun t1435 => (some (decide (t1435 ≥ 0))))
def stock_may.f (k : Nat) (a0_0 : ByteArray) (a0_1 : Int) (a0_2 : Int) (a0_3 : Int) (a0_4 : Int) (a0_5 : Int) : Option (Bool) := ((stock_name.f k a0_0).bind fun t1442 => (if t1442 = true then ((slices_ContainsFunc_int_int.f k ([a0_1, a0_2, a0_3, a0_4, a0_5] : List Int)).bind fun t1445 => (if t1445 = true then (some false) else (some (a0_1 == (wrap64 ((wrap64 ((wrap64 (a0_2 + a0_3)) + a0_4)) + a0_5)))))) else (some false)))
def stock_Right.l1 (k : Nat) (l0 : List S32) : Nat → Int → Option (Bool)
  | 0, _ => none
  | ml1 + 1, i1539 => (if i1539 < (l0.length : Int) then (if 0 ≤ i1539 then ((l0[i1539.toNat]?).bind fun x1590 => ((stock_may.f k x1590.f0 x1590.f1 x1590.f2 x1590.f3 x1590.f4 x1590.f5).bind fun t1594 => (if t1594 = true then (if i1539 > 0 then (if 0 ≤ wrap64 (i1539 - 1) then ((l0[(wrap64 (i1539 - 1)).toNat]?).bind fun x1600 => (if (!Op.bytesLess x1600.f0.toList x1590.f0.toList) = true then (some false) else (stock_Right.l1 k l0 ml1 (wrap64 (i1539 + 1))))) else none) else (stock_Right.l1 k l0 ml1 (wrap64 (i1539 + 1)))) else (some false)))) else none) else (some (decide ((l0.length : Int) ≤ 8))))
def stock_Right.f (k : Nat) (l0 : List S32) : Option (Bool) := (stock_Right.l1 k l0 k 0)
def stock_at_1.f (a0_0 : ByteArray) (a0_1 : Int) (a0_2 : Int) (a0_3 : Int) (a0_4 : Int) (a0_5 : Int) (a1 : ByteArray) : Option (Int) := ((strings_Compare.f a0_0 a1).bind fun t1641 => (some t1641))
def slices_BinarySearchFunc_api_Row_api_Row_string.l1 (k : Nat) (a1 : ByteArray) (l0 : List S32) : Nat → Int → Int → Option (Int × Bool)
  | 0, _, _ => none
  | ml1 + 1, i1685, i1686 => (if i1685 < i1686 then (if 0 ≤ wrap64 ((IntKind.u64.wrap (wrap64 (i1685 + i1686))).fdiv (2 ^ min (1 : Int).toNat IntKind.u64.bits)) then ((l0[(wrap64 ((IntKind.u64.wrap (wrap64 (i1685 + i1686))).fdiv (2 ^ min (1 : Int).toNat IntKind.u64.bits))).toNat]?).bind fun x1722 => ((stock_at_1.f x1722.f0 x1722.f1 x1722.f2 x1722.f3 x1722.f4 x1722.f5 a1).bind fun t1725 => (if t1725 < 0 then (slices_BinarySearchFunc_api_Row_api_Row_string.l1 k a1 l0 ml1 (wrap64 ((wrap64 ((IntKind.u64.wrap (wrap64 (i1685 + i1686))).fdiv (2 ^ min (1 : Int).toNat IntKind.u64.bits))) + 1)) i1686) else (slices_BinarySearchFunc_api_Row_api_Row_string.l1 k a1 l0 ml1 i1685 (wrap64 ((IntKind.u64.wrap (wrap64 (i1685 + i1686))).fdiv (2 ^ min (1 : Int).toNat IntKind.u64.bits))))))) else none) else (if i1685 < (l0.length : Int) then (if 0 ≤ i1685 then ((l0[i1685.toNat]?).bind fun x1741 => ((stock_at_1.f x1741.f0 x1741.f1 x1741.f2 x1741.f3 x1741.f4 x1741.f5 a1).bind fun t1744 => (some (i1685, (t1744 == 0))))) else none) else (some (i1685, false))))
def slices_BinarySearchFunc_api_Row_api_Row_string.f (k : Nat) (l0 : List S32) (a1 : ByteArray) : Option (Int × Bool) := (slices_BinarySearchFunc_api_Row_api_Row_string.l1 k a1 l0 k 0 (l0.length : Int))
def stock_at.f (k : Nat) (l0 : List S32) (a1 : ByteArray) : Option (Int × Bool) := ((slices_BinarySearchFunc_api_Row_api_Row_string.f k l0 a1).bind fun ⟨t1747, t1748⟩ => (some (t1747, t1748)))
def slices_Clone_api_Row_api_Row.f (l0 : List S32) : Option (List S32) := if l0.length * 56 ≤ 140737488355328 then some l0 else none
def stock_Hold_1.f  : Option (Unit) := (some ())
def stock_move.f (k : Nat) (l0 : List S32) (a1 : ByteArray) (a2 : Int) : Option (List S32 × Int) := ((stock_Right.f k l0).bind fun t1624 => (if t1624 = true then ((stock_units.f a2).bind fun t1627 => (if t1627 = true then ((stock_at.f k l0 a1).bind fun ⟨t1750, t1751⟩ => (if t1751 = true then ((slices_Clone_api_Row_api_Row.f l0).bind fun r1758 => (if 0 ≤ t1750 then ((r1758[t1750.toNat]?).bind fun x1763 => ((stock_Hold_1.f).bind fun _ => (if x1763.f2 < a2 then (some (([] : List S32), 11)) else (some (((r1758.set t1750.toNat (⟨x1763.f0, x1763.f1, wrap64 (x1763.f2 - a2), x1763.f3, x1763.f4, x1763.f5⟩ : S32)).set t1750.toNat (⟨x1763.f0, x1763.f1, wrap64 (x1763.f2 - a2), wrap64 (x1763.f3 + a2), x1763.f4, x1763.f5⟩ : S32)), 0))))) else none)) else (some (([] : List S32), 8)))) else (some (([] : List S32), 1)))) else (some (([] : List S32), 1))))
def stock_Hold.f (k : Nat) (l0 : List S32) (a1 : ByteArray) (a2 : Int) : Option (List S32 × Int) := ((stock_move.f k l0 a1 a2).bind fun ⟨r1780, t1781⟩ => (some (r1780, t1781)))
def stock_Release_1.f  : Option (Unit) := (some ())
def stock_move_s37.f (k : Nat) (l0 : List S32) (a1 : ByteArray) (a2 : Int) : Option (List S32 × Int) := ((stock_Right.f k l0).bind fun t1814 => (if t1814 = true then ((stock_units.f a2).bind fun t1817 => (if t1817 = true then ((stock_at.f k l0 a1).bind fun ⟨t1820, t1821⟩ => (if t1821 = true then ((slices_Clone_api_Row_api_Row.f l0).bind fun r1828 => (if 0 ≤ t1820 then ((r1828[t1820.toNat]?).bind fun x1833 => ((stock_Release_1.f).bind fun _ => (if x1833.f3 < a2 then (some (([] : List S32), 11)) else (some (((r1828.set t1820.toNat (⟨x1833.f0, x1833.f1, x1833.f2, wrap64 (x1833.f3 - a2), x1833.f4, x1833.f5⟩ : S32)).set t1820.toNat (⟨x1833.f0, x1833.f1, wrap64 (x1833.f2 + a2), wrap64 (x1833.f3 - a2), x1833.f4, x1833.f5⟩ : S32)), 0))))) else none)) else (some (([] : List S32), 8)))) else (some (([] : List S32), 1)))) else (some (([] : List S32), 1))))
def stock_Release.f (k : Nat) (l0 : List S32) (a1 : ByteArray) (a2 : Int) : Option (List S32 × Int) := ((stock_move_s37.f k l0 a1 a2).bind fun ⟨r1850, t1851⟩ => (some (r1850, t1851)))
def stock_Ship_1.f  : Option (Unit) := (some ())
def stock_move_s40.f (k : Nat) (l0 : List S32) (a1 : ByteArray) (a2 : Int) : Option (List S32 × Int) := ((stock_Right.f k l0).bind fun t1884 => (if t1884 = true then ((stock_units.f a2).bind fun t1887 => (if t1887 = true then ((stock_at.f k l0 a1).bind fun ⟨t1890, t1891⟩ => (if t1891 = true then ((slices_Clone_api_Row_api_Row.f l0).bind fun r1898 => (if 0 ≤ t1890 then ((r1898[t1890.toNat]?).bind fun x1903 => ((stock_Ship_1.f).bind fun _ => (if x1903.f3 < a2 then (some (([] : List S32), 11)) else (some (((r1898.set t1890.toNat (⟨x1903.f0, x1903.f1, x1903.f2, wrap64 (x1903.f3 - a2), x1903.f4, x1903.f5⟩ : S32)).set t1890.toNat (⟨x1903.f0, x1903.f1, x1903.f2, wrap64 (x1903.f3 - a2), wrap64 (x1903.f4 + a2), x1903.f5⟩ : S32)), 0))))) else none)) else (some (([] : List S32), 8)))) else (some (([] : List S32), 1)))) else (some (([] : List S32), 1))))
def stock_Ship.f (k : Nat) (l0 : List S32) (a1 : ByteArray) (a2 : Int) : Option (List S32 × Int) := ((stock_move_s40.f k l0 a1 a2).bind fun ⟨r1920, t1921⟩ => (some (r1920, t1921)))
def stock_Lose_1.f  : Option (Unit) := (some ())
def stock_move_s43.f (k : Nat) (l0 : List S32) (a1 : ByteArray) (a2 : Int) : Option (List S32 × Int) := ((stock_Right.f k l0).bind fun t1973 => (if t1973 = true then ((stock_units.f a2).bind fun t1976 => (if t1976 = true then ((stock_at.f k l0 a1).bind fun ⟨t1979, t1980⟩ => (if t1980 = true then ((slices_Clone_api_Row_api_Row.f l0).bind fun r1987 => (if 0 ≤ t1979 then ((r1987[t1979.toNat]?).bind fun x1992 => ((stock_Lose_1.f).bind fun _ => (if x1992.f2 < a2 then (some (([] : List S32), 11)) else (some (((r1987.set t1979.toNat (⟨x1992.f0, x1992.f1, wrap64 (x1992.f2 - a2), x1992.f3, x1992.f4, x1992.f5⟩ : S32)).set t1979.toNat (⟨x1992.f0, x1992.f1, wrap64 (x1992.f2 - a2), x1992.f3, x1992.f4, wrap64 (x1992.f5 + a2)⟩ : S32)), 0))))) else none)) else (some (([] : List S32), 8)))) else (some (([] : List S32), 1)))) else (some (([] : List S32), 1))))
def stock_Lose.f (k : Nat) (l0 : List S32) (a1 : ByteArray) (a2 : Int) : Option (List S32 × Int) := ((stock_move_s43.f k l0 a1 a2).bind fun ⟨r2009, t2010⟩ => (some (r2009, t2010)))
def tarrylaw08_does.f (k : Nat) (l0 : List S32) (a1 : ByteArray) (a2 : Int) (a3 : Int) : Option (List S32 × Int) := (if a3 = 1 then ((stock_Hold.f k l0 a1 a2).bind fun ⟨r1932, t1933⟩ => (some (r1932, t1933))) else (if a3 = 2 then ((stock_Release.f k l0 a1 a2).bind fun ⟨r1939, t1940⟩ => (some (r1939, t1940))) else (if a3 = 3 then ((stock_Ship.f k l0 a1 a2).bind fun ⟨r1946, t1947⟩ => (some (r1946, t1947))) else ((stock_Lose.f k l0 a1 a2).bind fun ⟨r2014, t2015⟩ => (some (r2014, t2015))))))
def slices_Insert_api_Row_api_Row.f (l0 : List S32) (a1 : Int) (l2 : List S32) : Option (List S32) := if 0 ≤ a1 ∧ a1 ≤ (l0.length : Int) ∧ (l0.length + l2.length) * 56 ≤ 140737488355328 then some (l0.take a1.toNat ++ l2 ++ l0.drop a1.toNat) else none
def stock_Receive.f (k : Nat) (l0 : List S32) (a1 : ByteArray) (a2 : Int) : Option (List S32 × Int) := ((stock_Right.f k l0).bind fun t2058 => (if t2058 = true then ((stock_units.f a2).bind fun t2061 => (if t2061 = true then ((stock_name.f k a1).bind fun t2064 => (if t2064 = true then ((stock_at.f k l0 a1).bind fun ⟨t2067, t2068⟩ => ((slices_Clone_api_Row_api_Row.f l0).bind fun r2088 => (if t2068 = true then (if 0 ≤ t2067 then ((r2088[t2067.toNat]?).bind fun x2102 => (if x2102.f1 > (wrap64 (1073741824 - a2)) then (some (([] : List S32), 2)) else ((r2088[t2067.toNat]?).bind fun x2108 => ((r2088[t2067.toNat]?).bind fun x2109 => (((r2088.set t2067.toNat (⟨x2109.f0, wrap64 (x2108.f1 + a2), x2109.f2, x2109.f3, x2109.f4, x2109.f5⟩ : S32))[t2067.toNat]?).bind fun x2112 => (((r2088.set t2067.toNat (⟨x2109.f0, wrap64 (x2108.f1 + a2), x2109.f2, x2109.f3, x2109.f4, x2109.f5⟩ : S32))[t2067.toNat]?).bind fun x2113 => (some (((r2088.set t2067.toNat (⟨x2109.f0, wrap64 (x2108.f1 + a2), x2109.f2, x2109.f3, x2109.f4, x2109.f5⟩ : S32)).set t2067.toNat (⟨x2113.f0, x2113.f1, wrap64 (x2112.f2 + a2), x2113.f3, x2113.f4, x2113.f5⟩ : S32)), 0)))))))) else none) else (if (r2088.length : Int) = 8 then (some (([] : List S32), 7)) else ((slices_Insert_api_Row_api_Row.f r2088 t2067 ([(⟨a1, 0, 0, 0, 0, 0⟩ : S32)] : List S32)).bind fun r2124 => (if 0 ≤ t2067 then ((r2124[t2067.toNat]?).bind fun x2136 => (if x2136.f1 > (wrap64 (1073741824 - a2)) then (some (([] : List S32), 2)) else ((r2124[t2067.toNat]?).bind fun x2142 => ((r2124[t2067.toNat]?).bind fun x2143 => (((r2124.set t2067.toNat (⟨x2143.f0, wrap64 (x2142.f1 + a2), x2143.f2, x2143.f3, x2143.f4, x2143.f5⟩ : S32))[t2067.toNat]?).bind fun x2146 => (((r2124.set t2067.toNat (⟨x2143.f0, wrap64 (x2142.f1 + a2), x2143.f2, x2143.f3, x2143.f4, x2143.f5⟩ : S32))[t2067.toNat]?).bind fun x2147 => (some (((r2124.set t2067.toNat (⟨x2143.f0, wrap64 (x2142.f1 + a2), x2143.f2, x2143.f3, x2143.f4, x2143.f5⟩ : S32)).set t2067.toNat (⟨x2147.f0, x2147.f1, wrap64 (x2146.f2 + a2), x2147.f3, x2147.f4, x2147.f5⟩ : S32)), 0)))))))) else none)))))) else (some (([] : List S32), 1)))) else (some (([] : List S32), 1)))) else (some (([] : List S32), 1))))
def tarrylaw08_alive.f (k : Nat)  : Option (Bool) := ((stock_Receive.f k [] (⟨#[99, 117, 112]⟩ : ByteArray) 5).bind fun ⟨r4471, t4472⟩ => ((stock_Hold.f k r4471 (⟨#[99, 117, 112]⟩ : ByteArray) 2).bind fun ⟨r4476, t4477⟩ => (if t4472 = 0 then (if t4477 = 0 then (if (r4476.length : Int) = 1 then ((r4476[0]?).bind fun x4497 => (some (((x4497.f0 == (⟨#[99, 117, 112]⟩ : ByteArray)) && ((x4497.f1 == 5) && ((x4497.f2 == 3) && ((x4497.f3 == 2) && ((x4497.f4 == 0) && (x4497.f5 == 0))))))))) else (some false)) else (some false)) else (some false))))
def tarrylaw08_StockKeeps.l23 (k : Nat) (l8046 : List S32) (mp8047 : List (ByteArray × Int)) (mp8048 : List (ByteArray × Int)) (mp8049 : List (ByteArray × Int)) : Nat → Int → Option (Bool)
  | 0, _ => none
  | ml23 + 1, i8283 => (if i8283 < (l8046.length : Int) then (if 0 ≤ i8283 then ((l8046[i8283.toNat]?).bind fun x8383 => (if x8383.f1 = (mget mp8049 x8383.f0 0) then (if x8383.f4 = (mget mp8047 x8383.f0 0) then (if x8383.f5 = (mget mp8048 x8383.f0 0) then (if (wrap64 (x8383.f2 + x8383.f3)) = (wrap64 ((wrap64 (x8383.f1 - x8383.f4)) - x8383.f5)) then (if x8383.f2 < 0 then none else (if x8383.f3 < 0 then none else (tarrylaw08_StockKeeps.l23 k l8046 mp8047 mp8048 mp8049 ml23 (wrap64 (i8283 + 1))))) else none) else none) else none) else none)) else none) else ((tarrylaw08_alive.f k).bind fun t8414 => (if t8414 = true then (some ((l8046.length : Int) == (mp8049.length : Int))) else none)))
def tarrylaw08_StockKeeps.j18 (k : Nat) (l8046 : List S32) (mp8047 : List (ByteArray × Int)) (mp8048 : List (ByteArray × Int)) (mp8049 : List (ByteArray × Int)) : Option (Bool) := (tarrylaw08_StockKeeps.l23 k l8046 mp8047 mp8048 mp8049 k 0)
def tarrylaw08_StockKeeps.j21 (k : Nat) (rec_l19 : (List S32) → Int → (List (ByteArray × Int)) → (List (ByteArray × Int)) → (List (ByteArray × Int)) → Option (Bool)) (i7230 : Int) (l7228 : List S32) (mp7231 : List (ByteArray × Int)) (mp7232 : List (ByteArray × Int)) (mp7233 : List (ByteArray × Int)) (x7844 : S25) (l7993 : List S32) (i7994 : Int) (q7995 : Bool) : Option (Bool) := (if i7994 = 0 then (if ((wrap64 ((x7844.f0.tmod 5) + 5)).tmod 5) = 0 then ((stock_Right.f k l7993).bind fun t8015 => (if t8015 = true then (rec_l19 l7993 (wrap64 (i7230 + 1)) mp7231 mp7232 (mset mp7233 (x7844.f1.extract 0 ((mn (x7844.f1.size : Int) 18).toNat)) (wrap64 ((mget mp7233 (x7844.f1.extract 0 ((mn (x7844.f1.size : Int) 18).toNat)) 0) + x7844.f2)))) else none)) else (if ((wrap64 ((x7844.f0.tmod 5) + 5)).tmod 5) = 3 then ((stock_Right.f k l7993).bind fun t8023 => (if t8023 = true then (rec_l19 l7993 (wrap64 (i7230 + 1)) (mset mp7231 (x7844.f1.extract 0 ((mn (x7844.f1.size : Int) 18).toNat)) (wrap64 ((mget mp7231 (x7844.f1.extract 0 ((mn (x7844.f1.size : Int) 18).toNat)) 0) + x7844.f2))) mp7232 mp7233) else none)) else (if ((wrap64 ((x7844.f0.tmod 5) + 5)).tmod 5) = 4 then ((stock_Right.f k l7993).bind fun t8031 => (if t8031 = true then (rec_l19 l7993 (wrap64 (i7230 + 1)) mp7231 (mset mp7232 (x7844.f1.extract 0 ((mn (x7844.f1.size : Int) 18).toNat)) (wrap64 ((mget mp7232 (x7844.f1.extract 0 ((mn (x7844.f1.size : Int) 18).toNat)) 0) + x7844.f2))) mp7233) else none)) else ((stock_Right.f k l7993).bind fun t8037 => (if t8037 = true then (rec_l19 l7993 (wrap64 (i7230 + 1)) mp7231 mp7232 mp7233) else none))))) else (if (l7993.length : Int) = 0 then (rec_l19 l7228 (wrap64 (i7230 + 1)) mp7231 mp7232 mp7233) else none))
def tarrylaw08_StockKeeps.l19 (k : Nat) (l0 : List S25) : Nat → (List S32) → Int → (List (ByteArray × Int)) → (List (ByteArray × Int)) → (List (ByteArray × Int)) → Option (Bool)
  | 0, _, _, _, _, _ => none
  | ml19 + 1, l7228, i7230, mp7231, mp7232, mp7233 => (if i7230 < (l0.length : Int) then (if 0 ≤ i7230 then ((l0[i7230.toNat]?).bind fun x7844 => (if i7230 ≥ 30 then (tarrylaw08_StockKeeps.j18 k l7228 mp7231 mp7232 mp7233) else (if 0 ≤ mn (x7844.f1.size : Int) 18 then (if (mn (x7844.f1.size : Int) 18) ≤ (x7844.f1.size : Int) then ((tarrylaw08_does.f k l7228 (x7844.f1.extract 0 ((mn (x7844.f1.size : Int) 18).toNat)) x7844.f2 ((wrap64 ((x7844.f0.tmod 5) + 5)).tmod 5)).bind fun ⟨r7854, t7855⟩ => (if ((wrap64 ((x7844.f0.tmod 5) + 5)).tmod 5) = 0 then ((stock_Receive.f k l7228 (x7844.f1.extract 0 ((mn (x7844.f1.size : Int) 18).toNat)) x7844.f2).bind fun ⟨r7981, t7982⟩ => (tarrylaw08_StockKeeps.j21 k (tarrylaw08_StockKeeps.l19 k l0 ml19) i7230 l7228 mp7231 mp7232 mp7233 x7844 r7981 t7982 true)) else (tarrylaw08_StockKeeps.j21 k (tarrylaw08_StockKeeps.l19 k l0 ml19) i7230 l7228 mp7231 mp7232 mp7233 x7844 r7854 t7855 false))) else none) else none))) else none) else (tarrylaw08_StockKeeps.j18 k l7228 mp7231 mp7232 mp7233))
def tarrylaw08_StockKeeps.f (k : Nat) (l0 : List S25) : Option (Bool) := (tarrylaw08_StockKeeps.l19 k l0 k ([] : List S32) 0 ([] : List (ByteArray × Int)) ([] : List (ByteArray × Int)) ([] : List (ByteArray × Int)))
/-- THE ONE PURE STATEMENT. -/
def tarrylaw08_StockKeeps.Pure : Prop := ∀ (l0 : List S25), allOk ok25 l0 → ∃ k, tarrylaw08_StockKeeps.f k l0 = some true

end Go.Proofs.Ytibpoajlnloloaa.PStockKeeps
