/- Written by a program of this repo: what the program's functions do, each as a Lean function, shown of the loaded code; or a statement's row over that; no condition of its own. -/
import Derived.Test.YtaolaicmfjdmhaaProg
import Derived.Test.YtaolaicmfjdmhaaV16
namespace Go.Proofs.Ytaolaicmfjdmhaa.PFrameScans
open Go Go.RowKit Go.Proofs.YtaolaicmfjdmhaaV
set_option linter.unusedVariables false
set_option linter.unusedSimpArgs false

def enc_intu8 (x : Int) : List Value := [.int .u8 x]
theorem enc_intu8_ok (a : Int) : (enc_intu8 a).length = 1 ∧ ∀ u ∈ enc_intu8 a, u.oneCell' = true := ⟨rfl, by intro u hu; simp only [enc_intu8, List.mem_cons, List.not_mem_nil, or_false] at hu; rcases hu with rfl; rfl⟩
def enc_str (x : ByteArray) : List Value := [.string x]
theorem enc_str_ok (a : ByteArray) : (enc_str a).length = 1 ∧ ∀ u ∈ enc_str a, u.oneCell' = true := ⟨rfl, by intro u hu; simp only [enc_str, List.mem_cons, List.not_mem_nil, or_false] at hu; rcases hu with rfl; rfl⟩
theorem VC.join0 {E : Env} {P : Program} {Q : Exit → Act → World → Prop} {s : St}  {c1 c2 : Code} (I : St) (F : Prop) (hx : VC P E c1 (Exit.then (fun a w => F ∧ Inv E (I) a w) Q) s) (hy : F → VC P E c2 Q (I)) : VC P E (.seq c1 c2) Q s :=
  fun a w hi => wpIn_seq (Code.wpIn_mono (fun e a w h => by
    cases e <;> first | exact h | (obtain ⟨hf, hi⟩ := h; exact hy  hf a w hi)) (hx a w hi))
theorem VN.meet0 {E : Env} {Q : Exit → Act → World → Prop} {s : St}  {I : St} {F : Prop}  (bs rs : List Nat) (hf : F) (hl : Le s (I) bs rs) : VN E (Exit.then (fun a w => F ∧ Inv E (I) a w) Q) s :=
  fun a w hi => ⟨hf, hi.le hl⟩
theorem VC.join1 {E : Env} {P : Program} {Q : Exit → Act → World → Prop} {s : St} {α0 : Type} {c1 c2 : Code} (I : α0 → St) (F : α0 → Prop) (hx : VC P E c1 (Exit.then (fun a w => ∃ (x0 : α0), F x0 ∧ Inv E (I x0) a w) Q) s) (hy : ∀ (x0 : α0), F x0 → VC P E c2 Q (I x0)) : VC P E (.seq c1 c2) Q s :=
  fun a w hi => wpIn_seq (Code.wpIn_mono (fun e a w h => by
    cases e <;> first | exact h | (obtain ⟨x0, hf, hi⟩ := h; exact hy x0 hf a w hi)) (hx a w hi))
theorem VN.meet1 {E : Env} {Q : Exit → Act → World → Prop} {s : St} {α0 : Type} {I : α0 → St} {F : α0 → Prop} (x0 : α0) (bs rs : List Nat) (hf : F x0) (hl : Le s (I x0) bs rs) : VN E (Exit.then (fun a w => ∃ (x0 : α0), F x0 ∧ Inv E (I x0) a w) Q) s :=
  fun a w hi => ⟨x0, hf, hi.le hl⟩
theorem VC.join2 {E : Env} {P : Program} {Q : Exit → Act → World → Prop} {s : St} {α0 : Type} {α1 : Type} {c1 c2 : Code} (I : α0 → α1 → St) (F : α0 → α1 → Prop) (hx : VC P E c1 (Exit.then (fun a w => ∃ (x0 : α0) (x1 : α1), F x0 x1 ∧ Inv E (I x0 x1) a w) Q) s) (hy : ∀ (x0 : α0) (x1 : α1), F x0 x1 → VC P E c2 Q (I x0 x1)) : VC P E (.seq c1 c2) Q s :=
  fun a w hi => wpIn_seq (Code.wpIn_mono (fun e a w h => by
    cases e <;> first | exact h | (obtain ⟨x0, x1, hf, hi⟩ := h; exact hy x0 x1 hf a w hi)) (hx a w hi))
theorem VN.meet2 {E : Env} {Q : Exit → Act → World → Prop} {s : St} {α0 : Type} {α1 : Type} {I : α0 → α1 → St} {F : α0 → α1 → Prop} (x0 : α0) (x1 : α1) (bs rs : List Nat) (hf : F x0 x1) (hl : Le s (I x0 x1) bs rs) : VN E (Exit.then (fun a w => ∃ (x0 : α0) (x1 : α1), F x0 x1 ∧ Inv E (I x0 x1) a w) Q) s :=
  fun a w hi => ⟨x0, x1, hf, hi.le hl⟩
theorem VC.join3 {E : Env} {P : Program} {Q : Exit → Act → World → Prop} {s : St} {α0 : Type} {α1 : Type} {α2 : Type} {c1 c2 : Code} (I : α0 → α1 → α2 → St) (F : α0 → α1 → α2 → Prop) (hx : VC P E c1 (Exit.then (fun a w => ∃ (x0 : α0) (x1 : α1) (x2 : α2), F x0 x1 x2 ∧ Inv E (I x0 x1 x2) a w) Q) s) (hy : ∀ (x0 : α0) (x1 : α1) (x2 : α2), F x0 x1 x2 → VC P E c2 Q (I x0 x1 x2)) : VC P E (.seq c1 c2) Q s :=
  fun a w hi => wpIn_seq (Code.wpIn_mono (fun e a w h => by
    cases e <;> first | exact h | (obtain ⟨x0, x1, x2, hf, hi⟩ := h; exact hy x0 x1 x2 hf a w hi)) (hx a w hi))
theorem VN.meet3 {E : Env} {Q : Exit → Act → World → Prop} {s : St} {α0 : Type} {α1 : Type} {α2 : Type} {I : α0 → α1 → α2 → St} {F : α0 → α1 → α2 → Prop} (x0 : α0) (x1 : α1) (x2 : α2) (bs rs : List Nat) (hf : F x0 x1 x2) (hl : Le s (I x0 x1 x2) bs rs) : VN E (Exit.then (fun a w => ∃ (x0 : α0) (x1 : α1) (x2 : α2), F x0 x1 x2 ∧ Inv E (I x0 x1 x2) a w) Q) s :=
  fun a w hi => ⟨x0, x1, x2, hf, hi.le hl⟩
theorem VC.loop1 {E : Env} {P : Program} {Q : Exit → Act → World → Prop} {s : St} {α0 : Type} {c : Code} (I : α0 → St) (F : Nat → α0 → Prop) (k : Nat) (x0 : α0) (bs rs : List Nat) (hf : F k x0) (hl : Le s (I x0) bs rs) (hz : ∀ (x0 : α0), ¬ F 0 x0) (h : ∀ k, (∀ (x0 : α0), F k x0 → VLp P E c Q k (I x0)) → ∀ (x0 : α0), F (k + 1) x0 → VC P E c (Exit.then (Code.roundsIn E.F 0 P c Q k) Q) (I x0)) : VC P E (.loop c) Q s := by
  have key : ∀ k (x0 : α0), F k x0 → VLp P E c Q k (I x0) := by
    intro k
    induction k with
    | zero => intro x0 hf; exact absurd hf (hz x0)
    | succ k ih => intro x0 hf; exact VLp.succ (h k ih x0 hf)
  exact fun a w hi => wpIn_loop_rounds k (key k x0 hf a w (hi.le hl))
theorem VC.loop2 {E : Env} {P : Program} {Q : Exit → Act → World → Prop} {s : St} {α0 : Type} {α1 : Type} {c : Code} (I : α0 → α1 → St) (F : Nat → α0 → α1 → Prop) (k : Nat) (x0 : α0) (x1 : α1) (bs rs : List Nat) (hf : F k x0 x1) (hl : Le s (I x0 x1) bs rs) (hz : ∀ (x0 : α0) (x1 : α1), ¬ F 0 x0 x1) (h : ∀ k, (∀ (x0 : α0) (x1 : α1), F k x0 x1 → VLp P E c Q k (I x0 x1)) → ∀ (x0 : α0) (x1 : α1), F (k + 1) x0 x1 → VC P E c (Exit.then (Code.roundsIn E.F 0 P c Q k) Q) (I x0 x1)) : VC P E (.loop c) Q s := by
  have key : ∀ k (x0 : α0) (x1 : α1), F k x0 x1 → VLp P E c Q k (I x0 x1) := by
    intro k
    induction k with
    | zero => intro x0 x1 hf; exact absurd hf (hz x0 x1)
    | succ k ih => intro x0 x1 hf; exact VLp.succ (h k ih x0 x1 hf)
  exact fun a w hi => wpIn_loop_rounds k (key k x0 x1 hf a w (hi.le hl))
theorem VC.loop3 {E : Env} {P : Program} {Q : Exit → Act → World → Prop} {s : St} {α0 : Type} {α1 : Type} {α2 : Type} {c : Code} (I : α0 → α1 → α2 → St) (F : Nat → α0 → α1 → α2 → Prop) (k : Nat) (x0 : α0) (x1 : α1) (x2 : α2) (bs rs : List Nat) (hf : F k x0 x1 x2) (hl : Le s (I x0 x1 x2) bs rs) (hz : ∀ (x0 : α0) (x1 : α1) (x2 : α2), ¬ F 0 x0 x1 x2) (h : ∀ k, (∀ (x0 : α0) (x1 : α1) (x2 : α2), F k x0 x1 x2 → VLp P E c Q k (I x0 x1 x2)) → ∀ (x0 : α0) (x1 : α1) (x2 : α2), F (k + 1) x0 x1 x2 → VC P E c (Exit.then (Code.roundsIn E.F 0 P c Q k) Q) (I x0 x1 x2)) : VC P E (.loop c) Q s := by
  have key : ∀ k (x0 : α0) (x1 : α1) (x2 : α2), F k x0 x1 x2 → VLp P E c Q k (I x0 x1 x2) := by
    intro k
    induction k with
    | zero => intro x0 x1 x2 hf; exact absurd hf (hz x0 x1 x2)
    | succ k ih => intro x0 x1 x2 hf; exact VLp.succ (h k ih x0 x1 x2 hf)
  exact fun a w hi => wpIn_loop_rounds k (key k x0 x1 x2 hf a w (hi.le hl))
theorem VC.loop4 {E : Env} {P : Program} {Q : Exit → Act → World → Prop} {s : St} {α0 : Type} {α1 : Type} {α2 : Type} {α3 : Type} {c : Code} (I : α0 → α1 → α2 → α3 → St) (F : Nat → α0 → α1 → α2 → α3 → Prop) (k : Nat) (x0 : α0) (x1 : α1) (x2 : α2) (x3 : α3) (bs rs : List Nat) (hf : F k x0 x1 x2 x3) (hl : Le s (I x0 x1 x2 x3) bs rs) (hz : ∀ (x0 : α0) (x1 : α1) (x2 : α2) (x3 : α3), ¬ F 0 x0 x1 x2 x3) (h : ∀ k, (∀ (x0 : α0) (x1 : α1) (x2 : α2) (x3 : α3), F k x0 x1 x2 x3 → VLp P E c Q k (I x0 x1 x2 x3)) → ∀ (x0 : α0) (x1 : α1) (x2 : α2) (x3 : α3), F (k + 1) x0 x1 x2 x3 → VC P E c (Exit.then (Code.roundsIn E.F 0 P c Q k) Q) (I x0 x1 x2 x3)) : VC P E (.loop c) Q s := by
  have key : ∀ k (x0 : α0) (x1 : α1) (x2 : α2) (x3 : α3), F k x0 x1 x2 x3 → VLp P E c Q k (I x0 x1 x2 x3) := by
    intro k
    induction k with
    | zero => intro x0 x1 x2 x3 hf; exact absurd hf (hz x0 x1 x2 x3)
    | succ k ih => intro x0 x1 x2 x3 hf; exact VLp.succ (h k ih x0 x1 x2 x3 hf)
  exact fun a w hi => wpIn_loop_rounds k (key k x0 x1 x2 x3 hf a w (hi.le hl))
theorem VC.stop0 {E : Env} {P : Program} {Q : Exit → Act → World → Prop} {s : St}  {c1 : Code} (I : St) (F : Prop) (hx : VC P E c1 (Exit.then (fun a w => F ∧ Inv E (I) a w) Q) s) (hy : F → VN E Q (I)) : VC P E c1 Q s :=
  fun a w hi => Code.wpIn_mono (fun e a w h => by
    cases e <;> first | exact h | (obtain ⟨hf, hi⟩ := h; exact hy  hf a w hi)) (hx a w hi)
theorem VC.stop1 {E : Env} {P : Program} {Q : Exit → Act → World → Prop} {s : St} {α0 : Type} {c1 : Code} (I : α0 → St) (F : α0 → Prop) (hx : VC P E c1 (Exit.then (fun a w => ∃ (x0 : α0), F x0 ∧ Inv E (I x0) a w) Q) s) (hy : ∀ (x0 : α0), F x0 → VN E Q (I x0)) : VC P E c1 Q s :=
  fun a w hi => Code.wpIn_mono (fun e a w h => by
    cases e <;> first | exact h | (obtain ⟨x0, hf, hi⟩ := h; exact hy x0 hf a w hi)) (hx a w hi)
theorem VC.stop2 {E : Env} {P : Program} {Q : Exit → Act → World → Prop} {s : St} {α0 : Type} {α1 : Type} {c1 : Code} (I : α0 → α1 → St) (F : α0 → α1 → Prop) (hx : VC P E c1 (Exit.then (fun a w => ∃ (x0 : α0) (x1 : α1), F x0 x1 ∧ Inv E (I x0 x1) a w) Q) s) (hy : ∀ (x0 : α0) (x1 : α1), F x0 x1 → VN E Q (I x0 x1)) : VC P E c1 Q s :=
  fun a w hi => Code.wpIn_mono (fun e a w h => by
    cases e <;> first | exact h | (obtain ⟨x0, x1, hf, hi⟩ := h; exact hy x0 x1 hf a w hi)) (hx a w hi)
theorem VC.stop3 {E : Env} {P : Program} {Q : Exit → Act → World → Prop} {s : St} {α0 : Type} {α1 : Type} {α2 : Type} {c1 : Code} (I : α0 → α1 → α2 → St) (F : α0 → α1 → α2 → Prop) (hx : VC P E c1 (Exit.then (fun a w => ∃ (x0 : α0) (x1 : α1) (x2 : α2), F x0 x1 x2 ∧ Inv E (I x0 x1 x2) a w) Q) s) (hy : ∀ (x0 : α0) (x1 : α1) (x2 : α2), F x0 x1 x2 → VN E Q (I x0 x1 x2)) : VC P E c1 Q s :=
  fun a w hi => Code.wpIn_mono (fun e a w h => by
    cases e <;> first | exact h | (obtain ⟨x0, x1, x2, hf, hi⟩ := h; exact hy x0 x1 x2 hf a w hi)) (hx a w hi)
theorem FO25 : FOk Try.prog 25 := ⟨_, Try.func25, by kernel_rfl, by kernel_rfl⟩
theorem TI5 : TI Try.prog 5 false 1 := ⟨⟨_, Try.underlying5, rfl⟩, by kernel_rfl⟩
theorem Z5 : (Try.prog.info? 5).bind (·.zero) = some (.int .u8 0) := by kernel_rfl
theorem EI5 : EI Try.prog 5 1 1 := ei_of (z := .int .u8 0) (by kernel_rfl) rfl (by decide) (by decide)
theorem FO16 : FOk Try.prog 16 := ⟨_, Try.func16, by kernel_rfl, by kernel_rfl⟩
theorem Z56 : (Try.prog.info? 56).bind (·.zero) = some (.agg (ints .u32 (List.replicate 256 (0 : Int))).toArray) := by kernel_rfl
theorem ZL56 : (.agg (ints .u32 (List.replicate 256 (0 : Int))).toArray : Value).cells.toList = ints .u32 (List.replicate 256 (0 : Int)) := rfl
theorem TI23 : TI Try.prog 23 false 1 := ⟨⟨_, Try.underlying23, rfl⟩, by kernel_rfl⟩
theorem TI56 : TI Try.prog 56 true 256 := ⟨⟨_, Try.underlying56, rfl⟩, by kernel_rfl⟩
theorem FO31 : FOk Try.prog 31 := ⟨_, Try.func31, by kernel_rfl, by kernel_rfl⟩
theorem FO26 : FOk Try.prog 26 := ⟨_, Try.func26, by kernel_rfl, by kernel_rfl⟩
theorem FO18 : FOk Try.prog 18 := ⟨_, Try.func18, by kernel_rfl, by kernel_rfl⟩
theorem Z52 : (Try.prog.info? 52).bind (·.zero) = some (.agg (ints .u8 (List.replicate 4 (0 : Int))).toArray) := by kernel_rfl
theorem ZL52 : (.agg (ints .u8 (List.replicate 4 (0 : Int))).toArray : Value).cells.toList = ints .u8 (List.replicate 4 (0 : Int)) := rfl
theorem FO17 : FOk Try.prog 17 := ⟨_, Try.func17, by kernel_rfl, by kernel_rfl⟩
theorem FO8 : FOk Try.prog 8 := ⟨_, Try.func8, by kernel_rfl, by kernel_rfl⟩
theorem Z22 : (Try.prog.info? 22).bind (·.zero) = some (.slice none 0 0) := by kernel_rfl
theorem ZL22 : (.slice none 0 0 : Value).cells.toList = [.slice none 0 0] := rfl
theorem Z3 : (Try.prog.info? 3).bind (·.zero) = some (.int .i64 0) := by kernel_rfl
theorem ZL3 : (.int .i64 0 : Value).cells.toList = [.int .i64 0] := rfl
theorem TI3 : TI Try.prog 3 false 1 := ⟨⟨_, Try.underlying3, rfl⟩, by kernel_rfl⟩
theorem FO19 : FOk Try.prog 19 := ⟨_, Try.func19, by kernel_rfl, by kernel_rfl⟩
theorem FO27 : FOk Try.prog 27 := ⟨_, Try.func27, by kernel_rfl, by kernel_rfl⟩
theorem TI9 : TI Try.prog 9 false 1 := ⟨⟨_, Try.underlying9, rfl⟩, by kernel_rfl⟩
theorem FO28 : FOk Try.prog 28 := ⟨_, Try.func28, by kernel_rfl, by kernel_rfl⟩
theorem TI22 : TI Try.prog 22 false 1 := ⟨⟨_, Try.underlying22, rfl⟩, by kernel_rfl⟩
theorem Z9 : (Try.prog.info? 9).bind (·.zero) = some (.string (⟨#[]⟩ : ByteArray)) := by kernel_rfl
theorem EI9 : EI Try.prog 9 1 16 := ei_of (z := .string (⟨#[]⟩ : ByteArray)) (by kernel_rfl) rfl (by decide) (by decide)
theorem FO9 : FOk Try.prog 9 := ⟨_, Try.func9, by kernel_rfl, by kernel_rfl⟩
theorem FO11 : FOk Try.prog 11 := ⟨_, Try.func11, by kernel_rfl, by kernel_rfl⟩
theorem Z48 : (Try.prog.info? 48).bind (·.zero) = some (.agg #[.int .i64 0, .string (⟨#[]⟩ : ByteArray), .int .i64 0]) := by kernel_rfl
theorem ZL48 : (.agg #[.int .i64 0, .string (⟨#[]⟩ : ByteArray), .int .i64 0] : Value).cells.toList = [.int .i64 0, .string (⟨#[]⟩ : ByteArray), .int .i64 0] := rfl
theorem TI26 : TI Try.prog 26 false 1 := ⟨⟨_, Try.underlying26, rfl⟩, by kernel_rfl⟩
theorem SI48 : SI Try.prog 48 [.int .i64 0, .string (⟨#[]⟩ : ByteArray), .int .i64 0] [(0, 1), (1, 1), (2, 1)] := ⟨⟨_, Try.underlying48, (.cons ⟨rfl, _, TI3⟩ (.cons ⟨rfl, _, TI9⟩ (.cons ⟨rfl, _, TI26⟩ .nil)))⟩, Z48⟩
theorem TI48 : TI Try.prog 48 true 3 := ⟨⟨_, Try.underlying48, rfl⟩, by kernel_rfl⟩
theorem FO29 : FOk Try.prog 29 := ⟨_, Try.func29, by kernel_rfl, by kernel_rfl⟩
theorem FO20 : FOk Try.prog 20 := ⟨_, Try.func20, by kernel_rfl, by kernel_rfl⟩
theorem FI48_2 : FI Try.prog 48 2 2 1 := ⟨_, _, _, Try.underlying48, rfl, rfl, TI26⟩
theorem FI48_0 : FI Try.prog 48 0 0 1 := ⟨_, _, _, Try.underlying48, rfl, rfl, TI3⟩
theorem FI48_1 : FI Try.prog 48 1 1 1 := ⟨_, _, _, Try.underlying48, rfl, rfl, TI9⟩
theorem FO32 : FOk Try.prog 32 := ⟨_, Try.func32, by kernel_rfl, by kernel_rfl⟩
theorem FO30 : FOk Try.prog 30 := ⟨_, Try.func30, by kernel_rfl, by kernel_rfl⟩
theorem FO22 : FOk Try.prog 22 := ⟨_, Try.func22, by kernel_rfl, by kernel_rfl⟩
theorem FO21 : FOk Try.prog 21 := ⟨_, Try.func21, by kernel_rfl, by kernel_rfl⟩
theorem FO12 : FOk Try.prog 12 := ⟨_, Try.func12, by kernel_rfl, by kernel_rfl⟩
theorem FO24 : FOk Try.prog 24 := ⟨_, Try.func24, by kernel_rfl, by kernel_rfl⟩
theorem FO15 : FOk Try.prog 15 := ⟨_, Try.func15, by kernel_rfl, by kernel_rfl⟩
theorem FO13 : FOk Try.prog 13 := ⟨_, Try.func13, by kernel_rfl, by kernel_rfl⟩
theorem FO10 : FOk Try.prog 10 := ⟨_, Try.func10, by kernel_rfl, by kernel_rfl⟩
theorem FO23 : FOk Try.prog 23 := ⟨_, Try.func23, by kernel_rfl, by kernel_rfl⟩
theorem FO14 : FOk Try.prog 14 := ⟨_, Try.func14, by kernel_rfl, by kernel_rfl⟩
theorem FO7 : FOk Try.prog 7 := ⟨_, Try.func7, by kernel_rfl, by kernel_rfl⟩
def pack_may.f (a0 : Int) : Option (Bool) := (if a0 ≥ (-1152921504606846976) then (some (decide (a0 ≤ 1152921504606846976))) else (some false))
def pack_Number.l1 (k : Nat)  : Nat → Int → (List Int) → Option (ByteArray × Int)
  | 0, _, _ => none
  | ml1 + 1, i75, l78 => (if i75 ≥ 128 then (if (l78.length + ([IntKind.u8.wrap (wrap64 ((i75.tmod 128) + 128))] : List Int).length) * 1 ≤ 140737488355328 then (pack_Number.l1 k ml1 (IntKind.i64.wrap (i75.tdiv 128)) (l78 ++ ([IntKind.u8.wrap (wrap64 ((i75.tmod 128) + 128))] : List Int))) else none) else (if (l78.length + ([IntKind.u8.wrap i75] : List Int).length) * 1 ≤ 140737488355328 then (some ((strOfNums (l78 ++ ([IntKind.u8.wrap i75] : List Int))), 0)) else none))
def pack_Number.l3 (k : Nat)  : Nat → Int → (List Int) → Option (ByteArray × Int)
  | 0, _, _ => none
  | ml3 + 1, i151, l154 => (if i151 ≥ 128 then (if (l154.length + ([IntKind.u8.wrap (wrap64 ((i151.tmod 128) + 128))] : List Int).length) * 1 ≤ 140737488355328 then (pack_Number.l3 k ml3 (IntKind.i64.wrap (i151.tdiv 128)) (l154 ++ ([IntKind.u8.wrap (wrap64 ((i151.tmod 128) + 128))] : List Int))) else none) else (if (l154.length + ([IntKind.u8.wrap i151] : List Int).length) * 1 ≤ 140737488355328 then (some ((strOfNums (l154 ++ ([IntKind.u8.wrap i151] : List Int))), 0)) else none))
def pack_Number.f (k : Nat) (a0 : Int) : Option (ByteArray × Int) := ((pack_may.f a0).bind fun t24 => (if t24 = true then (if a0 < 0 then (pack_Number.l1 k k (wrap64 ((wrap64 ((-2) * a0)) - 1)) ([] : List Int)) else (pack_Number.l3 k k (wrap64 (2 * a0)) ([] : List Int))) else (some ((⟨#[]⟩ : ByteArray), 1))))
def check_Table.l9 (k : Nat) (rec_l5 : Int → (List Int) → Option (List Int)) (i558 : Int) (l559 : List Int) : Nat → Int → Int → Option (List Int)
  | 0, _, _ => none
  | ml9 + 1, i730, i731 => (if i731 < 8 then (if (Go.bits .and .u32 i730 1) = 1 then (check_Table.l9 k rec_l5 i558 l559 ml9 (Go.bits .xor .u32 (i730.fdiv (2 ^ min (1 : Int).toNat IntKind.u32.bits)) 2197175160) (wrap64 (i731 + 1))) else (check_Table.l9 k rec_l5 i558 l559 ml9 (i730.fdiv (2 ^ min (1 : Int).toNat IntKind.u32.bits)) (wrap64 (i731 + 1)))) else (if 0 ≤ i558 then (if i558 < 256 then (if i558.toNat < l559.length then (rec_l5 (IntKind.u32.wrap (i558 + 1)) (l559.set i558.toNat i730)) else none) else none) else none))
def check_Table.l5 (k : Nat)  : Nat → Int → (List Int) → Option (List Int)
  | 0, _, _ => none
  | ml5 + 1, i558, l559 => (if i558 < 256 then (check_Table.l9 k (check_Table.l5 k ml5) i558 l559 k i558 0) else (if l559.length = 256 then (if (List.replicate 256 (0 : Int)).length = 256 then (some l559) else none) else none))
def check_Table.f (k : Nat)  : Option (List Int) := (check_Table.l5 k k 0 (List.replicate 256 (0 : Int)))
def check_On.l1 (k : Nat) (a1 : ByteArray) (r754 : List Int) : Nat → Int → Int → Option (Int)
  | 0, _, _ => none
  | ml1 + 1, i791, i792 => (if i792 < (a1.size : Int) then (if 0 ≤ i792 then (if i792 < (a1.size : Int) then (if 0 ≤ Go.bits .xor .u8 (IntKind.u8.wrap i791) (bt a1 i792) then (if (Go.bits .xor .u8 (IntKind.u8.wrap i791) (bt a1 i792)) < 256 then ((r754[(Go.bits .xor .u8 (IntKind.u8.wrap i791) (bt a1 i792)).toNat]?).bind fun t808 => (check_On.l1 k a1 r754 ml1 (Go.bits .xor .u32 (i791.fdiv (2 ^ min (8 : Int).toNat IntKind.u32.bits)) t808) (wrap64 (i792 + 1)))) else none) else none) else none) else none) else (some (Go.bits .xor .u32 i791 4294967295)))
def check_On.f (k : Nat) (a0 : Int) (a1 : ByteArray) : Option (Int) := ((check_Table.f k).bind fun r754 => (if r754.length = 256 then (if (List.replicate 256 (0 : Int)).length = 256 then (check_On.l1 k a1 r754 k (Go.bits .xor .u32 a0 4294967295) 0) else none) else none))
def check_Of.f (k : Nat) (a0 : ByteArray) : Option (Int) := ((check_On.f k 0 a0).bind fun t809 => (some t809))
def check_Bytes.l1 (k : Nat) (a0 : Int) : Nat → Int → (List Int) → Option (ByteArray)
  | 0, _, _ => none
  | ml1 + 1, i836, l837 => (if i836 < 4 then (if 0 ≤ wrap64 (8 * i836) then (if 0 ≤ i836 then (if i836 < 4 then (if i836.toNat < l837.length then (check_Bytes.l1 k a0 ml1 (wrap64 (i836 + 1)) (l837.set i836.toNat (IntKind.u8.wrap (a0.fdiv (2 ^ min (wrap64 (8 * i836)).toNat IntKind.u32.bits))))) else none) else none) else none) else none) else (if l837.length = 4 then (some (strOfNums l837)) else none))
def check_Bytes.f (k : Nat) (a0 : Int) : Option (ByteArray) := (check_Bytes.l1 k a0 k 0 (List.replicate 4 (0 : Int)))
def frame_Frame.f (k : Nat) (a0 : ByteArray) : Option (ByteArray × Int) := (if (a0.size : Int) > 4096 then (some ((⟨#[]⟩ : ByteArray), 3)) else ((pack_Number.f k (a0.size : Int)).bind fun ⟨t184, t185⟩ => (if t184.size + a0.size ≤ 9223372036854775807 then ((check_Of.f k a0).bind fun t811 => ((check_Bytes.f k t811).bind fun t858 => (if (t184 ++ a0).size + t858.size ≤ 9223372036854775807 then (some ((t184 ++ a0) ++ t858, 0)) else none))) else none)))
def pack_ReadNumber.j5 (k : Nat) (a0 : ByteArray) (i1977 : Int) (i2538 : Int) (q2539 : Bool) : Option (Int × ByteArray × Int) := (if (wrap64 (bt a0 i1977)) = 0 then (if i1977 > 0 then (some (0, (⟨#[]⟩ : ByteArray), 5)) else ((pack_may.f i2538).bind fun t2574 => (if t2574 = true then (if 0 ≤ wrap64 (i1977 + 1) then (if (wrap64 (i1977 + 1)) ≤ (a0.size : Int) then (some (i2538, a0.extract ((wrap64 (i1977 + 1)).toNat) a0.size, 0)) else none) else none) else (some (0, (⟨#[]⟩ : ByteArray), 5))))) else ((pack_may.f i2538).bind fun t2579 => (if t2579 = true then (if 0 ≤ wrap64 (i1977 + 1) then (if (wrap64 (i1977 + 1)) ≤ (a0.size : Int) then (some (i2538, a0.extract ((wrap64 (i1977 + 1)).toNat) a0.size, 0)) else none) else none) else (some (0, (⟨#[]⟩ : ByteArray), 5)))))
def pack_ReadNumber.l3 (k : Nat) (a0 : ByteArray) : Nat → Int → Int → Option (Int × ByteArray × Int)
  | 0, _, _ => none
  | ml3 + 1, i1976, i1977 => (if i1977 < (mn (a0.size : Int) 9) then (if 0 ≤ i1977 then (if i1977 < (a0.size : Int) then (if 0 ≤ wrap64 (7 * i1977) then (if (wrap64 (bt a0 i1977)) ≥ 128 then (pack_ReadNumber.l3 k a0 ml3 (Go.bits .or .i64 i1976 (IntKind.i64.wrap (((wrap64 (bt a0 i1977)).tmod 128) * 2 ^ min (wrap64 (7 * i1977)).toNat IntKind.i64.bits))) (wrap64 (i1977 + 1))) else (if ((Go.bits .or .i64 i1976 (IntKind.i64.wrap (((wrap64 (bt a0 i1977)).tmod 128) * 2 ^ min (wrap64 (7 * i1977)).toNat IntKind.i64.bits))).tmod 2) = 1 then (pack_ReadNumber.j5 k a0 i1977 (wrap64 ((wrap64 (0 - (IntKind.i64.wrap ((Go.bits .or .i64 i1976 (IntKind.i64.wrap (((wrap64 (bt a0 i1977)).tmod 128) * 2 ^ min (wrap64 (7 * i1977)).toNat IntKind.i64.bits))).tdiv 2)))) - 1)) true) else (pack_ReadNumber.j5 k a0 i1977 (IntKind.i64.wrap ((Go.bits .or .i64 i1976 (IntKind.i64.wrap (((wrap64 (bt a0 i1977)).tmod 128) * 2 ^ min (wrap64 (7 * i1977)).toNat IntKind.i64.bits))).tdiv 2)) false))) else none) else none) else none) else (if (a0.size : Int) ≥ 9 then (some (0, (⟨#[]⟩ : ByteArray), 3)) else (some (0, (⟨#[]⟩ : ByteArray), 4))))
def pack_ReadNumber.f (k : Nat) (a0 : ByteArray) : Option (Int × ByteArray × Int) := (pack_ReadNumber.l3 k a0 k 0 0)
def frame_Scan.l1 (k : Nat) (a0 : ByteArray) : Nat → ByteArray → Int → (List ByteArray) → Option (List ByteArray × Int)
  | 0, _, _, _ => none
  | ml1 + 1, s2847, i2848, l2851 => ((pack_ReadNumber.f k s2847).bind fun ⟨t2914, t2915, t2916⟩ => (if t2916 = 0 then (if t2914 < 0 then (some (l2851, wrap64 ((a0.size : Int) - i2848))) else (if t2914 > 4096 then (some (l2851, wrap64 ((a0.size : Int) - i2848))) else (if (wrap64 (t2914 + 4)) > (t2915.size : Int) then (some (l2851, wrap64 ((a0.size : Int) - i2848))) else (if 0 ≤ t2914 then (if t2914 ≤ (t2915.size : Int) then (if 0 ≤ wrap64 (t2914 + 4) then (if (wrap64 (t2914 + 4)) ≤ (t2915.size : Int) then (if t2914 ≤ (wrap64 (t2914 + 4)) then ((check_Of.f k (t2915.extract 0 t2914.toNat)).bind fun t2964 => ((check_Bytes.f k t2964).bind fun t2966 => (if ((t2915.extract t2914.toNat ((wrap64 (t2914 + 4)).toNat)) == t2966) = true then (if (l2851.length + ([t2915.extract 0 t2914.toNat] : List ByteArray).length) * 16 ≤ 140737488355328 then (frame_Scan.l1 k a0 ml1 (t2915.extract ((wrap64 (t2914 + 4)).toNat) t2915.size) ((t2915.extract ((wrap64 (t2914 + 4)).toNat) t2915.size).size : Int) (l2851 ++ ([t2915.extract 0 t2914.toNat] : List ByteArray))) else none) else (some (l2851, wrap64 ((a0.size : Int) - i2848)))))) else none) else none) else none) else none) else none)))) else (some (l2851, wrap64 ((a0.size : Int) - i2848)))))
def frame_Scan.f (k : Nat) (a0 : ByteArray) : Option (List ByteArray × Int) := (frame_Scan.l1 k a0 k a0 (a0.size : Int) ([] : List ByteArray))
def frame_All.f (k : Nat) (a0 : ByteArray) : Option (List ByteArray × Int) := ((frame_Scan.f k a0).bind fun ⟨r2980, t2981⟩ => (if t2981 < (a0.size : Int) then (some (([] : List ByteArray), 6)) else (some (r2980, 0))))
def tarryref01_May.f (a0 : Int) : Option (Bool) := (if a0 ≥ (-1152921504606846976) then (some (decide (a0 ≤ 1152921504606846976))) else (some false))
def tarryref01_ReadNumber.j215 (k : Nat) (a0 : ByteArray) (i16906 : Int) (i19113 : Int) : Option (Int × ByteArray × Int) := (if 0 ≤ i16906 then (if i16906 < (a0.size : Int) then (if (bt a0 i16906) = 0 then (if i16906 > 0 then (some (0, (⟨#[]⟩ : ByteArray), 5)) else ((tarryref01_May.f i19113).bind fun t19156 => (if t19156 = true then (if 0 ≤ wrap64 (i16906 + 1) then (if (wrap64 (i16906 + 1)) ≤ (a0.size : Int) then (some (i19113, a0.extract ((wrap64 (i16906 + 1)).toNat) a0.size, 0)) else none) else none) else (some (0, (⟨#[]⟩ : ByteArray), 5))))) else ((tarryref01_May.f i19113).bind fun t19161 => (if t19161 = true then (if 0 ≤ wrap64 (i16906 + 1) then (if (wrap64 (i16906 + 1)) ≤ (a0.size : Int) then (some (i19113, a0.extract ((wrap64 (i16906 + 1)).toNat) a0.size, 0)) else none) else none) else (some (0, (⟨#[]⟩ : ByteArray), 5))))) else none) else none)
def tarryref01_ReadNumber.j213 (k : Nat) (a0 : ByteArray) (i16906 : Int) (i19001 : Int) : Option (Int × ByteArray × Int) := (if (i19001.tmod 2) = 1 then (tarryref01_ReadNumber.j215 k a0 i16906 (wrap64 ((wrap64 (0 - (IntKind.i64.wrap (i19001.tdiv 2)))) - 1))) else (tarryref01_ReadNumber.j215 k a0 i16906 (IntKind.i64.wrap (i19001.tdiv 2))))
def tarryref01_ReadNumber.l214 (k : Nat) (a0 : ByteArray) (i16906 : Int) : Nat → Int → Int → Option (Int × ByteArray × Int)
  | 0, _, _ => none
  | ml214 + 1, i18987, i18988 => (if i18988 ≥ 0 then (if 0 ≤ i18988 then (if i18988 < (a0.size : Int) then (tarryref01_ReadNumber.l214 k a0 i16906 ml214 (wrap64 ((wrap64 (128 * i18987)) + (wrap64 ((bt a0 i18988).tmod 128)))) (wrap64 (i18988 - 1))) else none) else none) else (tarryref01_ReadNumber.j213 k a0 i16906 i18987))
def tarryref01_ReadNumber.j208 (k : Nat) (a0 : ByteArray) (i16906 : Int)  : Option (Int × ByteArray × Int) := (if i16906 < 0 then (some (0, (⟨#[]⟩ : ByteArray), 4)) else (tarryref01_ReadNumber.l214 k a0 i16906 k 0 i16906))
def tarryref01_ReadNumber.j184 (k : Nat) (a0 : ByteArray) (i16906 : Int) : Option (Int × ByteArray × Int) := (if i16906 < 0 then (if (a0.size : Int) ≥ 9 then (some (0, (⟨#[]⟩ : ByteArray), 3)) else (tarryref01_ReadNumber.j208 k a0 i16906)) else (tarryref01_ReadNumber.j208 k a0 i16906))
def tarryref01_ReadNumber.l185 (k : Nat) (a0 : ByteArray) : Nat → Int → Int → Option (Int × ByteArray × Int)
  | 0, _, _ => none
  | ml185 + 1, i16832, i16833 => (if i16833 < (a0.size : Int) then (if i16833 < 9 then (if i16832 < 0 then (if 0 ≤ i16833 then (if i16833 < (a0.size : Int) then (if (bt a0 i16833) < 128 then (tarryref01_ReadNumber.l185 k a0 ml185 i16833 (wrap64 (i16833 + 1))) else (tarryref01_ReadNumber.l185 k a0 ml185 i16832 (wrap64 (i16833 + 1)))) else none) else none) else (tarryref01_ReadNumber.l185 k a0 ml185 i16832 (wrap64 (i16833 + 1)))) else (tarryref01_ReadNumber.j184 k a0 i16832)) else (tarryref01_ReadNumber.j184 k a0 i16832))
def tarryref01_ReadNumber.f (k : Nat) (a0 : ByteArray) : Option (Int × ByteArray × Int) := (tarryref01_ReadNumber.l185 k a0 k (-1) 0)
def tarryref02_Off.l1 (k : Nat)  : Nat → Int → Int → Option (Int)
  | 0, _, _ => none
  | ml1 + 1, i19237, i19238 => (if i19238 < 8 then (if (i19237.tmod 2) = 1 then (tarryref02_Off.l1 k ml1 (Go.bits .xor .u32 (IntKind.u32.wrap (i19237.tdiv 2)) 2197175160) (wrap64 (i19238 + 1))) else (tarryref02_Off.l1 k ml1 (IntKind.u32.wrap (i19237.tdiv 2)) (wrap64 (i19238 + 1)))) else (some i19237))
def tarryref02_Off.f (k : Nat) (a0 : Int) : Option (Int) := (tarryref02_Off.l1 k k a0 0)
def tarryref02_On.l1 (k : Nat) (a1 : ByteArray) : Nat → Int → Int → Option (Int)
  | 0, _, _ => none
  | ml1 + 1, i19282, i19283 => (if i19283 < (a1.size : Int) then (if 0 ≤ i19283 then (if i19283 < (a1.size : Int) then ((tarryref02_Off.f k (Go.bits .xor .u32 i19282 (IntKind.u32.wrap (bt a1 i19283)))).bind fun t19298 => (tarryref02_On.l1 k a1 ml1 t19298 (wrap64 (i19283 + 1)))) else none) else none) else (some (IntKind.u32.wrap (4294967295 - i19282))))
def tarryref02_On.f (k : Nat) (a0 : Int) (a1 : ByteArray) : Option (Int) := (tarryref02_On.l1 k a1 k (IntKind.u32.wrap (4294967295 - a0)) 0)
def tarryref02_Of.f (k : Nat) (a0 : ByteArray) : Option (Int) := ((tarryref02_On.f k 0 a0).bind fun t19300 => (some t19300))
def tarryref02_Bytes.l1 (k : Nat)  : Nat → Int → (List Int) → Int → Option (ByteArray)
  | 0, _, _, _ => none
  | ml1 + 1, i19339, l19342, i19343 => (if i19343 < 4 then (if (l19342.length + ([IntKind.u8.wrap (i19339.tmod 256)] : List Int).length) * 1 ≤ 140737488355328 then (tarryref02_Bytes.l1 k ml1 (IntKind.u32.wrap (i19339.tdiv 256)) (l19342 ++ ([IntKind.u8.wrap (i19339.tmod 256)] : List Int)) (wrap64 (i19343 + 1))) else none) else (some (strOfNums l19342)))
def tarryref02_Bytes.f (k : Nat) (a0 : Int) : Option (ByteArray) := (tarryref02_Bytes.l1 k k a0 ([] : List Int) 0)
def tarryref04_Scan.l1 (k : Nat)  : Nat → ByteArray → (List ByteArray) → Option (List ByteArray)
  | 0, _, _ => none
  | ml1 + 1, s19576, l19579 => (if (s19576.size : Int) > 0 then ((tarryref01_ReadNumber.f k s19576).bind fun ⟨t19648, t19649, t19650⟩ => (if t19650 = 0 then (if t19648 < 0 then (some l19579) else (if t19648 > 4096 then (some l19579) else (if (wrap64 (t19648 + 4)) > (t19649.size : Int) then (some l19579) else (if 0 ≤ t19648 then (if t19648 ≤ (t19649.size : Int) then (if 0 ≤ wrap64 (t19648 + 4) then (if (wrap64 (t19648 + 4)) ≤ (t19649.size : Int) then (if t19648 ≤ (wrap64 (t19648 + 4)) then ((tarryref02_Of.f k (t19649.extract 0 t19648.toNat)).bind fun t19697 => ((tarryref02_Bytes.f k t19697).bind fun t19699 => (if ((t19649.extract t19648.toNat ((wrap64 (t19648 + 4)).toNat)) == t19699) = true then (if (l19579.length + ([t19649.extract 0 t19648.toNat] : List ByteArray).length) * 16 ≤ 140737488355328 then (tarryref04_Scan.l1 k ml1 (t19649.extract ((wrap64 (t19648 + 4)).toNat) t19649.size) (l19579 ++ ([t19649.extract 0 t19648.toNat] : List ByteArray))) else none) else (some l19579)))) else none) else none) else none) else none) else none)))) else (some l19579))) else (some l19579))
def tarryref04_Scan.f (k : Nat) (a0 : ByteArray) : Option (List ByteArray) := (tarryref04_Scan.l1 k k a0 ([] : List ByteArray))
def tarryref01_Number.l1 (k : Nat)  : Nat → Int → (List Int) → Option (ByteArray)
  | 0, _, _ => none
  | ml1 + 1, i19765, l19768 => (if i19765 > 127 then (if (l19768.length + ([IntKind.u8.wrap (wrap64 (128 + (i19765.tmod 128)))] : List Int).length) * 1 ≤ 140737488355328 then (tarryref01_Number.l1 k ml1 (IntKind.i64.wrap (i19765.tdiv 128)) (l19768 ++ ([IntKind.u8.wrap (wrap64 (128 + (i19765.tmod 128)))] : List Int))) else none) else (if (l19768.length + ([IntKind.u8.wrap i19765] : List Int).length) * 1 ≤ 140737488355328 then (some (strOfNums (l19768 ++ ([IntKind.u8.wrap i19765] : List Int)))) else none))
def tarryref01_Number.l3 (k : Nat)  : Nat → Int → (List Int) → Option (ByteArray)
  | 0, _, _ => none
  | ml3 + 1, i19839, l19842 => (if i19839 > 127 then (if (l19842.length + ([IntKind.u8.wrap (wrap64 (128 + (i19839.tmod 128)))] : List Int).length) * 1 ≤ 140737488355328 then (tarryref01_Number.l3 k ml3 (IntKind.i64.wrap (i19839.tdiv 128)) (l19842 ++ ([IntKind.u8.wrap (wrap64 (128 + (i19839.tmod 128)))] : List Int))) else none) else (if (l19842.length + ([IntKind.u8.wrap i19839] : List Int).length) * 1 ≤ 140737488355328 then (some (strOfNums (l19842 ++ ([IntKind.u8.wrap i19839] : List Int)))) else none))
def tarryref01_Number.f (k : Nat) (a0 : Int) : Option (ByteArray) := (if a0 ≥ 0 then (tarryref01_Number.l1 k k (wrap64 (2 * a0)) ([] : List Int)) else (tarryref01_Number.l3 k k (wrap64 ((wrap64 (2 * (wrap64 (0 - a0)))) - 1)) ([] : List Int)))
def tarryref04_Frame.f (k : Nat) (a0 : ByteArray) : Option (ByteArray) := ((tarryref01_Number.f k (a0.size : Int)).bind fun t19871 => (if t19871.size + a0.size ≤ 9223372036854775807 then ((tarryref02_Of.f k a0).bind fun t19874 => ((tarryref02_Bytes.f k t19874).bind fun t19876 => (if (t19871 ++ a0).size + t19876.size ≤ 9223372036854775807 then (some ((t19871 ++ a0) ++ t19876)) else none))) else none))
def tarryref04_Whole.l1 (k : Nat) (l0 : List ByteArray) : Nat → ByteArray → Int → Option (ByteArray)
  | 0, _, _ => none
  | ml1 + 1, s19913, i19914 => (if i19914 < (l0.length : Int) then (if 0 ≤ i19914 then ((l0[i19914.toNat]?).bind fun x19929 => ((tarryref04_Frame.f k x19929).bind fun t19932 => (if s19913.size + t19932.size ≤ 9223372036854775807 then (tarryref04_Whole.l1 k l0 ml1 (s19913 ++ t19932) (wrap64 (i19914 + 1))) else none))) else none) else (some s19913))
def tarryref04_Whole.f (k : Nat) (l0 : List ByteArray) : Option (ByteArray) := (tarryref04_Whole.l1 k l0 k (⟨#[]⟩ : ByteArray) 0)
def tarryref01_Same.l1 (k : Nat) (l0 : List ByteArray) (l1 : List ByteArray) : Nat → Int → Option (Bool)
  | 0, _ => none
  | ml1 + 1, i19996 => (if i19996 < (l0.length : Int) then (if 0 ≤ i19996 then ((l0[i19996.toNat]?).bind fun x20019 => ((l1[i19996.toNat]?).bind fun x20020 => (if (x20019 == x20020) = true then (tarryref01_Same.l1 k l0 l1 ml1 (wrap64 (i19996 + 1))) else (some false)))) else none) else (some true))
def tarryref01_Same.f (k : Nat) (l0 : List ByteArray) (l1 : List ByteArray) : Option (Bool) := (if (l0.length : Int) = (l1.length : Int) then (tarryref01_Same.l1 k l0 l1 k 0) else (some false))
def internal_stringslite_HasPrefix.f (a0 : ByteArray) (a1 : ByteArray) : Option (Bool) := (if (a0.size : Int) ≥ (a1.size : Int) then (if 0 ≤ (a1.size : Int) then (if (a1.size : Int) ≤ (a0.size : Int) then (some ((a0.extract 0 ((a1.size : Int).toNat)) == a1)) else none) else none) else (some false))
def strings_HasPrefix.f (a0 : ByteArray) (a1 : ByteArray) : Option (Bool) := ((internal_stringslite_HasPrefix.f a0 a1).bind fun t20038 => (some t20038))
def tarrylaw04_alive.f (k : Nat)  : Option (Bool) := ((frame_Frame.f k (⟨#[]⟩ : ByteArray)).bind fun ⟨t20043, t20044⟩ => ((frame_Scan.f k t20043).bind fun ⟨r20046, t20047⟩ => (if t20044 = 0 then (if (t20043.size : Int) = 5 then (if (r20046.length : Int) = 1 then (some (t20047 == 5)) else (some false)) else (some false)) else (some false))))
def tarrylaw04_FrameScans.f (k : Nat) (a0 : ByteArray) (a1 : ByteArray) : Option (Bool) := (if 0 ≤ mn (a0.size : Int) 4100 then (if (mn (a0.size : Int) 4100) ≤ (a0.size : Int) then (if 0 ≤ mn (a1.size : Int) 9000 then (if (mn (a1.size : Int) 9000) ≤ (a1.size : Int) then ((frame_Frame.f k (a0.extract 0 ((mn (a0.size : Int) 4100).toNat))).bind fun ⟨t861, t862⟩ => ((frame_Scan.f k (a1.extract 0 ((mn (a1.size : Int) 9000).toNat))).bind fun ⟨r2975, t2976⟩ => ((frame_All.f k (a1.extract 0 ((mn (a1.size : Int) 9000).toNat))).bind fun ⟨r2991, t2992⟩ => ((tarryref04_Scan.f k (a1.extract 0 ((mn (a1.size : Int) 9000).toNat))).bind fun r19708 => ((tarryref04_Whole.f k r19708).bind fun t19935 => ((tarryref01_Same.f k r2975 r19708).bind fun t20090 => (if t20090 = true then (if t2976 = (t19935.size : Int) then ((strings_HasPrefix.f (a1.extract 0 ((mn (a1.size : Int) 9000).toNat)) t19935).bind fun t20095 => (if t20095 = true then ((tarrylaw04_alive.f k).bind fun t20098 => (if t20098 = true then (if t2976 < ((a1.extract 0 ((mn (a1.size : Int) 9000).toNat)).size : Int) then (if t2992 = 6 then (if (r2991.length : Int) = 0 then (if t2976 = ((a1.extract 0 ((mn (a1.size : Int) 9000).toNat)).size : Int) then (if t2992 = 0 then ((tarryref01_Same.f k r2991 r19708).bind fun t20171 => (if t20171 = true then (if ((a0.extract 0 ((mn (a0.size : Int) 4100).toNat)).size : Int) > 4096 then (if t862 = 3 then (some (t861 == (⟨#[]⟩ : ByteArray))) else none) else (if t862 = 0 then ((tarryref04_Frame.f k (a0.extract 0 ((mn (a0.size : Int) 4100).toNat))).bind fun t20197 => (some (t861 == t20197))) else none)) else none)) else none) else (if ((a0.extract 0 ((mn (a0.size : Int) 4100).toNat)).size : Int) > 4096 then (if t862 = 3 then (some (t861 == (⟨#[]⟩ : ByteArray))) else none) else (if t862 = 0 then ((tarryref04_Frame.f k (a0.extract 0 ((mn (a0.size : Int) 4100).toNat))).bind fun t20223 => (some (t861 == t20223))) else none))) else none) else none) else (if t2976 = ((a1.extract 0 ((mn (a1.size : Int) 9000).toNat)).size : Int) then (if t2992 = 0 then ((tarryref01_Same.f k r2991 r19708).bind fun t20230 => (if t20230 = true then (if ((a0.extract 0 ((mn (a0.size : Int) 4100).toNat)).size : Int) > 4096 then (if t862 = 3 then (some (t861 == (⟨#[]⟩ : ByteArray))) else none) else (if t862 = 0 then ((tarryref04_Frame.f k (a0.extract 0 ((mn (a0.size : Int) 4100).toNat))).bind fun t20256 => (some (t861 == t20256))) else none)) else none)) else none) else (if ((a0.extract 0 ((mn (a0.size : Int) 4100).toNat)).size : Int) > 4096 then (if t862 = 3 then (some (t861 == (⟨#[]⟩ : ByteArray))) else none) else (if t862 = 0 then ((tarryref04_Frame.f k (a0.extract 0 ((mn (a0.size : Int) 4100).toNat))).bind fun t20282 => (some (t861 == t20282))) else none)))) else none)) else none)) else none) else none))))))) else none) else none) else none) else none)
/-- THE ONE PURE STATEMENT. -/
def tarrylaw04_FrameScans.Pure : Prop := ∀ (a0 : ByteArray) (a1 : ByteArray), a0.size ≤ 140737488351232 → a1.size ≤ 140737488351232 → ∃ k, tarrylaw04_FrameScans.f k a0 a1 = some true

end Go.Proofs.Ytaolaicmfjdmhaa.PFrameScans
