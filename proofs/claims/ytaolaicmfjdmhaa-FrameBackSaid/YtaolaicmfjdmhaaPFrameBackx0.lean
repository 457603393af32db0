/- Written by a program of this repo: what the program's functions do, each as a Lean function, shown of the loaded code; or a statement's row over that; no condition of its own. -/
import Derived.Test.YtaolaicmfjdmhaaProg
import Derived.Test.YtaolaicmfjdmhaaV16
namespace Go.Proofs.Ytaolaicmfjdmhaa.PFrameBack
open Go Go.RowKit Go.Proofs.YtaolaicmfjdmhaaV
set_option linter.unusedVariables false
set_option linter.unusedSimpArgs false

def enc_str (x : ByteArray) : List Value := [.string x]
theorem enc_str_ok (a : ByteArray) : (enc_str a).length = 1 ∧ ∀ u ∈ enc_str a, u.oneCell' = true := ⟨rfl, by intro u hu; simp only [enc_str, List.mem_cons, List.not_mem_nil, or_false] at hu; rcases hu with rfl; rfl⟩
def enc_intu8 (x : Int) : List Value := [.int .u8 x]
theorem enc_intu8_ok (a : Int) : (enc_intu8 a).length = 1 ∧ ∀ u ∈ enc_intu8 a, u.oneCell' = true := ⟨rfl, by intro u hu; simp only [enc_intu8, List.mem_cons, List.not_mem_nil, or_false] at hu; rcases hu with rfl; rfl⟩
theorem VC.join0 {E : Env} {P : Program} {Q : Exit → Act → World → Prop} {s : St}  {c1 c2 : Code} (I : St) (F : Prop) (hx : VC P E c1 (Exit.then (fun a w => F ∧ Inv E (I) a w) Q) s) (hy : F → VC P E c2 Q (I)) : VC P E (.seq c1 c2) Q s :=
  fun a w hi => wpIn_seq (Code.wpIn_mono (fun e a w h => by
    cases e <;> first | exact h | (obtain ⟨hf, hi⟩ := h; exact hy  hf a w hi)) (hx a w hi))
theorem VN.meet0 {E : Env} {Q : Exit → Act → World → Prop} {s : St}  {I : St} {F : Prop}  (bs rs : List Nat) (hf : F) (hl : Le s (I) bs rs) : VN E (Exit.then (fun a w => F ∧ Inv E (I) a w) Q) s :=
  fun a w hi => ⟨hf, hi.le hl⟩
theorem VC.join1 {E : Env} {P : Program} {Q : Exit → Act → World → Prop} {s : St} {α0 : Type} {c1 c2 : Code} (I : α0 → St) (F : α0 → Prop) (hx : VC P E c1 (Exit.then (fun a w => ∃ (x0 : α0), F x0 ∧ Inv E (I x0) a w) Q) s) (hy : ∀ (x0 : α0), F x0 → VC P E c2 Q (I x0)) : VC P E (.seq c1 c2) Q s :=
  fun a w hi => wpIn_seq (Code.wpIn_mono (fun e a w h => by
    cases e <;> first | exact h | (obtain ⟨x0, hf, hi⟩ := h; exact hy x0 hf a w hi)) (hx a w hi))
theorem VN.meet1 {E : Env} {Q : Exit → Act → World → Prop} {s : St} {α0 : Type} {I : α0 → St} {F : α0 → Prop} (x0 : α0) (bs rs : List Nat) (hf : F x0) (hl : Le s (I x0) bs rs) : VN E (Exit.then (fun a w => ∃ (x0 : α0), F x0 ∧ Inv E (I x0) a w) Q) s :=
  fun a w hi => ⟨x0, hf, hi.le hl⟩
theorem VC.join2 {E : Env} {P : Program} {Q : Exit → Act → World → Prop} {s : St} {α0 : Type} {α1 : Type} {c1 c2 : Code} (I : α0 → α1 → St) (F : α0 → α1 → Prop) (hx : VC P E c1 (Exit.then (fun a w => ∃ (x0 : α0) (x1 : α1), F x0 x1 ∧ Inv E (I x0 x1) a w) Q) s) (hy : ∀ (x0 : α0) (x1 : α1), F x0 x1 → VC P E c2 Q (I x0 x1)) : VC P E (.seq c1 c2) Q s :=
  fun a w hi => wpIn_seq (Code.wpIn_mono (fun e a w h => by
    cases e <;> first | exact h | (obtain ⟨x0, x1, hf, hi⟩ := h; exact hy x0 x1 hf a w hi)) (hx a w hi))
theorem VN.meet2 {E : Env} {Q : Exit → Act → World → Prop} {s : St} {α0 : Type} {α1 : Type} {I : α0 → α1 → St} {F : α0 → α1 → Prop} (x0 : α0) (x1 : α1) (bs rs : List Nat) (hf : F x0 x1) (hl : Le s (I x0 x1) bs rs) : VN E (Exit.then (fun a w => ∃ (x0 : α0) (x1 : α1), F x0 x1 ∧ Inv E (I x0 x1) a w) Q) s :=
  fun a w hi => ⟨x0, x1, hf, hi.le hl⟩
theorem VC.loop1 {E : Env} {P : Program} {Q : Exit → Act → World → Prop} {s : St} {α0 : Type} {c : Code} (I : α0 → St) (F : Nat → α0 → Prop) (k : Nat) (x0 : α0) (bs rs : List Nat) (hf : F k x0) (hl : Le s (I x0) bs rs) (hz : ∀ (x0 : α0), ¬ F 0 x0) (h : ∀ k, (∀ (x0 : α0), F k x0 → VLp P E c Q k (I x0)) → ∀ (x0 : α0), F (k + 1) x0 → VC P E c (Exit.then (Code.roundsIn E.F 0 P c Q k) Q) (I x0)) : VC P E (.loop c) Q s := by
  have key : ∀ k (x0 : α0), F k x0 → VLp P E c Q k (I x0) := by
    intro k
    induction k with
    | zero => intro x0 hf; exact absurd hf (hz x0)
    | succ k ih => intro x0 hf; exact VLp.succ (h k ih x0 hf)
  exact fun a w hi => wpIn_loop_rounds k (key k x0 hf a w (hi.le hl))
theorem VC.loop2 {E : Env} {P : Program} {Q : Exit → Act → World → Prop} {s : St} {α0 : Type} {α1 : Type} {c : Code} (I : α0 → α1 → St) (F : Nat → α0 → α1 → Prop) (k : Nat) (x0 : α0) (x1 : α1) (bs rs : List Nat) (hf : F k x0 x1) (hl : Le s (I x0 x1) bs rs) (hz : ∀ (x0 : α0) (x1 : α1), ¬ F 0 x0 x1) (h : ∀ k, (∀ (x0 : α0) (x1 : α1), F k x0 x1 → VLp P E c Q k (I x0 x1)) → ∀ (x0 : α0) (x1 : α1), F (k + 1) x0 x1 → VC P E c (Exit.then (Code.roundsIn E.F 0 P c Q k) Q) (I x0 x1)) : VC P E (.loop c) Q s := by
  have key : ∀ k (x0 : α0) (x1 : α1), F k x0 x1 → VLp P E c Q k (I x0 x1) := by
    intro k
    induction k with
    | zero => intro x0 x1 hf; exact absurd hf (hz x0 x1)
    | succ k ih => intro x0 x1 hf; exact VLp.succ (h k ih x0 x1 hf)
  exact fun a w hi => wpIn_loop_rounds k (key k x0 x1 hf a w (hi.le hl))
theorem VC.loop3 {E : Env} {P : Program} {Q : Exit → Act → World → Prop} {s : St} {α0 : Type} {α1 : Type} {α2 : Type} {c : Code} (I : α0 → α1 → α2 → St) (F : Nat → α0 → α1 → α2 → Prop) (k : Nat) (x0 : α0) (x1 : α1) (x2 : α2) (bs rs : List Nat) (hf : F k x0 x1 x2) (hl : Le s (I x0 x1 x2) bs rs) (hz : ∀ (x0 : α0) (x1 : α1) (x2 : α2), ¬ F 0 x0 x1 x2) (h : ∀ k, (∀ (x0 : α0) (x1 : α1) (x2 : α2), F k x0 x1 x2 → VLp P E c Q k (I x0 x1 x2)) → ∀ (x0 : α0) (x1 : α1) (x2 : α2), F (k + 1) x0 x1 x2 → VC P E c (Exit.then (Code.roundsIn E.F 0 P c Q k) Q) (I x0 x1 x2)) : VC P E (.loop c) Q s := by
  have key : ∀ k (x0 : α0) (x1 : α1) (x2 : α2), F k x0 x1 x2 → VLp P E c Q k (I x0 x1 x2) := by
    intro k
    induction k with
    | zero => intro x0 x1 x2 hf; exact absurd hf (hz x0 x1 x2)
    | succ k ih => intro x0 x1 x2 hf; exact VLp.succ (h k ih x0 x1 x2 hf)
  exact fun a w hi => wpIn_loop_rounds k (key k x0 x1 x2 hf a w (hi.le hl))
theorem VC.loop4 {E : Env} {P : Program} {Q : Exit → Act → World → Prop} {s : St} {α0 : Type} {α1 : Type} {α2 : Type} {α3 : Type} {c : Code} (I : α0 → α1 → α2 → α3 → St) (F : Nat → α0 → α1 → α2 → α3 → Prop) (k : Nat) (x0 : α0) (x1 : α1) (x2 : α2) (x3 : α3) (bs rs : List Nat) (hf : F k x0 x1 x2 x3) (hl : Le s (I x0 x1 x2 x3) bs rs) (hz : ∀ (x0 : α0) (x1 : α1) (x2 : α2) (x3 : α3), ¬ F 0 x0 x1 x2 x3) (h : ∀ k, (∀ (x0 : α0) (x1 : α1) (x2 : α2) (x3 : α3), F k x0 x1 x2 x3 → VLp P E c Q k (I x0 x1 x2 x3)) → ∀ (x0 : α0) (x1 : α1) (x2 : α2) (x3 : α3), F (k + 1) x0 x1 x2 x3 → VC P E c (Exit.then (Code.roundsIn E.F 0 P c Q k) Q) (I x0 x1 x2 x3)) : VC P E (.loop c) Q s := by
  have key : ∀ k (x0 : α0) (x1 : α1) (x2 : α2) (x3 : α3), F k x0 x1 x2 x3 → VLp P E c Q k (I x0 x1 x2 x3) := by
    intro k
    induction k with
    | zero => intro x0 x1 x2 x3 hf; exact absurd hf (hz x0 x1 x2 x3)
    | succ k ih => intro x0 x1 x2 x3 hf; exact VLp.succ (h k ih x0 x1 x2 x3 hf)
  exact fun a w hi => wpIn_loop_rounds k (key k x0 x1 x2 x3 hf a w (hi.le hl))
theorem VC.stop0 {E : Env} {P : Program} {Q : Exit → Act → World → Prop} {s : St}  {c1 : Code} (I : St) (F : Prop) (hx : VC P E c1 (Exit.then (fun a w => F ∧ Inv E (I) a w) Q) s) (hy : F → VN E Q (I)) : VC P E c1 Q s :=
  fun a w hi => Code.wpIn_mono (fun e a w h => by
    cases e <;> first | exact h | (obtain ⟨hf, hi⟩ := h; exact hy  hf a w hi)) (hx a w hi)
theorem VC.stop1 {E : Env} {P : Program} {Q : Exit → Act → World → Prop} {s : St} {α0 : Type} {c1 : Code} (I : α0 → St) (F : α0 → Prop) (hx : VC P E c1 (Exit.then (fun a w => ∃ (x0 : α0), F x0 ∧ Inv E (I x0) a w) Q) s) (hy : ∀ (x0 : α0), F x0 → VN E Q (I x0)) : VC P E c1 Q s :=
  fun a w hi => Code.wpIn_mono (fun e a w h => by
    cases e <;> first | exact h | (obtain ⟨x0, hf, hi⟩ := h; exact hy x0 hf a w hi)) (hx a w hi)
theorem VC.stop2 {E : Env} {P : Program} {Q : Exit → Act → World → Prop} {s : St} {α0 : Type} {α1 : Type} {c1 : Code} (I : α0 → α1 → St) (F : α0 → α1 → Prop) (hx : VC P E c1 (Exit.then (fun a w => ∃ (x0 : α0) (x1 : α1), F x0 x1 ∧ Inv E (I x0 x1) a w) Q) s) (hy : ∀ (x0 : α0) (x1 : α1), F x0 x1 → VN E Q (I x0 x1)) : VC P E c1 Q s :=
  fun a w hi => Code.wpIn_mono (fun e a w h => by
    cases e <;> first | exact h | (obtain ⟨x0, x1, hf, hi⟩ := h; exact hy x0 x1 hf a w hi)) (hx a w hi)
theorem TI9 : TI Try.prog 9 false 1 := ⟨⟨_, Try.underlying9, rfl⟩, by kernel_rfl⟩
theorem Z9 : (Try.prog.info? 9).bind (·.zero) = some (.string (⟨#[]⟩ : ByteArray)) := by kernel_rfl
theorem EI9 : EI Try.prog 9 1 16 := ei_of (z := .string (⟨#[]⟩ : ByteArray)) (by kernel_rfl) rfl (by decide) (by decide)
theorem FO6 : FOk Try.prog 6 := ⟨_, Try.func6, by kernel_rfl, by kernel_rfl⟩
theorem FO25 : FOk Try.prog 25 := ⟨_, Try.func25, by kernel_rfl, by kernel_rfl⟩
theorem TI5 : TI Try.prog 5 false 1 := ⟨⟨_, Try.underlying5, rfl⟩, by kernel_rfl⟩
theorem Z5 : (Try.prog.info? 5).bind (·.zero) = some (.int .u8 0) := by kernel_rfl
theorem EI5 : EI Try.prog 5 1 1 := ei_of (z := .int .u8 0) (by kernel_rfl) rfl (by decide) (by decide)
theorem FO16 : FOk Try.prog 16 := ⟨_, Try.func16, by kernel_rfl, by kernel_rfl⟩
theorem Z56 : (Try.prog.info? 56).bind (·.zero) = some (.agg (ints .u32 (List.replicate 256 (0 : Int))).toArray) := by kernel_rfl
theorem ZL56 : (.agg (ints .u32 (List.replicate 256 (0 : Int))).toArray : Value).cells.toList = ints .u32 (List.replicate 256 (0 : Int)) := rfl
theorem TI23 : TI Try.prog 23 false 1 := ⟨⟨_, Try.underlying23, rfl⟩, by kernel_rfl⟩
theorem TI56 : TI Try.prog 56 true 256 := ⟨⟨_, Try.underlying56, rfl⟩, by kernel_rfl⟩
theorem FO31 : FOk Try.prog 31 := ⟨_, Try.func31, by kernel_rfl, by kernel_rfl⟩
theorem FO26 : FOk Try.prog 26 := ⟨_, Try.func26, by kernel_rfl, by kernel_rfl⟩
theorem FO18 : FOk Try.prog 18 := ⟨_, Try.func18, by kernel_rfl, by kernel_rfl⟩
theorem Z52 : (Try.prog.info? 52).bind (·.zero) = some (.agg (ints .u8 (List.replicate 4 (0 : Int))).toArray) := by kernel_rfl
theorem ZL52 : (.agg (ints .u8 (List.replicate 4 (0 : Int))).toArray : Value).cells.toList = ints .u8 (List.replicate 4 (0 : Int)) := rfl
theorem FO17 : FOk Try.prog 17 := ⟨_, Try.func17, by kernel_rfl, by kernel_rfl⟩
theorem FO8 : FOk Try.prog 8 := ⟨_, Try.func8, by kernel_rfl, by kernel_rfl⟩
theorem Z22 : (Try.prog.info? 22).bind (·.zero) = some (.slice none 0 0) := by kernel_rfl
theorem ZL22 : (.slice none 0 0 : Value).cells.toList = [.slice none 0 0] := rfl
theorem Z3 : (Try.prog.info? 3).bind (·.zero) = some (.int .i64 0) := by kernel_rfl
theorem ZL3 : (.int .i64 0 : Value).cells.toList = [.int .i64 0] := rfl
theorem TI3 : TI Try.prog 3 false 1 := ⟨⟨_, Try.underlying3, rfl⟩, by kernel_rfl⟩
theorem FO19 : FOk Try.prog 19 := ⟨_, Try.func19, by kernel_rfl, by kernel_rfl⟩
theorem FO27 : FOk Try.prog 27 := ⟨_, Try.func27, by kernel_rfl, by kernel_rfl⟩
theorem FO28 : FOk Try.prog 28 := ⟨_, Try.func28, by kernel_rfl, by kernel_rfl⟩
theorem TI22 : TI Try.prog 22 false 1 := ⟨⟨_, Try.underlying22, rfl⟩, by kernel_rfl⟩
theorem FO9 : FOk Try.prog 9 := ⟨_, Try.func9, by kernel_rfl, by kernel_rfl⟩
theorem FO11 : FOk Try.prog 11 := ⟨_, Try.func11, by kernel_rfl, by kernel_rfl⟩
theorem FO10 : FOk Try.prog 10 := ⟨_, Try.func10, by kernel_rfl, by kernel_rfl⟩
theorem FO7 : FOk Try.prog 7 := ⟨_, Try.func7, by kernel_rfl, by kernel_rfl⟩
def tarrylaw04_few.l1 (k : Nat) (l0 : List ByteArray) : Nat → (List ByteArray) → Int → Option (List ByteArray)
  | 0, _, _ => none
  | ml1 + 1, l74, i76 => (if i76 < (((l0.take ((mn (l0.length : Int) 8).toNat)).drop 0).length : Int) then (if 0 ≤ i76 then ((((l0.take ((mn (l0.length : Int) 8).toNat)).drop 0)[i76.toNat]?).bind fun x95 => (if 0 ≤ mn (x95.size : Int) 100 then (if (mn (x95.size : Int) 100) ≤ (x95.size : Int) then (if (l74.length + ([x95.extract 0 ((mn (x95.size : Int) 100).toNat)] : List ByteArray).length) * 16 ≤ 140737488355328 then (tarrylaw04_few.l1 k l0 ml1 (l74 ++ ([x95.extract 0 ((mn (x95.size : Int) 100).toNat)] : List ByteArray)) (wrap64 (i76 + 1))) else none) else none) else none)) else none) else (some l74))
def tarrylaw04_few.f (k : Nat) (l0 : List ByteArray) : Option (List ByteArray) := (if 0 ≤ mn (l0.length : Int) 8 then (if (mn (l0.length : Int) 8) ≤ (l0.length : Int) then (tarrylaw04_few.l1 k l0 k ([] : List ByteArray) 0) else none) else none)
def pack_may.f (a0 : Int) : Option (Bool) := (if a0 ≥ (-1152921504606846976) then (some (decide (a0 ≤ 1152921504606846976))) else (some false))
def pack_Number.l1 (k : Nat)  : Nat → Int → (List Int) → Option (ByteArray × Int)
  | 0, _, _ => none
  | ml1 + 1, i186, l189 => (if i186 ≥ 128 then (if (l189.length + ([IntKind.u8.wrap (wrap64 ((i186.tmod 128) + 128))] : List Int).length) * 1 ≤ 140737488355328 then (pack_Number.l1 k ml1 (IntKind.i64.wrap (i186.tdiv 128)) (l189 ++ ([IntKind.u8.wrap (wrap64 ((i186.tmod 128) + 128))] : List Int))) else none) else (if (l189.length + ([IntKind.u8.wrap i186] : List Int).length) * 1 ≤ 140737488355328 then (some ((strOfNums (l189 ++ ([IntKind.u8.wrap i186] : List Int))), 0)) else none))
def pack_Number.l3 (k : Nat)  : Nat → Int → (List Int) → Option (ByteArray × Int)
  | 0, _, _ => none
  | ml3 + 1, i262, l265 => (if i262 ≥ 128 then (if (l265.length + ([IntKind.u8.wrap (wrap64 ((i262.tmod 128) + 128))] : List Int).length) * 1 ≤ 140737488355328 then (pack_Number.l3 k ml3 (IntKind.i64.wrap (i262.tdiv 128)) (l265 ++ ([IntKind.u8.wrap (wrap64 ((i262.tmod 128) + 128))] : List Int))) else none) else (if (l265.length + ([IntKind.u8.wrap i262] : List Int).length) * 1 ≤ 140737488355328 then (some ((strOfNums (l265 ++ ([IntKind.u8.wrap i262] : List Int))), 0)) else none))
def pack_Number.f (k : Nat) (a0 : Int) : Option (ByteArray × Int) := ((pack_may.f a0).bind fun t136 => (if t136 = true then (if a0 < 0 then (pack_Number.l1 k k (wrap64 ((wrap64 ((-2) * a0)) - 1)) ([] : List Int)) else (pack_Number.l3 k k (wrap64 (2 * a0)) ([] : List Int))) else (some ((⟨#[]⟩ : ByteArray), 1))))
def check_Table.l9 (k : Nat) (rec_l5 : Int → (List Int) → Option (List Int)) (i669 : Int) (l670 : List Int) : Nat → Int → Int → Option (List Int)
  | 0, _, _ => none
  | ml9 + 1, i841, i842 => (if i842 < 8 then (if (Go.bits .and .u32 i841 1) = 1 then (check_Table.l9 k rec_l5 i669 l670 ml9 (Go.bits .xor .u32 (i841.fdiv (2 ^ min (1 : Int).toNat IntKind.u32.bits)) 2197175160) (wrap64 (i842 + 1))) else (check_Table.l9 k rec_l5 i669 l670 ml9 (i841.fdiv (2 ^ min (1 : Int).toNat IntKind.u32.bits)) (wrap64 (i842 + 1)))) else (if 0 ≤ i669 then (if i669 < 256 then (if i669.toNat < l670.length then (rec_l5 (IntKind.u32.wrap (i669 + 1)) (l670.set i669.toNat i841)) else none) else none) else none))
def check_Table.l5 (k : Nat)  : Nat → Int → (List Int) → Option (List Int)
  | 0, _, _ => none
  | ml5 + 1, i669, l670 => (if i669 < 256 then (check_Table.l9 k (check_Table.l5 k ml5) i669 l670 k i669 0) else (if l670.length = 256 then (if (List.replicate 256 (0 : Int)).length = 256 then (some l670) else none) else none))
def check_Table.f (k : Nat)  : Option (List Int) := (check_Table.l5 k k 0 (List.replicate 256 (0 : Int)))
def check_On.l1 (k : Nat) (a1 : ByteArray) (r865 : List Int) : Nat → Int → Int → Option (Int)
  | 0, _, _ => none
  | ml1 + 1, i902, i903 => (if i903 < (a1.size : Int) then (if 0 ≤ i903 then (if i903 < (a1.size : Int) then (if 0 ≤ Go.bits .xor .u8 (IntKind.u8.wrap i902) (bt a1 i903) then (if (Go.bits .xor .u8 (IntKind.u8.wrap i902) (bt a1 i903)) < 256 then ((r865[(Go.bits .xor .u8 (IntKind.u8.wrap i902) (bt a1 i903)).toNat]?).bind fun t919 => (check_On.l1 k a1 r865 ml1 (Go.bits .xor .u32 (i902.fdiv (2 ^ min (8 : Int).toNat IntKind.u32.bits)) t919) (wrap64 (i903 + 1)))) else none) else none) else none) else none) else (some (Go.bits .xor .u32 i902 4294967295)))
def check_On.f (k : Nat) (a0 : Int) (a1 : ByteArray) : Option (Int) := ((check_Table.f k).bind fun r865 => (if r865.length = 256 then (if (List.replicate 256 (0 : Int)).length = 256 then (check_On.l1 k a1 r865 k (Go.bits .xor .u32 a0 4294967295) 0) else none) else none))
def check_Of.f (k : Nat) (a0 : ByteArray) : Option (Int) := ((check_On.f k 0 a0).bind fun t920 => (some t920))
def check_Bytes.l1 (k : Nat) (a0 : Int) : Nat → Int → (List Int) → Option (ByteArray)
  | 0, _, _ => none
  | ml1 + 1, i947, l948 => (if i947 < 4 then (if 0 ≤ wrap64 (8 * i947) then (if 0 ≤ i947 then (if i947 < 4 then (if i947.toNat < l948.length then (check_Bytes.l1 k a0 ml1 (wrap64 (i947 + 1)) (l948.set i947.toNat (IntKind.u8.wrap (a0.fdiv (2 ^ min (wrap64 (8 * i947)).toNat IntKind.u32.bits))))) else none) else none) else none) else none) else (if l948.length = 4 then (some (strOfNums l948)) else none))
def check_Bytes.f (k : Nat) (a0 : Int) : Option (ByteArray) := (check_Bytes.l1 k a0 k 0 (List.replicate 4 (0 : Int)))
def frame_Frame.f (k : Nat) (a0 : ByteArray) : Option (ByteArray × Int) := (if (a0.size : Int) > 4096 then (some ((⟨#[]⟩ : ByteArray), 3)) else ((pack_Number.f k (a0.size : Int)).bind fun ⟨t295, t296⟩ => (if t295.size + a0.size ≤ 9223372036854775807 then ((check_Of.f k a0).bind fun t922 => ((check_Bytes.f k t922).bind fun t969 => (if (t295 ++ a0).size + t969.size ≤ 9223372036854775807 then (some ((t295 ++ a0) ++ t969, 0)) else none))) else none)))
def pack_ReadNumber.j5 (k : Nat) (a0 : ByteArray) (i2216 : Int) (i2777 : Int) (q2778 : Bool) : Option (Int × ByteArray × Int) := (if (wrap64 (bt a0 i2216)) = 0 then (if i2216 > 0 then (some (0, (⟨#[]⟩ : ByteArray), 5)) else ((pack_may.f i2777).bind fun t2813 => (if t2813 = true then (if 0 ≤ wrap64 (i2216 + 1) then (if (wrap64 (i2216 + 1)) ≤ (a0.size : Int) then (some (i2777, a0.extract ((wrap64 (i2216 + 1)).toNat) a0.size, 0)) else none) else none) else (some (0, (⟨#[]⟩ : ByteArray), 5))))) else ((pack_may.f i2777).bind fun t2818 => (if t2818 = true then (if 0 ≤ wrap64 (i2216 + 1) then (if (wrap64 (i2216 + 1)) ≤ (a0.size : Int) then (some (i2777, a0.extract ((wrap64 (i2216 + 1)).toNat) a0.size, 0)) else none) else none) else (some (0, (⟨#[]⟩ : ByteArray), 5)))))
def pack_ReadNumber.l3 (k : Nat) (a0 : ByteArray) : Nat → Int → Int → Option (Int × ByteArray × Int)
  | 0, _, _ => none
  | ml3 + 1, i2215, i2216 => (if i2216 < (mn (a0.size : Int) 9) then (if 0 ≤ i2216 then (if i2216 < (a0.size : Int) then (if 0 ≤ wrap64 (7 * i2216) then (if (wrap64 (bt a0 i2216)) ≥ 128 then (pack_ReadNumber.l3 k a0 ml3 (Go.bits .or .i64 i2215 (IntKind.i64.wrap (((wrap64 (bt a0 i2216)).tmod 128) * 2 ^ min (wrap64 (7 * i2216)).toNat IntKind.i64.bits))) (wrap64 (i2216 + 1))) else (if ((Go.bits .or .i64 i2215 (IntKind.i64.wrap (((wrap64 (bt a0 i2216)).tmod 128) * 2 ^ min (wrap64 (7 * i2216)).toNat IntKind.i64.bits))).tmod 2) = 1 then (pack_ReadNumber.j5 k a0 i2216 (wrap64 ((wrap64 (0 - (IntKind.i64.wrap ((Go.bits .or .i64 i2215 (IntKind.i64.wrap (((wrap64 (bt a0 i2216)).tmod 128) * 2 ^ min (wrap64 (7 * i2216)).toNat IntKind.i64.bits))).tdiv 2)))) - 1)) true) else (pack_ReadNumber.j5 k a0 i2216 (IntKind.i64.wrap ((Go.bits .or .i64 i2215 (IntKind.i64.wrap (((wrap64 (bt a0 i2216)).tmod 128) * 2 ^ min (wrap64 (7 * i2216)).toNat IntKind.i64.bits))).tdiv 2)) false))) else none) else none) else none) else (if (a0.size : Int) ≥ 9 then (some (0, (⟨#[]⟩ : ByteArray), 3)) else (some (0, (⟨#[]⟩ : ByteArray), 4))))
def pack_ReadNumber.f (k : Nat) (a0 : ByteArray) : Option (Int × ByteArray × Int) := (pack_ReadNumber.l3 k a0 k 0 0)
def frame_Scan.l1 (k : Nat) (a0 : ByteArray) : Nat → ByteArray → Int → (List ByteArray) → Option (List ByteArray × Int)
  | 0, _, _, _ => none
  | ml1 + 1, s3086, i3087, l3090 => ((pack_ReadNumber.f k s3086).bind fun ⟨t3153, t3154, t3155⟩ => (if t3155 = 0 then (if t3153 < 0 then (some (l3090, wrap64 ((a0.size : Int) - i3087))) else (if t3153 > 4096 then (some (l3090, wrap64 ((a0.size : Int) - i3087))) else (if (wrap64 (t3153 + 4)) > (t3154.size : Int) then (some (l3090, wrap64 ((a0.size : Int) - i3087))) else (if 0 ≤ t3153 then (if t3153 ≤ (t3154.size : Int) then (if 0 ≤ wrap64 (t3153 + 4) then (if (wrap64 (t3153 + 4)) ≤ (t3154.size : Int) then (if t3153 ≤ (wrap64 (t3153 + 4)) then ((check_Of.f k (t3154.extract 0 t3153.toNat)).bind fun t3203 => ((check_Bytes.f k t3203).bind fun t3205 => (if ((t3154.extract t3153.toNat ((wrap64 (t3153 + 4)).toNat)) == t3205) = true then (if (l3090.length + ([t3154.extract 0 t3153.toNat] : List ByteArray).length) * 16 ≤ 140737488355328 then (frame_Scan.l1 k a0 ml1 (t3154.extract ((wrap64 (t3153 + 4)).toNat) t3154.size) ((t3154.extract ((wrap64 (t3153 + 4)).toNat) t3154.size).size : Int) (l3090 ++ ([t3154.extract 0 t3153.toNat] : List ByteArray))) else none) else (some (l3090, wrap64 ((a0.size : Int) - i3087)))))) else none) else none) else none) else none) else none)))) else (some (l3090, wrap64 ((a0.size : Int) - i3087)))))
def frame_Scan.f (k : Nat) (a0 : ByteArray) : Option (List ByteArray × Int) := (frame_Scan.l1 k a0 k a0 (a0.size : Int) ([] : List ByteArray))
def frame_All.f (k : Nat) (a0 : ByteArray) : Option (List ByteArray × Int) := ((frame_Scan.f k a0).bind fun ⟨r3214, t3215⟩ => (if t3215 < (a0.size : Int) then (some (([] : List ByteArray), 6)) else (some (r3214, 0))))
def tarryref01_Same.l1 (k : Nat) (l0 : List ByteArray) (l1 : List ByteArray) : Nat → Int → Option (Bool)
  | 0, _ => none
  | ml1 + 1, i3305 => (if i3305 < (l0.length : Int) then (if 0 ≤ i3305 then ((l0[i3305.toNat]?).bind fun x3328 => ((l1[i3305.toNat]?).bind fun x3329 => (if (x3328 == x3329) = true then (tarryref01_Same.l1 k l0 l1 ml1 (wrap64 (i3305 + 1))) else (some false)))) else none) else (some true))
def tarryref01_Same.f (k : Nat) (l0 : List ByteArray) (l1 : List ByteArray) : Option (Bool) := (if (l0.length : Int) = (l1.length : Int) then (tarryref01_Same.l1 k l0 l1 k 0) else (some false))
def tarrylaw04_alive.f (k : Nat)  : Option (Bool) := ((frame_Frame.f k (⟨#[]⟩ : ByteArray)).bind fun ⟨t3343, t3344⟩ => ((frame_Scan.f k t3343).bind fun ⟨r3346, t3347⟩ => (if t3344 = 0 then (if (t3343.size : Int) = 5 then (if (r3346.length : Int) = 1 then (some (t3347 == 5)) else (some false)) else (some false)) else (some false))))
def tarrylaw04_FrameBack.j2 (k : Nat) (a1 : Int) (a2 : ByteArray) (r105 : List ByteArray) (s3658 : ByteArray) : Option (Bool) := ((frame_All.f k s3658).bind fun ⟨r3659, t3660⟩ => (if s3658.size + (a2.extract 0 ((mn (a2.size : Int) 100).toNat)).size ≤ 9223372036854775807 then ((frame_Scan.f k (s3658 ++ (a2.extract 0 ((mn (a2.size : Int) 100).toNat)))).bind fun ⟨r3665, t3666⟩ => (if (wrap64 ((s3658.size : Int) + 1)) ≠ 0 then (if 0 ≤ (wrap64 ((wrap64 ((a1.tmod (wrap64 ((s3658.size : Int) + 1))) + (s3658.size : Int))) + 1)).tmod (wrap64 ((s3658.size : Int) + 1)) then (if ((wrap64 ((wrap64 ((a1.tmod (wrap64 ((s3658.size : Int) + 1))) + (s3658.size : Int))) + 1)).tmod (wrap64 ((s3658.size : Int) + 1))) ≤ (s3658.size : Int) then ((frame_Scan.f k (s3658.extract 0 (((wrap64 ((wrap64 ((a1.tmod (wrap64 ((s3658.size : Int) + 1))) + (s3658.size : Int))) + 1)).tmod (wrap64 ((s3658.size : Int) + 1))).toNat))).bind fun ⟨r3673, t3674⟩ => (if t3660 = 0 then ((tarryref01_Same.f k r3659 r105).bind fun t3728 => (if t3728 = true then (if t3666 < (s3658.size : Int) then none else (if (r3665.length : Int) < (r105.length : Int) then none else (if t3674 > ((wrap64 ((wrap64 ((a1.tmod (wrap64 ((s3658.size : Int) + 1))) + (s3658.size : Int))) + 1)).tmod (wrap64 ((s3658.size : Int) + 1))) then none else (if (r3673.length : Int) > (r105.length : Int) then none else ((tarrylaw04_alive.f k).bind fun t3739 => (if t3739 = true then (if 0 ≤ (r105.length : Int) then (if (r105.length : Int) ≤ (r3665.length : Int) then ((tarryref01_Same.f k ((r3665.take ((r105.length : Int).toNat)).drop 0) r105).bind fun t3759 => (if t3759 = true then (if 0 ≤ (r3673.length : Int) then (if (r3673.length : Int) ≤ (r105.length : Int) then ((tarryref01_Same.f k r3673 ((r105.take ((r3673.length : Int).toNat)).drop 0)).bind fun t3766 => (some t3766)) else none) else none) else none)) else none) else none) else none)))))) else none)) else none)) else none) else none) else none)) else none))
def tarrylaw04_FrameBack.l3 (k : Nat) (a1 : Int) (a2 : ByteArray) (r105 : List ByteArray) : Nat → ByteArray → Int → Option (Bool)
  | 0, _, _ => none
  | ml3 + 1, s3602, i3603 => (if i3603 < (r105.length : Int) then (if 0 ≤ i3603 then ((r105[i3603.toNat]?).bind fun x3647 => ((frame_Frame.f k x3647).bind fun ⟨t3650, t3651⟩ => (if t3651 = 0 then (if s3602.size + t3650.size ≤ 9223372036854775807 then (tarrylaw04_FrameBack.l3 k a1 a2 r105 ml3 (s3602 ++ t3650) (wrap64 (i3603 + 1))) else none) else none))) else none) else (tarrylaw04_FrameBack.j2 k a1 a2 r105 s3602))
def tarrylaw04_FrameBack.f (k : Nat) (l0 : List ByteArray) (a1 : Int) (a2 : ByteArray) : Option (Bool) := ((tarrylaw04_few.f k l0).bind fun r105 => (if 0 ≤ mn (a2.size : Int) 100 then (if (mn (a2.size : Int) 100) ≤ (a2.size : Int) then (tarrylaw04_FrameBack.l3 k a1 a2 r105 k (⟨#[]⟩ : ByteArray) 0) else none) else none))
/-- THE ONE PURE STATEMENT. -/
def tarrylaw04_FrameBack.Pure : Prop := ∀ (l0 : List ByteArray) (a1 : Int) (a2 : ByteArray), allOk (fun x : ByteArray => x.size ≤ 9223372036854775807) l0 → (Lit.int .i64 a1).wf = true → a2.size ≤ 140737488351232 → ∃ k, tarrylaw04_FrameBack.f k l0 a1 a2 = some true

end Go.Proofs.Ytaolaicmfjdmhaa.PFrameBack
