/- Written by a program of this repo: what the program's functions do, each as a Lean function, shown of the loaded code; or a statement's row over that; no condition of its own. -/
import Derived.Test.YtaolaicmfjdmhaaProg
import Derived.Test.YtaolaicmfjdmhaaV17
namespace Go.Proofs.Ytaolaicmfjdmhaa.PFrameHurt
open Go Go.RowKit Go.Proofs.YtaolaicmfjdmhaaV
set_option linter.unusedVariables false
set_option linter.unusedSimpArgs false

def enc_str (x : ByteArray) : List Value := [.string x]
theorem enc_str_ok (a : ByteArray) : (enc_str a).length = 1 ∧ ∀ u ∈ enc_str a, u.oneCell' = true := ⟨rfl, by intro u hu; simp only [enc_str, List.mem_cons, List.not_mem_nil, or_false] at hu; rcases hu with rfl; rfl⟩
def enc_intu8 (x : Int) : List Value := [.int .u8 x]
theorem enc_intu8_ok (a : Int) : (enc_intu8 a).length = 1 ∧ ∀ u ∈ enc_intu8 a, u.oneCell' = true := ⟨rfl, by intro u hu; simp only [enc_intu8, List.mem_cons, List.not_mem_nil, or_false] at hu; rcases hu with rfl; rfl⟩
theorem VC.join0 {E : Env} {P : Program} {Q : Exit → Act → World → Prop} {s : St}  {c1 c2 : Code} (I : St) (F : Prop) (hx : VC P E c1 (Exit.then (fun a w => F ∧ Inv E (I) a w) Q) s) (hy : F → VC P E c2 Q (I)) : VC P E (.seq c1 c2) Q s :=
  fun a w hi => wpIn_seq (Code.wpIn_mono (fun e a w h => by
    cases e <;> first | exact h | (obtain ⟨hf, hi⟩ := h; exact hy  hf a w hi)) (hx a w hi))
theorem VN.meet0 {E : Env} {Q : Exit → Act → World → Prop} {s : St}  {I : St} {F : Prop}  (bs rs : List Nat) (hf : F) (hl : Le s (I) bs rs) : VN E (Exit.then (fun a w => F ∧ Inv E (I) a w) Q) s :=
  fun a w hi => ⟨hf, hi.le hl⟩
theorem VC.join1 {E : Env} {P : Program} {Q : Exit → Act → World → Prop} {s : St} {α0 : Type} {c1 c2 : Code} (I : α0 → St) (F : α0 → Prop) (hx : VC P E c1 (Exit.then (fun a w => ∃ (x0 : α0), F x0 ∧ Inv E (I x0) a w) Q) s) (hy : ∀ (x0 : α0), F x0 → VC P E c2 Q (I x0)) : VC P E (.seq c1 c2) Q s :=
  fun a w hi => wpIn_seq (Code.wpIn_mono (fun e a w h => by
    cases e <;> first | exact h | (obtain ⟨x0, hf, hi⟩ := h; exact hy x0 hf a w hi)) (hx a w hi))
theorem VN.meet1 {E : Env} {Q : Exit → Act → World → Prop} {s : St} {α0 : Type} {I : α0 → St} {F : α0 → Prop} (x0 : α0) (bs rs : List Nat) (hf : F x0) (hl : Le s (I x0) bs rs) : VN E (Exit.then (fun a w => ∃ (x0 : α0), F x0 ∧ Inv E (I x0) a w) Q) s :=
  fun a w hi => ⟨x0, hf, hi.le hl⟩
theorem VC.join2 {E : Env} {P : Program} {Q : Exit → Act → World → Prop} {s : St} {α0 : Type} {α1 : Type} {c1 c2 : Code} (I : α0 → α1 → St) (F : α0 → α1 → Prop) (hx : VC P E c1 (Exit.then (fun a w => ∃ (x0 : α0) (x1 : α1), F x0 x1 ∧ Inv E (I x0 x1) a w) Q) s) (hy : ∀ (x0 : α0) (x1 : α1), F x0 x1 → VC P E c2 Q (I x0 x1)) : VC P E (.seq c1 c2) Q s :=
  fun a w hi => wpIn_seq (Code.wpIn_mono (fun e a w h => by
    cases e <;> first | exact h | (obtain ⟨x0, x1, hf, hi⟩ := h; exact hy x0 x1 hf a w hi)) (hx a w hi))
theorem VN.meet2 {E : Env} {Q : Exit → Act → World → Prop} {s : St} {α0 : Type} {α1 : Type} {I : α0 → α1 → St} {F : α0 → α1 → Prop} (x0 : α0) (x1 : α1) (bs rs : List Nat) (hf : F x0 x1) (hl : Le s (I x0 x1) bs rs) : VN E (Exit.then (fun a w => ∃ (x0 : α0) (x1 : α1), F x0 x1 ∧ Inv E (I x0 x1) a w) Q) s :=
  fun a w hi => ⟨x0, x1, hf, hi.le hl⟩
theorem VC.loop1 {E : Env} {P : Program} {Q : Exit → Act → World → Prop} {s : St} {α0 : Type} {c : Code} (I : α0 → St) (F : Nat → α0 → Prop) (k : Nat) (x0 : α0) (bs rs : List Nat) (hf : F k x0) (hl : Le s (I x0) bs rs) (hz : ∀ (x0 : α0), ¬ F 0 x0) (h : ∀ k, (∀ (x0 : α0), F k x0 → VLp P E c Q k (I x0)) → ∀ (x0 : α0), F (k + 1) x0 → VC P E c (Exit.then (Code.roundsIn E.F 0 P c Q k) Q) (I x0)) : VC P E (.loop c) Q s := by
  have key : ∀ k (x0 : α0), F k x0 → VLp P E c Q k (I x0) := by
    intro k
    induction k with
    | zero => intro x0 hf; exact absurd hf (hz x0)
    | succ k ih => intro x0 hf; exact VLp.succ (h k ih x0 hf)
  exact fun a w hi => wpIn_loop_rounds k (key k x0 hf a w (hi.le hl))
theorem VC.loop2 {E : Env} {P : Program} {Q : Exit → Act → World → Prop} {s : St} {α0 : Type} {α1 : Type} {c : Code} (I : α0 → α1 → St) (F : Nat → α0 → α1 → Prop) (k : Nat) (x0 : α0) (x1 : α1) (bs rs : List Nat) (hf : F k x0 x1) (hl : Le s (I x0 x1) bs rs) (hz : ∀ (x0 : α0) (x1 : α1), ¬ F 0 x0 x1) (h : ∀ k, (∀ (x0 : α0) (x1 : α1), F k x0 x1 → VLp P E c Q k (I x0 x1)) → ∀ (x0 : α0) (x1 : α1), F (k + 1) x0 x1 → VC P E c (Exit.then (Code.roundsIn E.F 0 P c Q k) Q) (I x0 x1)) : VC P E (.loop c) Q s := by
  have key : ∀ k (x0 : α0) (x1 : α1), F k x0 x1 → VLp P E c Q k (I x0 x1) := by
    intro k
    induction k with
    | zero => intro x0 x1 hf; exact absurd hf (hz x0 x1)
    | succ k ih => intro x0 x1 hf; exact VLp.succ (h k ih x0 x1 hf)
  exact fun a w hi => wpIn_loop_rounds k (key k x0 x1 hf a w (hi.le hl))
theorem VC.loop3 {E : Env} {P : Program} {Q : Exit → Act → World → Prop} {s : St} {α0 : Type} {α1 : Type} {α2 : Type} {c : Code} (I : α0 → α1 → α2 → St) (F : Nat → α0 → α1 → α2 → Prop) (k : Nat) (x0 : α0) (x1 : α1) (x2 : α2) (bs rs : List Nat) (hf : F k x0 x1 x2) (hl : Le s (I x0 x1 x2) bs rs) (hz : ∀ (x0 : α0) (x1 : α1) (x2 : α2), ¬ F 0 x0 x1 x2) (h : ∀ k, (∀ (x0 : α0) (x1 : α1) (x2 : α2), F k x0 x1 x2 → VLp P E c Q k (I x0 x1 x2)) → ∀ (x0 : α0) (x1 : α1) (x2 : α2), F (k + 1) x0 x1 x2 → VC P E c (Exit.then (Code.roundsIn E.F 0 P c Q k) Q) (I x0 x1 x2)) : VC P E (.loop c) Q s := by
  have key : ∀ k (x0 : α0) (x1 : α1) (x2 : α2), F k x0 x1 x2 → VLp P E c Q k (I x0 x1 x2) := by
    intro k
    induction k with
    | zero => intro x0 x1 x2 hf; exact absurd hf (hz x0 x1 x2)
    | succ k ih => intro x0 x1 x2 hf; exact VLp.succ (h k ih x0 x1 x2 hf)
  exact fun a w hi => wpIn_loop_rounds k (key k x0 x1 x2 hf a w (hi.le hl))
theorem VC.loop4 {E : Env} {P : Program} {Q : Exit → Act → World → Prop} {s : St} {α0 : Type} {α1 : Type} {α2 : Type} {α3 : Type} {c : Code} (I : α0 → α1 → α2 → α3 → St) (F : Nat → α0 → α1 → α2 → α3 → Prop) (k : Nat) (x0 : α0) (x1 : α1) (x2 : α2) (x3 : α3) (bs rs : List Nat) (hf : F k x0 x1 x2 x3) (hl : Le s (I x0 x1 x2 x3) bs rs) (hz : ∀ (x0 : α0) (x1 : α1) (x2 : α2) (x3 : α3), ¬ F 0 x0 x1 x2 x3) (h : ∀ k, (∀ (x0 : α0) (x1 : α1) (x2 : α2) (x3 : α3), F k x0 x1 x2 x3 → VLp P E c Q k (I x0 x1 x2 x3)) → ∀ (x0 : α0) (x1 : α1) (x2 : α2) (x3 : α3), F (k + 1) x0 x1 x2 x3 → VC P E c (Exit.then (Code.roundsIn E.F 0 P c Q k) Q) (I x0 x1 x2 x3)) : VC P E (.loop c) Q s := by
  have key : ∀ k (x0 : α0) (x1 : α1) (x2 : α2) (x3 : α3), F k x0 x1 x2 x3 → VLp P E c Q k (I x0 x1 x2 x3) := by
    intro k
    induction k with
    | zero => intro x0 x1 x2 x3 hf; exact absurd hf (hz x0 x1 x2 x3)
    | succ k ih => intro x0 x1 x2 x3 hf; exact VLp.succ (h k ih x0 x1 x2 x3 hf)
  exact fun a w hi => wpIn_loop_rounds k (key k x0 x1 x2 x3 hf a w (hi.le hl))
theorem VC.stop0 {E : Env} {P : Program} {Q : Exit → Act → World → Prop} {s : St}  {c1 : Code} (I : St) (F : Prop) (hx : VC P E c1 (Exit.then (fun a w => F ∧ Inv E (I) a w) Q) s) (hy : F → VN E Q (I)) : VC P E c1 Q s :=
  fun a w hi => Code.wpIn_mono (fun e a w h => by
    cases e <;> first | exact h | (obtain ⟨hf, hi⟩ := h; exact hy  hf a w hi)) (hx a w hi)
theorem VC.stop1 {E : Env} {P : Program} {Q : Exit → Act → World → Prop} {s : St} {α0 : Type} {c1 : Code} (I : α0 → St) (F : α0 → Prop) (hx : VC P E c1 (Exit.then (fun a w => ∃ (x0 : α0), F x0 ∧ Inv E (I x0) a w) Q) s) (hy : ∀ (x0 : α0), F x0 → VN E Q (I x0)) : VC P E c1 Q s :=
  fun a w hi => Code.wpIn_mono (fun e a w h => by
    cases e <;> first | exact h | (obtain ⟨x0, hf, hi⟩ := h; exact hy x0 hf a w hi)) (hx a w hi)
theorem VC.stop2 {E : Env} {P : Program} {Q : Exit → Act → World → Prop} {s : St} {α0 : Type} {α1 : Type} {c1 : Code} (I : α0 → α1 → St) (F : α0 → α1 → Prop) (hx : VC P E c1 (Exit.then (fun a w => ∃ (x0 : α0) (x1 : α1), F x0 x1 ∧ Inv E (I x0 x1) a w) Q) s) (hy : ∀ (x0 : α0) (x1 : α1), F x0 x1 → VN E Q (I x0 x1)) : VC P E c1 Q s :=
  fun a w hi => Code.wpIn_mono (fun e a w h => by
    cases e <;> first | exact h | (obtain ⟨x0, x1, hf, hi⟩ := h; exact hy x0 x1 hf a w hi)) (hx a w hi)
theorem TI9 : TI Try.prog 9 false 1 := ⟨⟨_, Try.underlying9, rfl⟩, by kernel_rfl⟩
theorem Z9 : (Try.prog.info? 9).bind (·.zero) = some (.string (⟨#[]⟩ : ByteArray)) := by kernel_rfl
theorem EI9 : EI Try.prog 9 1 16 := ei_of (z := .string (⟨#[]⟩ : ByteArray)) (by kernel_rfl) rfl (by decide) (by decide)
theorem FO6 : FOk Try.prog 6 := ⟨_, Try.func6, by kernel_rfl, by kernel_rfl⟩
theorem FO25 : FOk Try.prog 25 := ⟨_, Try.func25, by kernel_rfl, by kernel_rfl⟩
theorem TI5 : TI Try.prog 5 false 1 := ⟨⟨_, Try.underlying5, rfl⟩, by kernel_rfl⟩
theorem Z5 : (Try.prog.info? 5).bind (·.zero) = some (.int .u8 0) := by kernel_rfl
theorem EI5 : EI Try.prog 5 1 1 := ei_of (z := .int .u8 0) (by kernel_rfl) rfl (by decide) (by decide)
theorem FO16 : FOk Try.prog 16 := ⟨_, Try.func16, by kernel_rfl, by kernel_rfl⟩
theorem Z56 : (Try.prog.info? 56).bind (·.zero) = some (.agg (ints .u32 (List.replicate 256 (0 : Int))).toArray) := by kernel_rfl
theorem ZL56 : (.agg (ints .u32 (List.replicate 256 (0 : Int))).toArray : Value).cells.toList = ints .u32 (List.replicate 256 (0 : Int)) := rfl
theorem TI23 : TI Try.prog 23 false 1 := ⟨⟨_, Try.underlying23, rfl⟩, by kernel_rfl⟩
theorem TI56 : TI Try.prog 56 true 256 := ⟨⟨_, Try.underlying56, rfl⟩, by kernel_rfl⟩
theorem FO31 : FOk Try.prog 31 := ⟨_, Try.func31, by kernel_rfl, by kernel_rfl⟩
theorem FO26 : FOk Try.prog 26 := ⟨_, Try.func26, by kernel_rfl, by kernel_rfl⟩
theorem FO18 : FOk Try.prog 18 := ⟨_, Try.func18, by kernel_rfl, by kernel_rfl⟩
theorem Z52 : (Try.prog.info? 52).bind (·.zero) = some (.agg (ints .u8 (List.replicate 4 (0 : Int))).toArray) := by kernel_rfl
theorem ZL52 : (.agg (ints .u8 (List.replicate 4 (0 : Int))).toArray : Value).cells.toList = ints .u8 (List.replicate 4 (0 : Int)) := rfl
theorem FO17 : FOk Try.prog 17 := ⟨_, Try.func17, by kernel_rfl, by kernel_rfl⟩
theorem FO8 : FOk Try.prog 8 := ⟨_, Try.func8, by kernel_rfl, by kernel_rfl⟩
theorem Z22 : (Try.prog.info? 22).bind (·.zero) = some (.slice none 0 0) := by kernel_rfl
theorem ZL22 : (.slice none 0 0 : Value).cells.toList = [.slice none 0 0] := rfl
theorem Z3 : (Try.prog.info? 3).bind (·.zero) = some (.int .i64 0) := by kernel_rfl
theorem ZL3 : (.int .i64 0 : Value).cells.toList = [.int .i64 0] := rfl
theorem TI3 : TI Try.prog 3 false 1 := ⟨⟨_, Try.underlying3, rfl⟩, by kernel_rfl⟩
theorem FO19 : FOk Try.prog 19 := ⟨_, Try.func19, by kernel_rfl, by kernel_rfl⟩
theorem FO27 : FOk Try.prog 27 := ⟨_, Try.func27, by kernel_rfl, by kernel_rfl⟩
theorem FO28 : FOk Try.prog 28 := ⟨_, Try.func28, by kernel_rfl, by kernel_rfl⟩
theorem TI22 : TI Try.prog 22 false 1 := ⟨⟨_, Try.underlying22, rfl⟩, by kernel_rfl⟩
theorem FO9 : FOk Try.prog 9 := ⟨_, Try.func9, by kernel_rfl, by kernel_rfl⟩
theorem FO7 : FOk Try.prog 7 := ⟨_, Try.func7, by kernel_rfl, by kernel_rfl⟩
theorem FO10 : FOk Try.prog 10 := ⟨_, Try.func10, by kernel_rfl, by kernel_rfl⟩
def tarrylaw04_few.l1 (k : Nat) (l0 : List ByteArray) : Nat → (List ByteArray) → Int → Option (List ByteArray)
  | 0, _, _ => none
  | ml1 + 1, l74, i76 => (if i76 < (((l0.take ((mn (l0.length : Int) 8).toNat)).drop 0).length : Int) then (if 0 ≤ i76 then ((((l0.take ((mn (l0.length : Int) 8).toNat)).drop 0)[i76.toNat]?).bind fun x95 => (if 0 ≤ mn (x95.size : Int) 100 then (if (mn (x95.size : Int) 100) ≤ (x95.size : Int) then (if (l74.length + ([x95.extract 0 ((mn (x95.size : Int) 100).toNat)] : List ByteArray).length) * 16 ≤ 140737488355328 then (tarrylaw04_few.l1 k l0 ml1 (l74 ++ ([x95.extract 0 ((mn (x95.size : Int) 100).toNat)] : List ByteArray)) (wrap64 (i76 + 1))) else none) else none) else none)) else none) else (some l74))
def tarrylaw04_few.f (k : Nat) (l0 : List ByteArray) : Option (List ByteArray) := (if 0 ≤ mn (l0.length : Int) 8 then (if (mn (l0.length : Int) 8) ≤ (l0.length : Int) then (tarrylaw04_few.l1 k l0 k ([] : List ByteArray) 0) else none) else none)
def pack_may.f (a0 : Int) : Option (Bool) := (if a0 ≥ (-1152921504606846976) then (some (decide (a0 ≤ 1152921504606846976))) else (some false))
def pack_Number.l1 (k : Nat)  : Nat → Int → (List Int) → Option (ByteArray × Int)
  | 0, _, _ => none
  | ml1 + 1, i183, l186 => (if i183 ≥ 128 then (if (l186.length + ([IntKind.u8.wrap (wrap64 ((i183.tmod 128) + 128))] : List Int).length) * 1 ≤ 140737488355328 then (pack_Number.l1 k ml1 (IntKind.i64.wrap (i183.tdiv 128)) (l186 ++ ([IntKind.u8.wrap (wrap64 ((i183.tmod 128) + 128))] : List Int))) else none) else (if (l186.length + ([IntKind.u8.wrap i183] : List Int).length) * 1 ≤ 140737488355328 then (some ((strOfNums (l186 ++ ([IntKind.u8.wrap i183] : List Int))), 0)) else none))
def pack_Number.l3 (k : Nat)  : Nat → Int → (List Int) → Option (ByteArray × Int)
  | 0, _, _ => none
  | ml3 + 1, i259, l262 => (if i259 ≥ 128 then (if (l262.length + ([IntKind.u8.wrap (wrap64 ((i259.tmod 128) + 128))] : List Int).length) * 1 ≤ 140737488355328 then (pack_Number.l3 k ml3 (IntKind.i64.wrap (i259.tdiv 128)) (l262 ++ ([IntKind.u8.wrap (wrap64 ((i259.tmod 128) + 128))] : List Int))) else none) else (if (l262.length + ([IntKind.u8.wrap i259] : List Int).length) * 1 ≤ 140737488355328 then (some ((strOfNums (l262 ++ ([IntKind.u8.wrap i259] : List Int))), 0)) else none))
def pack_Number.f (k : Nat) (a0 : Int) : Option (ByteArray × Int) := ((pack_may.f a0).bind fun t133 => (if t133 = true then (if a0 < 0 then (pack_Number.l1 k k (wrap64 ((wrap64 ((-2) * a0)) - 1)) ([] : List Int)) else (pack_Number.l3 k k (wrap64 (2 * a0)) ([] : List Int))) else (some ((⟨#[]⟩ : ByteArray), 1))))
def check_Table.l9 (k : Nat) (rec_l5 : Int → (List Int) → Option (List Int)) (i666 : Int) (l667 : List Int) : Nat → Int → Int → Option (List Int)
  | 0, _, _ => none
  | ml9 + 1, i838, i839 => (if i839 < 8 then (if (Go.bits .and .u32 i838 1) = 1 then (check_Table.l9 k rec_l5 i666 l667 ml9 (Go.bits .xor .u32 (i838.fdiv (2 ^ min (1 : Int).toNat IntKind.u32.bits)) 2197175160) (wrap64 (i839 + 1))) else (check_Table.l9 k rec_l5 i666 l667 ml9 (i838.fdiv (2 ^ min (1 : Int).toNat IntKind.u32.bits)) (wrap64 (i839 + 1)))) else (if 0 ≤ i666 then (if i666 < 256 then (if i666.toNat < l667.length then (rec_l5 (IntKind.u32.wrap (i666 + 1)) (l667.set i666.toNat i838)) else none) else none) else none))
def check_Table.l5 (k : Nat)  : Nat → Int → (List Int) → Option (List Int)
  | 0, _, _ => none
  | ml5 + 1, i666, l667 => (if i666 < 256 then (check_Table.l9 k (check_Table.l5 k ml5) i666 l667 k i666 0) else (if l667.length = 256 then (if (List.replicate 256 (0 : Int)).length = 256 then (some l667) else none) else none))
def check_Table.f (k : Nat)  : Option (List Int) := (check_Table.l5 k k 0 (List.replicate 256 (0 : Int)))
def check_On.l1 (k : Nat) (a1 : ByteArray) (r862 : List Int) : Nat → Int → Int → Option (Int)
  | 0, _, _ => none
  | ml1 + 1, i899, i900 => (if i900 < (a1.size : Int) then (if 0 ≤ i900 then (if i900 < (a1.size : Int) then (if 0 ≤ Go.bits .xor .u8 (IntKind.u8.wrap i899) (bt a1 i900) then (if (Go.bits .xor .u8 (IntKind.u8.wrap i899) (bt a1 i900)) < 256 then ((r862[(Go.bits .xor .u8 (IntKind.u8.wrap i899) (bt a1 i900)).toNat]?).bind fun t916 => (check_On.l1 k a1 r862 ml1 (Go.bits .xor .u32 (i899.fdiv (2 ^ min (8 : Int).toNat IntKind.u32.bits)) t916) (wrap64 (i900 + 1)))) else none) else none) else none) else none) else (some (Go.bits .xor .u32 i899 4294967295)))
def check_On.f (k : Nat) (a0 : Int) (a1 : ByteArray) : Option (Int) := ((check_Table.f k).bind fun r862 => (if r862.length = 256 then (if (List.replicate 256 (0 : Int)).length = 256 then (check_On.l1 k a1 r862 k (Go.bits .xor .u32 a0 4294967295) 0) else none) else none))
def check_Of.f (k : Nat) (a0 : ByteArray) : Option (Int) := ((check_On.f k 0 a0).bind fun t917 => (some t917))
def check_Bytes.l1 (k : Nat) (a0 : Int) : Nat → Int → (List Int) → Option (ByteArray)
  | 0, _, _ => none
  | ml1 + 1, i944, l945 => (if i944 < 4 then (if 0 ≤ wrap64 (8 * i944) then (if 0 ≤ i944 then (if i944 < 4 then (if i944.toNat < l945.length then (check_Bytes.l1 k a0 ml1 (wrap64 (i944 + 1)) (l945.set i944.toNat (IntKind.u8.wrap (a0.fdiv (2 ^ min (wrap64 (8 * i944)).toNat IntKind.u32.bits))))) else none) else none) else none) else none) else (if l945.length = 4 then (some (strOfNums l945)) else none))
def check_Bytes.f (k : Nat) (a0 : Int) : Option (ByteArray) := (check_Bytes.l1 k a0 k 0 (List.replicate 4 (0 : Int)))
def frame_Frame.f (k : Nat) (a0 : ByteArray) : Option (ByteArray × Int) := (if (a0.size : Int) > 4096 then (some ((⟨#[]⟩ : ByteArray), 3)) else ((pack_Number.f k (a0.size : Int)).bind fun ⟨t292, t293⟩ => (if t292.size + a0.size ≤ 9223372036854775807 then ((check_Of.f k a0).bind fun t919 => ((check_Bytes.f k t919).bind fun t962 => (if (t292 ++ a0).size + t962.size ≤ 9223372036854775807 then (some ((t292 ++ a0) ++ t962, 0)) else none))) else none)))
def pack_ReadNumber.j5 (k : Nat) (a0 : ByteArray) (i2081 : Int) (i2642 : Int) (q2643 : Bool) : Option (Int × ByteArray × Int) := (if (wrap64 (bt a0 i2081)) = 0 then (if i2081 > 0 then (some (0, (⟨#[]⟩ : ByteArray), 5)) else ((pack_may.f i2642).bind fun t2678 => (if t2678 = true then (if 0 ≤ wrap64 (i2081 + 1) then (if (wrap64 (i2081 + 1)) ≤ (a0.size : Int) then (some (i2642, a0.extract ((wrap64 (i2081 + 1)).toNat) a0.size, 0)) else none) else none) else (some (0, (⟨#[]⟩ : ByteArray), 5))))) else ((pack_may.f i2642).bind fun t2683 => (if t2683 = true then (if 0 ≤ wrap64 (i2081 + 1) then (if (wrap64 (i2081 + 1)) ≤ (a0.size : Int) then (some (i2642, a0.extract ((wrap64 (i2081 + 1)).toNat) a0.size, 0)) else none) else none) else (some (0, (⟨#[]⟩ : ByteArray), 5)))))
def pack_ReadNumber.l3 (k : Nat) (a0 : ByteArray) : Nat → Int → Int → Option (Int × ByteArray × Int)
  | 0, _, _ => none
  | ml3 + 1, i2080, i2081 => (if i2081 < (mn (a0.size : Int) 9) then (if 0 ≤ i2081 then (if i2081 < (a0.size : Int) then (if 0 ≤ wrap64 (7 * i2081) then (if (wrap64 (bt a0 i2081)) ≥ 128 then (pack_ReadNumber.l3 k a0 ml3 (Go.bits .or .i64 i2080 (IntKind.i64.wrap (((wrap64 (bt a0 i2081)).tmod 128) * 2 ^ min (wrap64 (7 * i2081)).toNat IntKind.i64.bits))) (wrap64 (i2081 + 1))) else (if ((Go.bits .or .i64 i2080 (IntKind.i64.wrap (((wrap64 (bt a0 i2081)).tmod 128) * 2 ^ min (wrap64 (7 * i2081)).toNat IntKind.i64.bits))).tmod 2) = 1 then (pack_ReadNumber.j5 k a0 i2081 (wrap64 ((wrap64 (0 - (IntKind.i64.wrap ((Go.bits .or .i64 i2080 (IntKind.i64.wrap (((wrap64 (bt a0 i2081)).tmod 128) * 2 ^ min (wrap64 (7 * i2081)).toNat IntKind.i64.bits))).tdiv 2)))) - 1)) true) else (pack_ReadNumber.j5 k a0 i2081 (IntKind.i64.wrap ((Go.bits .or .i64 i2080 (IntKind.i64.wrap (((wrap64 (bt a0 i2081)).tmod 128) * 2 ^ min (wrap64 (7 * i2081)).toNat IntKind.i64.bits))).tdiv 2)) false))) else none) else none) else none) else (if (a0.size : Int) ≥ 9 then (some (0, (⟨#[]⟩ : ByteArray), 3)) else (some (0, (⟨#[]⟩ : ByteArray), 4))))
def pack_ReadNumber.f (k : Nat) (a0 : ByteArray) : Option (Int × ByteArray × Int) := (pack_ReadNumber.l3 k a0 k 0 0)
def frame_Scan.l1 (k : Nat) (a0 : ByteArray) : Nat → ByteArray → Int → (List ByteArray) → Option (List ByteArray × Int)
  | 0, _, _, _ => none
  | ml1 + 1, s2951, i2952, l2955 => ((pack_ReadNumber.f k s2951).bind fun ⟨t3018, t3019, t3020⟩ => (if t3020 = 0 then (if t3018 < 0 then (some (l2955, wrap64 ((a0.size : Int) - i2952))) else (if t3018 > 4096 then (some (l2955, wrap64 ((a0.size : Int) - i2952))) else (if (wrap64 (t3018 + 4)) > (t3019.size : Int) then (some (l2955, wrap64 ((a0.size : Int) - i2952))) else (if 0 ≤ t3018 then (if t3018 ≤ (t3019.size : Int) then (if 0 ≤ wrap64 (t3018 + 4) then (if (wrap64 (t3018 + 4)) ≤ (t3019.size : Int) then (if t3018 ≤ (wrap64 (t3018 + 4)) then ((check_Of.f k (t3019.extract 0 t3018.toNat)).bind fun t3068 => ((check_Bytes.f k t3068).bind fun t3070 => (if ((t3019.extract t3018.toNat ((wrap64 (t3018 + 4)).toNat)) == t3070) = true then (if (l2955.length + ([t3019.extract 0 t3018.toNat] : List ByteArray).length) * 16 ≤ 140737488355328 then (frame_Scan.l1 k a0 ml1 (t3019.extract ((wrap64 (t3018 + 4)).toNat) t3019.size) ((t3019.extract ((wrap64 (t3018 + 4)).toNat) t3019.size).size : Int) (l2955 ++ ([t3019.extract 0 t3018.toNat] : List ByteArray))) else none) else (some (l2955, wrap64 ((a0.size : Int) - i2952)))))) else none) else none) else none) else none) else none)))) else (some (l2955, wrap64 ((a0.size : Int) - i2952)))))
def frame_Scan.f (k : Nat) (a0 : ByteArray) : Option (List ByteArray × Int) := (frame_Scan.l1 k a0 k a0 (a0.size : Int) ([] : List ByteArray))
def tarrylaw04_alive.f (k : Nat)  : Option (Bool) := ((frame_Frame.f k (⟨#[]⟩ : ByteArray)).bind fun ⟨t965, t966⟩ => ((frame_Scan.f k t965).bind fun ⟨r3079, t3080⟩ => (if t966 = 0 then (if (t965.size : Int) = 5 then (if (r3079.length : Int) = 1 then (some (t3080 == 5)) else (some false)) else (some false)) else (some false))))
def tarryref01_Same.l1 (k : Nat) (l0 : List ByteArray) (l1 : List ByteArray) : Nat → Int → Option (Bool)
  | 0, _ => none
  | ml1 + 1, i3574 => (if i3574 < (l0.length : Int) then (if 0 ≤ i3574 then ((l0[i3574.toNat]?).bind fun x3597 => ((l1[i3574.toNat]?).bind fun x3598 => (if (x3597 == x3598) = true then (tarryref01_Same.l1 k l0 l1 ml1 (wrap64 (i3574 + 1))) else (some false)))) else none) else (some true))
def tarryref01_Same.f (k : Nat) (l0 : List ByteArray) (l1 : List ByteArray) : Option (Bool) := (if (l0.length : Int) = (l1.length : Int) then (tarryref01_Same.l1 k l0 l1 k 0) else (some false))
def tarrylaw04_FrameHurt.l38 (k : Nat) (a1 : Int) (a2 : Int) (a3 : Int) (i6550 : Int) (r105 : List ByteArray) (s6549 : ByteArray) (x6552 : ByteArray) : Nat → Int → (List Int) → Option (Bool)
  | 0, _, _ => none
  | ml38 + 1, i6957, l6958 => (if i6957 < 32 then (if 0 ≤ i6957 then (if (Go.bits .and .u32 (a3.fdiv (2 ^ min i6957.toNat IntKind.u32.bits)) 1) = 1 then (if (wrap64 (((wrap64 ((a2.tmod (wrap64 (8 * (x6552.size : Int)))) + (wrap64 (8 * (x6552.size : Int))))).tmod (wrap64 (8 * (x6552.size : Int)))) + i6957)) < (wrap64 (8 * (x6552.size : Int))) then (if 0 ≤ wrap64 (i6550 + (IntKind.i64.wrap ((wrap64 (((wrap64 ((a2.tmod (wrap64 (8 * (x6552.size : Int)))) + (wrap64 (8 * (x6552.size : Int))))).tmod (wrap64 (8 * (x6552.size : Int)))) + i6957)).tdiv 8))) then (if (wrap64 (i6550 + (IntKind.i64.wrap ((wrap64 (((wrap64 ((a2.tmod (wrap64 (8 * (x6552.size : Int)))) + (wrap64 (8 * (x6552.size : Int))))).tmod (wrap64 (8 * (x6552.size : Int)))) + i6957)).tdiv 8)))) < (s6549.size : Int) then ((l6958[(wrap64 (i6550 + (IntKind.i64.wrap ((wrap64 (((wrap64 ((a2.tmod (wrap64 (8 * (x6552.size : Int)))) + (wrap64 (8 * (x6552.size : Int))))).tmod (wrap64 (8 * (x6552.size : Int)))) + i6957)).tdiv 8)))).toNat]?).bind fun t7049 => (if 0 ≤ (wrap64 (((wrap64 ((a2.tmod (wrap64 (8 * (x6552.size : Int)))) + (wrap64 (8 * (x6552.size : Int))))).tmod (wrap64 (8 * (x6552.size : Int)))) + i6957)).tmod 8 then (if ((wrap64 (i6550 + (IntKind.i64.wrap ((wrap64 (((wrap64 ((a2.tmod (wrap64 (8 * (x6552.size : Int)))) + (wrap64 (8 * (x6552.size : Int))))).tmod (wrap64 (8 * (x6552.size : Int)))) + i6957)).tdiv 8)))).toNat) < l6958.length then (tarrylaw04_FrameHurt.l38 k a1 a2 a3 i6550 r105 s6549 x6552 ml38 (wrap64 (i6957 + 1)) (l6958.set (wrap64 (i6550 + (IntKind.i64.wrap ((wrap64 (((wrap64 ((a2.tmod (wrap64 (8 * (x6552.size : Int)))) + (wrap64 (8 * (x6552.size : Int))))).tmod (wrap64 (8 * (x6552.size : Int)))) + i6957)).tdiv 8)))).toNat (Go.bits .xor .u8 t7049 (IntKind.u8.wrap ((1 : Int) * 2 ^ min ((wrap64 (((wrap64 ((a2.tmod (wrap64 (8 * (x6552.size : Int)))) + (wrap64 (8 * (x6552.size : Int))))).tmod (wrap64 (8 * (x6552.size : Int)))) + i6957)).tmod 8).toNat IntKind.u8.bits))))) else none) else none)) else none) else none) else (tarrylaw04_FrameHurt.l38 k a1 a2 a3 i6550 r105 s6549 x6552 ml38 (wrap64 (i6957 + 1)) l6958)) else (tarrylaw04_FrameHurt.l38 k a1 a2 a3 i6550 r105 s6549 x6552 ml38 (wrap64 (i6957 + 1)) l6958)) else none) else (if l6958.length = s6549.size then (if ((strOfNums l6958) == s6549) = true then ((tarrylaw04_alive.f k).bind fun t7060 => (some t7060)) else ((frame_Scan.f k (strOfNums l6958)).bind fun ⟨r7062, t7063⟩ => ((tarrylaw04_alive.f k).bind fun t7075 => (if t7075 = true then (if ((wrap64 ((a1.tmod (r105.length : Int)) + (r105.length : Int))).tmod (r105.length : Int)) ≤ (r105.length : Int) then ((tarryref01_Same.f k r7062 ((r105.take (((wrap64 ((a1.tmod (r105.length : Int)) + (r105.length : Int))).tmod (r105.length : Int)).toNat)).drop 0)).bind fun t7081 => (some t7081)) else none) else none)))) else none))
def tarrylaw04_FrameHurt.j36 (k : Nat) (a1 : Int) (a2 : Int) (a3 : Int) (i6550 : Int) (r105 : List ByteArray) (s6549 : ByteArray) (x6552 : ByteArray) (q6837 : Bool) : Option (Bool) := (if q6837 = true then ((tarrylaw04_alive.f k).bind fun t6839 => (some t6839)) else (if (wrap64 (8 * (x6552.size : Int))) ≠ 0 then (tarrylaw04_FrameHurt.l38 k a1 a2 a3 i6550 r105 s6549 x6552 k 0 (byI s6549)) else none))
def tarrylaw04_FrameHurt.j32 (k : Nat) (a1 : Int) (a2 : Int) (a3 : Int) (r105 : List ByteArray) (s6549 : ByteArray) (i6550 : Int) : Option (Bool) := (if 0 ≤ (wrap64 ((a1.tmod (r105.length : Int)) + (r105.length : Int))).tmod (r105.length : Int) then ((r105[((wrap64 ((a1.tmod (r105.length : Int)) + (r105.length : Int))).tmod (r105.length : Int)).toNat]?).bind fun x6552 => (if (wrap64 (8 * (x6552.size : Int))) = 0 then (tarrylaw04_FrameHurt.j36 k a1 a2 a3 i6550 r105 s6549 x6552 true) else (if i6550 < 0 then (tarrylaw04_FrameHurt.j36 k a1 a2 a3 i6550 r105 s6549 x6552 true) else (tarrylaw04_FrameHurt.j36 k a1 a2 a3 i6550 r105 s6549 x6552 (decide ((wrap64 (i6550 + (IntKind.i64.wrap ((wrap64 (8 * (x6552.size : Int))).tdiv 8)))) > (s6549.size : Int))))))) else none)
def tarrylaw04_FrameHurt.l33 (k : Nat) (a1 : Int) (a2 : Int) (a3 : Int) (r105 : List ByteArray) : Nat → ByteArray → Int → Int → Option (Bool)
  | 0, _, _, _ => none
  | ml33 + 1, s6472, i6473, i6474 => (if i6474 < (r105.length : Int) then (if 0 ≤ i6474 then ((r105[i6474.toNat]?).bind fun x6533 => ((frame_Frame.f k x6533).bind fun ⟨t6536, t6537⟩ => (if t6537 = 0 then (if i6474 = ((wrap64 ((a1.tmod (r105.length : Int)) + (r105.length : Int))).tmod (r105.length : Int)) then (if s6472.size + t6536.size ≤ 9223372036854775807 then (tarrylaw04_FrameHurt.l33 k a1 a2 a3 r105 ml33 (s6472 ++ t6536) (wrap64 ((wrap64 ((wrap64 ((s6472.size : Int) + (t6536.size : Int))) - 4)) - (x6533.size : Int))) (wrap64 (i6474 + 1))) else none) else (if s6472.size + t6536.size ≤ 9223372036854775807 then (tarrylaw04_FrameHurt.l33 k a1 a2 a3 r105 ml33 (s6472 ++ t6536) i6473 (wrap64 (i6474 + 1))) else none)) else none))) else none) else (tarrylaw04_FrameHurt.j32 k a1 a2 a3 r105 s6472 i6473))
def tarrylaw04_FrameHurt.j19 (k : Nat) (a1 : Int) (a2 : Int) (a3 : Int) (r105 : List ByteArray) (q5142 : Bool) : Option (Bool) := (if q5142 = true then ((tarrylaw04_alive.f k).bind fun t5144 => (some t5144)) else (if (r105.length : Int) ≠ 0 then (tarrylaw04_FrameHurt.l33 k a1 a2 a3 r105 k (⟨#[]⟩ : ByteArray) 0 0) else none))
def tarrylaw04_FrameHurt.f (k : Nat) (l0 : List ByteArray) (a1 : Int) (a2 : Int) (a3 : Int) : Option (Bool) := ((tarrylaw04_few.f k l0).bind fun r105 => (if (r105.length : Int) = 0 then (tarrylaw04_FrameHurt.j19 k a1 a2 a3 r105 true) else (tarrylaw04_FrameHurt.j19 k a1 a2 a3 r105 (a3 == 0))))
/-- THE ONE PURE STATEMENT. -/
def tarrylaw04_FrameHurt.Pure : Prop := ∀ (l0 : List ByteArray) (a1 : Int) (a2 : Int) (a3 : Int), allOk (fun x : ByteArray => x.size ≤ 9223372036854775807) l0 → (Lit.int .i64 a1).wf = true → (Lit.int .i64 a2).wf = true → (Lit.int .u32 a3).wf = true → ∃ k, tarrylaw04_FrameHurt.f k l0 a1 a2 a3 = some true

end Go.Proofs.Ytaolaicmfjdmhaa.PFrameHurt
