/- Written by a program of this repo: what the program's functions do, each as a Lean function, shown of the loaded code; or a statement's row over that; no condition of its own. -/
import Derived.Test.YtacenfolbmdpoaaProg
import Derived.Test.YtacenfolbmdpoaaV20
import Derived.Test.YtacenfolbmdpoaaV22
namespace Go.Proofs.Ytacenfolbmdpoaa.PPackBack
open Go Go.RowKit Go.Proofs.YtacenfolbmdpoaaV
set_option linter.unusedVariables false
set_option linter.unusedSimpArgs false

def enc_str (x : ByteArray) : List Value := [.string x]
theorem enc_str_ok (a : ByteArray) : (enc_str a).length = 1 ∧ ∀ u ∈ enc_str a, u.oneCell' = true := ⟨rfl, by intro u hu; simp only [enc_str, List.mem_cons, List.not_mem_nil, or_false] at hu; rcases hu with rfl; rfl⟩
def enc_intu8 (x : Int) : List Value := [.int .u8 x]
theorem enc_intu8_ok (a : Int) : (enc_intu8 a).length = 1 ∧ ∀ u ∈ enc_intu8 a, u.oneCell' = true := ⟨rfl, by intro u hu; simp only [enc_intu8, List.mem_cons, List.not_mem_nil, or_false] at hu; rcases hu with rfl; rfl⟩
theorem VC.join0 {E : Env} {P : Program} {Q : Exit → Act → World → Prop} {s : St}  {c1 c2 : Code} (I : St) (F : Prop) (hx : VC P E c1 (Exit.then (fun a w => F ∧ Inv E (I) a w) Q) s) (hy : F → VC P E c2 Q (I)) : VC P E (.seq c1 c2) Q s :=
  fun a w hi => wpIn_seq (Code.wpIn_mono (fun e a w h => by
    cases e <;> first | exact h | (obtain ⟨hf, hi⟩ := h; exact hy  hf a w hi)) (hx a w hi))
theorem VN.meet0 {E : Env} {Q : Exit → Act → World → Prop} {s : St}  {I : St} {F : Prop}  (bs rs : List Nat) (hf : F) (hl : Le s (I) bs rs) : VN E (Exit.then (fun a w => F ∧ Inv E (I) a w) Q) s :=
  fun a w hi => ⟨hf, hi.le hl⟩
theorem VC.join1 {E : Env} {P : Program} {Q : Exit → Act → World → Prop} {s : St} {α0 : Type} {c1 c2 : Code} (I : α0 → St) (F : α0 → Prop) (hx : VC P E c1 (Exit.then (fun a w => ∃ (x0 : α0), F x0 ∧ Inv E (I x0) a w) Q) s) (hy : ∀ (x0 : α0), F x0 → VC P E c2 Q (I x0)) : VC P E (.seq c1 c2) Q s :=
  fun a w hi => wpIn_seq (Code.wpIn_mono (fun e a w h => by
    cases e <;> first | exact h | (obtain ⟨x0, hf, hi⟩ := h; exact hy x0 hf a w hi)) (hx a w hi))
theorem VN.meet1 {E : Env} {Q : Exit → Act → World → Prop} {s : St} {α0 : Type} {I : α0 → St} {F : α0 → Prop} (x0 : α0) (bs rs : List Nat) (hf : F x0) (hl : Le s (I x0) bs rs) : VN E (Exit.then (fun a w => ∃ (x0 : α0), F x0 ∧ Inv E (I x0) a w) Q) s :=
  fun a w hi => ⟨x0, hf, hi.le hl⟩
theorem VC.join2 {E : Env} {P : Program} {Q : Exit → Act → World → Prop} {s : St} {α0 : Type} {α1 : Type} {c1 c2 : Code} (I : α0 → α1 → St) (F : α0 → α1 → Prop) (hx : VC P E c1 (Exit.then (fun a w => ∃ (x0 : α0) (x1 : α1), F x0 x1 ∧ Inv E (I x0 x1) a w) Q) s) (hy : ∀ (x0 : α0) (x1 : α1), F x0 x1 → VC P E c2 Q (I x0 x1)) : VC P E (.seq c1 c2) Q s :=
  fun a w hi => wpIn_seq (Code.wpIn_mono (fun e a w h => by
    cases e <;> first | exact h | (obtain ⟨x0, x1, hf, hi⟩ := h; exact hy x0 x1 hf a w hi)) (hx a w hi))
theorem VN.meet2 {E : Env} {Q : Exit → Act → World → Prop} {s : St} {α0 : Type} {α1 : Type} {I : α0 → α1 → St} {F : α0 → α1 → Prop} (x0 : α0) (x1 : α1) (bs rs : List Nat) (hf : F x0 x1) (hl : Le s (I x0 x1) bs rs) : VN E (Exit.then (fun a w => ∃ (x0 : α0) (x1 : α1), F x0 x1 ∧ Inv E (I x0 x1) a w) Q) s :=
  fun a w hi => ⟨x0, x1, hf, hi.le hl⟩
theorem VC.loop1 {E : Env} {P : Program} {Q : Exit → Act → World → Prop} {s : St} {α0 : Type} {c : Code} (I : α0 → St) (F : Nat → α0 → Prop) (k : Nat) (x0 : α0) (bs rs : List Nat) (hf : F k x0) (hl : Le s (I x0) bs rs) (hz : ∀ (x0 : α0), ¬ F 0 x0) (h : ∀ k, (∀ (x0 : α0), F k x0 → VLp P E c Q k (I x0)) → ∀ (x0 : α0), F (k + 1) x0 → VC P E c (Exit.then (Code.roundsIn E.F 0 P c Q k) Q) (I x0)) : VC P E (.loop c) Q s := by
  have key : ∀ k (x0 : α0), F k x0 → VLp P E c Q k (I x0) := by
    intro k
    induction k with
    | zero => intro x0 hf; exact absurd hf (hz x0)
    | succ k ih => intro x0 hf; exact VLp.succ (h k ih x0 hf)
  exact fun a w hi => wpIn_loop_rounds k (key k x0 hf a w (hi.le hl))
theorem VC.loop2 {E : Env} {P : Program} {Q : Exit → Act → World → Prop} {s : St} {α0 : Type} {α1 : Type} {c : Code} (I : α0 → α1 → St) (F : Nat → α0 → α1 → Prop) (k : Nat) (x0 : α0) (x1 : α1) (bs rs : List Nat) (hf : F k x0 x1) (hl : Le s (I x0 x1) bs rs) (hz : ∀ (x0 : α0) (x1 : α1), ¬ F 0 x0 x1) (h : ∀ k, (∀ (x0 : α0) (x1 : α1), F k x0 x1 → VLp P E c Q k (I x0 x1)) → ∀ (x0 : α0) (x1 : α1), F (k + 1) x0 x1 → VC P E c (Exit.then (Code.roundsIn E.F 0 P c Q k) Q) (I x0 x1)) : VC P E (.loop c) Q s := by
  have key : ∀ k (x0 : α0) (x1 : α1), F k x0 x1 → VLp P E c Q k (I x0 x1) := by
    intro k
    induction k with
    | zero => intro x0 x1 hf; exact absurd hf (hz x0 x1)
    | succ k ih => intro x0 x1 hf; exact VLp.succ (h k ih x0 x1 hf)
  exact fun a w hi => wpIn_loop_rounds k (key k x0 x1 hf a w (hi.le hl))
theorem VC.loop3 {E : Env} {P : Program} {Q : Exit → Act → World → Prop} {s : St} {α0 : Type} {α1 : Type} {α2 : Type} {c : Code} (I : α0 → α1 → α2 → St) (F : Nat → α0 → α1 → α2 → Prop) (k : Nat) (x0 : α0) (x1 : α1) (x2 : α2) (bs rs : List Nat) (hf : F k x0 x1 x2) (hl : Le s (I x0 x1 x2) bs rs) (hz : ∀ (x0 : α0) (x1 : α1) (x2 : α2), ¬ F 0 x0 x1 x2) (h : ∀ k, (∀ (x0 : α0) (x1 : α1) (x2 : α2), F k x0 x1 x2 → VLp P E c Q k (I x0 x1 x2)) → ∀ (x0 : α0) (x1 : α1) (x2 : α2), F (k + 1) x0 x1 x2 → VC P E c (Exit.then (Code.roundsIn E.F 0 P c Q k) Q) (I x0 x1 x2)) : VC P E (.loop c) Q s := by
  have key : ∀ k (x0 : α0) (x1 : α1) (x2 : α2), F k x0 x1 x2 → VLp P E c Q k (I x0 x1 x2) := by
    intro k
    induction k with
    | zero => intro x0 x1 x2 hf; exact absurd hf (hz x0 x1 x2)
    | succ k ih => intro x0 x1 x2 hf; exact VLp.succ (h k ih x0 x1 x2 hf)
  exact fun a w hi => wpIn_loop_rounds k (key k x0 x1 x2 hf a w (hi.le hl))
theorem VC.loop4 {E : Env} {P : Program} {Q : Exit → Act → World → Prop} {s : St} {α0 : Type} {α1 : Type} {α2 : Type} {α3 : Type} {c : Code} (I : α0 → α1 → α2 → α3 → St) (F : Nat → α0 → α1 → α2 → α3 → Prop) (k : Nat) (x0 : α0) (x1 : α1) (x2 : α2) (x3 : α3) (bs rs : List Nat) (hf : F k x0 x1 x2 x3) (hl : Le s (I x0 x1 x2 x3) bs rs) (hz : ∀ (x0 : α0) (x1 : α1) (x2 : α2) (x3 : α3), ¬ F 0 x0 x1 x2 x3) (h : ∀ k, (∀ (x0 : α0) (x1 : α1) (x2 : α2) (x3 : α3), F k x0 x1 x2 x3 → VLp P E c Q k (I x0 x1 x2 x3)) → ∀ (x0 : α0) (x1 : α1) (x2 : α2) (x3 : α3), F (k + 1) x0 x1 x2 x3 → VC P E c (Exit.then (Code.roundsIn E.F 0 P c Q k) Q) (I x0 x1 x2 x3)) : VC P E (.loop c) Q s := by
  have key : ∀ k (x0 : α0) (x1 : α1) (x2 : α2) (x3 : α3), F k x0 x1 x2 x3 → VLp P E c Q k (I x0 x1 x2 x3) := by
    intro k
    induction k with
    | zero => intro x0 x1 x2 x3 hf; exact absurd hf (hz x0 x1 x2 x3)
    | succ k ih => intro x0 x1 x2 x3 hf; exact VLp.succ (h k ih x0 x1 x2 x3 hf)
  exact fun a w hi => wpIn_loop_rounds k (key k x0 x1 x2 x3 hf a w (hi.le hl))
theorem VC.stop0 {E : Env} {P : Program} {Q : Exit → Act → World → Prop} {s : St}  {c1 : Code} (I : St) (F : Prop) (hx : VC P E c1 (Exit.then (fun a w => F ∧ Inv E (I) a w) Q) s) (hy : F → VN E Q (I)) : VC P E c1 Q s :=
  fun a w hi => Code.wpIn_mono (fun e a w h => by
    cases e <;> first | exact h | (obtain ⟨hf, hi⟩ := h; exact hy  hf a w hi)) (hx a w hi)
theorem VC.stop1 {E : Env} {P : Program} {Q : Exit → Act → World → Prop} {s : St} {α0 : Type} {c1 : Code} (I : α0 → St) (F : α0 → Prop) (hx : VC P E c1 (Exit.then (fun a w => ∃ (x0 : α0), F x0 ∧ Inv E (I x0) a w) Q) s) (hy : ∀ (x0 : α0), F x0 → VN E Q (I x0)) : VC P E c1 Q s :=
  fun a w hi => Code.wpIn_mono (fun e a w h => by
    cases e <;> first | exact h | (obtain ⟨x0, hf, hi⟩ := h; exact hy x0 hf a w hi)) (hx a w hi)
theorem VC.stop2 {E : Env} {P : Program} {Q : Exit → Act → World → Prop} {s : St} {α0 : Type} {α1 : Type} {c1 : Code} (I : α0 → α1 → St) (F : α0 → α1 → Prop) (hx : VC P E c1 (Exit.then (fun a w => ∃ (x0 : α0) (x1 : α1), F x0 x1 ∧ Inv E (I x0 x1) a w) Q) s) (hy : ∀ (x0 : α0) (x1 : α1), F x0 x1 → VN E Q (I x0 x1)) : VC P E c1 Q s :=
  fun a w hi => Code.wpIn_mono (fun e a w h => by
    cases e <;> first | exact h | (obtain ⟨x0, x1, hf, hi⟩ := h; exact hy x0 x1 hf a w hi)) (hx a w hi)
theorem TI9 : TI Try.prog 9 false 1 := ⟨⟨_, Try.underlying9, rfl⟩, by kernel_rfl⟩
theorem Z9 : (Try.prog.info? 9).bind (·.zero) = some (.string (⟨#[]⟩ : ByteArray)) := by kernel_rfl
theorem EI9 : EI Try.prog 9 1 16 := ei_of (z := .string (⟨#[]⟩ : ByteArray)) (by kernel_rfl) rfl (by decide) (by decide)
theorem FO17 : FOk Try.prog 17 := ⟨_, Try.func17, by kernel_rfl, by kernel_rfl⟩
theorem FO24 : FOk Try.prog 24 := ⟨_, Try.func24, by kernel_rfl, by kernel_rfl⟩
theorem TI5 : TI Try.prog 5 false 1 := ⟨⟨_, Try.underlying5, rfl⟩, by kernel_rfl⟩
theorem Z5 : (Try.prog.info? 5).bind (·.zero) = some (.int .u8 0) := by kernel_rfl
theorem EI5 : EI Try.prog 5 1 1 := ei_of (z := .int .u8 0) (by kernel_rfl) rfl (by decide) (by decide)
theorem FO8 : FOk Try.prog 8 := ⟨_, Try.func8, by kernel_rfl, by kernel_rfl⟩
theorem FO9 : FOk Try.prog 9 := ⟨_, Try.func9, by kernel_rfl, by kernel_rfl⟩
theorem FO27 : FOk Try.prog 27 := ⟨_, Try.func27, by kernel_rfl, by kernel_rfl⟩
theorem FO28 : FOk Try.prog 28 := ⟨_, Try.func28, by kernel_rfl, by kernel_rfl⟩
theorem FO29 : FOk Try.prog 29 := ⟨_, Try.func29, by kernel_rfl, by kernel_rfl⟩
theorem FO18 : FOk Try.prog 18 := ⟨_, Try.func18, by kernel_rfl, by kernel_rfl⟩
theorem FO30 : FOk Try.prog 30 := ⟨_, Try.func30, by kernel_rfl, by kernel_rfl⟩
theorem FO19 : FOk Try.prog 19 := ⟨_, Try.func19, by kernel_rfl, by kernel_rfl⟩
theorem FO21 : FOk Try.prog 21 := ⟨_, Try.func21, by kernel_rfl, by kernel_rfl⟩
theorem FO11 : FOk Try.prog 11 := ⟨_, Try.func11, by kernel_rfl, by kernel_rfl⟩
def tarrylaw01_few.l1 (k : Nat) (l0 : List ByteArray) : Nat → (List ByteArray) → Int → Option (List ByteArray)
  | 0, _, _ => none
  | ml1 + 1, l74, i76 => (if i76 < (((l0.take ((mn (l0.length : Int) 258).toNat)).drop 0).length : Int) then (if 0 ≤ i76 then ((((l0.take ((mn (l0.length : Int) 258).toNat)).drop 0)[i76.toNat]?).bind fun x95 => (if 0 ≤ mn (x95.size : Int) 4100 then (if (mn (x95.size : Int) 4100) ≤ (x95.size : Int) then (if (l74.length + ([x95.extract 0 ((mn (x95.size : Int) 4100).toNat)] : List ByteArray).length) * 16 ≤ 140737488355328 then (tarrylaw01_few.l1 k l0 ml1 (l74 ++ ([x95.extract 0 ((mn (x95.size : Int) 4100).toNat)] : List ByteArray)) (wrap64 (i76 + 1))) else none) else none) else none)) else none) else (some l74))
def tarrylaw01_few.f (k : Nat) (l0 : List ByteArray) : Option (List ByteArray) := (if 0 ≤ mn (l0.length : Int) 258 then (if (mn (l0.length : Int) 258) ≤ (l0.length : Int) then (tarrylaw01_few.l1 k l0 k ([] : List ByteArray) 0) else none) else none)
def pack_may.f (a0 : Int) : Option (Bool) := (if a0 ≥ (-1152921504606846976) then (some (decide (a0 ≤ 1152921504606846976))) else (some false))
def pack_Number.l1 (k : Nat)  : Nat → Int → (List Int) → Option (ByteArray × Int)
  | 0, _, _ => none
  | ml1 + 1, i176, l179 => (if i176 ≥ 128 then (if (l179.length + ([IntKind.u8.wrap (wrap64 ((i176.tmod 128) + 128))] : List Int).length) * 1 ≤ 140737488355328 then (pack_Number.l1 k ml1 (IntKind.i64.wrap (i176.tdiv 128)) (l179 ++ ([IntKind.u8.wrap (wrap64 ((i176.tmod 128) + 128))] : List Int))) else none) else (if (l179.length + ([IntKind.u8.wrap i176] : List Int).length) * 1 ≤ 140737488355328 then (some ((strOfNums (l179 ++ ([IntKind.u8.wrap i176] : List Int))), 0)) else none))
def pack_Number.l3 (k : Nat)  : Nat → Int → (List Int) → Option (ByteArray × Int)
  | 0, _, _ => none
  | ml3 + 1, i252, l255 => (if i252 ≥ 128 then (if (l255.length + ([IntKind.u8.wrap (wrap64 ((i252.tmod 128) + 128))] : List Int).length) * 1 ≤ 140737488355328 then (pack_Number.l3 k ml3 (IntKind.i64.wrap (i252.tdiv 128)) (l255 ++ ([IntKind.u8.wrap (wrap64 ((i252.tmod 128) + 128))] : List Int))) else none) else (if (l255.length + ([IntKind.u8.wrap i252] : List Int).length) * 1 ≤ 140737488355328 then (some ((strOfNums (l255 ++ ([IntKind.u8.wrap i252] : List Int))), 0)) else none))
def pack_Number.f (k : Nat) (a0 : Int) : Option (ByteArray × Int) := ((pack_may.f a0).bind fun t126 => (if t126 = true then (if a0 < 0 then (pack_Number.l1 k k (wrap64 ((wrap64 ((-2) * a0)) - 1)) ([] : List Int)) else (pack_Number.l3 k k (wrap64 (2 * a0)) ([] : List Int))) else (some ((⟨#[]⟩ : ByteArray), 1))))
def pack_ReadNumber.j5 (k : Nat) (a0 : ByteArray) (i1398 : Int) (i1959 : Int) (q1960 : Bool) : Option (Int × ByteArray × Int) := (if (wrap64 (bt a0 i1398)) = 0 then (if i1398 > 0 then (some (0, (⟨#[]⟩ : ByteArray), 5)) else ((pack_may.f i1959).bind fun t1995 => (if t1995 = true then (if 0 ≤ wrap64 (i1398 + 1) then (if (wrap64 (i1398 + 1)) ≤ (a0.size : Int) then (some (i1959, a0.extract ((wrap64 (i1398 + 1)).toNat) a0.size, 0)) else none) else none) else (some (0, (⟨#[]⟩ : ByteArray), 5))))) else ((pack_may.f i1959).bind fun t2000 => (if t2000 = true then (if 0 ≤ wrap64 (i1398 + 1) then (if (wrap64 (i1398 + 1)) ≤ (a0.size : Int) then (some (i1959, a0.extract ((wrap64 (i1398 + 1)).toNat) a0.size, 0)) else none) else none) else (some (0, (⟨#[]⟩ : ByteArray), 5)))))
def pack_ReadNumber.l3 (k : Nat) (a0 : ByteArray) : Nat → Int → Int → Option (Int × ByteArray × Int)
  | 0, _, _ => none
  | ml3 + 1, i1397, i1398 => (if i1398 < (mn (a0.size : Int) 9) then (if 0 ≤ i1398 then (if i1398 < (a0.size : Int) then (if 0 ≤ wrap64 (7 * i1398) then (if (wrap64 (bt a0 i1398)) ≥ 128 then (pack_ReadNumber.l3 k a0 ml3 (Go.bits .or .i64 i1397 (IntKind.i64.wrap (((wrap64 (bt a0 i1398)).tmod 128) * 2 ^ min (wrap64 (7 * i1398)).toNat IntKind.i64.bits))) (wrap64 (i1398 + 1))) else (if ((Go.bits .or .i64 i1397 (IntKind.i64.wrap (((wrap64 (bt a0 i1398)).tmod 128) * 2 ^ min (wrap64 (7 * i1398)).toNat IntKind.i64.bits))).tmod 2) = 1 then (pack_ReadNumber.j5 k a0 i1398 (wrap64 ((wrap64 (0 - (IntKind.i64.wrap ((Go.bits .or .i64 i1397 (IntKind.i64.wrap (((wrap64 (bt a0 i1398)).tmod 128) * 2 ^ min (wrap64 (7 * i1398)).toNat IntKind.i64.bits))).tdiv 2)))) - 1)) true) else (pack_ReadNumber.j5 k a0 i1398 (IntKind.i64.wrap ((Go.bits .or .i64 i1397 (IntKind.i64.wrap (((wrap64 (bt a0 i1398)).tmod 128) * 2 ^ min (wrap64 (7 * i1398)).toNat IntKind.i64.bits))).tdiv 2)) false))) else none) else none) else none) else (if (a0.size : Int) ≥ 9 then (some (0, (⟨#[]⟩ : ByteArray), 3)) else (some (0, (⟨#[]⟩ : ByteArray), 4))))
def pack_ReadNumber.f (k : Nat) (a0 : ByteArray) : Option (Int × ByteArray × Int) := (pack_ReadNumber.l3 k a0 k 0 0)
def pack_number.f (k : Nat) (a0 : Int) : Option (ByteArray) := ((pack_Number.f k a0).bind fun ⟨t2045, t2046⟩ => (some t2045))
def pack_Row.ok1 (k : Nat) (s : ByteArray) : Bool := decide (4096 < s.size) || (pack_number.f k (s.size : Int)).elim false fun n => decide (n.size ≤ 100)
def pack_Row.q (k : Nat) (s : ByteArray) : ByteArray := (pack_number.f k (s.size : Int)).getD ⟨#[]⟩ ++ s
def pack_Row.f (k : Nat) (l0 : List ByteArray) : Option (ByteArray × Int) := if l0.all (pack_Row.ok1 k) = true then (if l0.length ≤ 256 ∧ l0.all (fun s => decide (s.size ≤ 4096)) = true then (pack_number.f k (l0.length : Int)).bind fun h => (if ((l0.map (pack_Row.q k)).foldl (fun r s => r ++ s) h).size ≤ 140737488355328 then some ((l0.map (pack_Row.q k)).foldl (fun r s => r ++ s) h, 0) else none) else some (⟨#[]⟩, 3)) else none
def pack_count.f (k : Nat) (a0 : ByteArray) (a1 : Int) : Option (Int × ByteArray × Int) := ((pack_ReadNumber.f k a0).bind fun ⟨t2053, t2054, t2055⟩ => (if t2055 = 0 then (if t2053 > a1 then (some (0, (⟨#[]⟩ : ByteArray), 3)) else (if t2053 < 0 then (some (0, (⟨#[]⟩ : ByteArray), 5)) else (some (t2053, t2054, 0)))) else (some (0, (⟨#[]⟩ : ByteArray), t2055))))
def pack_ReadRow.l1 (k : Nat) (t2069 : Int) : Nat → ByteArray → (List ByteArray) → Int → Option (List ByteArray × Int)
  | 0, _, _, _ => none
  | ml1 + 1, s2260, l2263, i2265 => (if i2265 < t2069 then ((pack_count.f k s2260 4096).bind fun ⟨t2339, t2340, t2341⟩ => (if t2341 = 0 then (if t2339 > (t2340.size : Int) then (some (([] : List ByteArray), 4)) else (if 0 ≤ t2339 then (if t2339 ≤ (t2340.size : Int) then (if (l2263.length + ([t2340.extract 0 t2339.toNat] : List ByteArray).length) * 16 ≤ 140737488355328 then (pack_ReadRow.l1 k t2069 ml1 (t2340.extract t2339.toNat t2340.size) (l2263 ++ ([t2340.extract 0 t2339.toNat] : List ByteArray)) (wrap64 (i2265 + 1))) else none) else none) else none)) else (some (([] : List ByteArray), t2341)))) else (if (s2260 == (⟨#[]⟩ : ByteArray)) = true then (some (l2263, 0)) else (some (([] : List ByteArray), 5))))
def pack_ReadRow.f (k : Nat) (a0 : ByteArray) : Option (List ByteArray × Int) := ((pack_count.f k a0 256).bind fun ⟨t2069, t2070, t2071⟩ => (if t2071 = 0 then (pack_ReadRow.l1 k t2069 k t2070 ([] : List ByteArray) 0) else (some (([] : List ByteArray), t2071))))
def tarryref01_Same.l1 (k : Nat) (l0 : List ByteArray) (l1 : List ByteArray) : Nat → Int → Option (Bool)
  | 0, _ => none
  | ml1 + 1, i2435 => (if i2435 < (l0.length : Int) then (if 0 ≤ i2435 then ((l0[i2435.toNat]?).bind fun x2458 => ((l1[i2435.toNat]?).bind fun x2459 => (if (x2458 == x2459) = true then (tarryref01_Same.l1 k l0 l1 ml1 (wrap64 (i2435 + 1))) else (some false)))) else none) else (some true))
def tarryref01_Same.f (k : Nat) (l0 : List ByteArray) (l1 : List ByteArray) : Option (Bool) := (if (l0.length : Int) = (l1.length : Int) then (tarryref01_Same.l1 k l0 l1 k 0) else (some false))
def tarrylaw01_alive.f (k : Nat)  : Option (Bool) := ((pack_Number.f k 64).bind fun ⟨t2533, t2534⟩ => ((pack_Number.f k (-1)).bind fun ⟨t2536, t2537⟩ => (if t2534 = 0 then (if t2537 = 0 then (if (t2533 == (⟨#[128, 1]⟩ : ByteArray)) = true then (some (t2536 == (⟨#[1]⟩ : ByteArray))) else (some false)) else (some false)) else (some false))))
def tarrylaw01_PackBack.j3 (k : Nat) (a2 : ByteArray)  : Option (Bool) := ((pack_ReadNumber.f k (a2.extract 0 ((mn (a2.size : Int) 10000).toNat))).bind fun ⟨t3617, t3618, t3619⟩ => (if t3619 = 0 then ((pack_Number.f k t3617).bind fun ⟨t3623, t3624⟩ => (if t3624 = 0 then (if t3623.size + t3618.size ≤ 9223372036854775807 then (if ((t3623 ++ t3618) == (a2.extract 0 ((mn (a2.size : Int) 10000).toNat))) = true then ((pack_ReadRow.f k (a2.extract 0 ((mn (a2.size : Int) 10000).toNat))).bind fun ⟨r3635, t3636⟩ => (if t3636 = 0 then ((pack_Row.f k r3635).bind fun ⟨t3652, t3653⟩ => ((tarrylaw01_alive.f k).bind fun t3661 => (if t3661 = true then (if t3653 = 0 then (some (t3652 == (a2.extract 0 ((mn (a2.size : Int) 10000).toNat)))) else none) else none))) else ((tarrylaw01_alive.f k).bind fun t3671 => (if t3671 = true then (some ((r3635.length : Int) == 0)) else none)))) else none) else none) else none)) else ((pack_ReadRow.f k (a2.extract 0 ((mn (a2.size : Int) 10000).toNat))).bind fun ⟨r3675, t3676⟩ => (if t3676 = 0 then ((pack_Row.f k r3675).bind fun ⟨t3692, t3693⟩ => ((tarrylaw01_alive.f k).bind fun t3701 => (if t3701 = true then (if t3693 = 0 then (some (t3692 == (a2.extract 0 ((mn (a2.size : Int) 10000).toNat)))) else none) else none))) else ((tarrylaw01_alive.f k).bind fun t3711 => (if t3711 = true then (some ((r3675.length : Int) == 0)) else none))))))
def tarrylaw01_PackBack.j2 (k : Nat) (a2 : ByteArray) (r105 : List ByteArray)  : Option (Bool) := ((pack_Row.f k r105).bind fun ⟨t3579, t3580⟩ => (if t3580 = 0 then ((pack_ReadRow.f k t3579).bind fun ⟨r3584, t3585⟩ => (if t3585 = 0 then ((tarryref01_Same.f k r3584 r105).bind fun t3596 => (if t3596 = true then (tarrylaw01_PackBack.j3 k a2) else none)) else none)) else (tarrylaw01_PackBack.j3 k a2)))
def tarrylaw01_PackBack.f (k : Nat) (a0 : Int) (l1 : List ByteArray) (a2 : ByteArray) : Option (Bool) := ((tarrylaw01_few.f k l1).bind fun r105 => (if 0 ≤ mn (a2.size : Int) 10000 then (if (mn (a2.size : Int) 10000) ≤ (a2.size : Int) then ((pack_Number.f k a0).bind fun ⟨t3286, t3287⟩ => (if t3287 = 0 then (if t3286.size + (a2.extract 0 ((mn (a2.size : Int) 10000).toNat)).size ≤ 9223372036854775807 then ((pack_ReadNumber.f k (t3286 ++ (a2.extract 0 ((mn (a2.size : Int) 10000).toNat)))).bind fun ⟨t3292, t3293, t3294⟩ => (if t3294 = 0 then (if t3292 = a0 then (if (t3293 == (a2.extract 0 ((mn (a2.size : Int) 10000).toNat))) = true then (tarrylaw01_PackBack.j2 k a2 r105) else none) else none) else none)) else none) else (tarrylaw01_PackBack.j2 k a2 r105))) else none) else none))
/-- THE ONE PURE STATEMENT. -/
def tarrylaw01_PackBack.Pure : Prop := ∀ (a0 : Int) (l1 : List ByteArray) (a2 : ByteArray), (Lit.int .i64 a0).wf = true → allOk (fun x : ByteArray => x.size ≤ 9223372036854775807) l1 → a2.size ≤ 140737488351232 → ∃ k, tarrylaw01_PackBack.f k a0 l1 a2 = some true

end Go.Proofs.Ytacenfolbmdpoaa.PPackBack
