/- Written by a program of this repo over the kit's print program: what the program's functions do, each as a Lean function, shown of the loaded code; or a statement's row over that; no condition of its own. -/
import Derived.Test.YtlmpfogfgefngaaPOrderPartsx0
import Derived.Test.YtlmpfogfgefngaaPOrderPartsx11
namespace Go.Proofs.Ytlmpfogfgefngaa.POrderParts
open Go.RowKit Go.Proofs.YtlmpfogfgefngaaW.PrintWords Go.Proofs.YtlmpfogfgefngaaW.PrintLast Go.Proofs.YtlmpfogfgefngaaW.PrintMore
attribute [local go_sem] max2_int min2_int max_two min_two max_three min_three max_four min_four   -- for this text's walks alone
set_option linter.unusedVariables false
set_option linter.unusedSimpArgs false

/-! ### goods_name (by hand: a text's bytes) -/
def goods_name.f (k : Nat) (a0 : ByteArray) : Option (Bool) :=
  if a0.toList = [] then some false else if (a0.size : Int) ≤ 16 then (slices_ContainsFunc_byte_byte_v5.f k (bytesOf a0)).bind fun t => some (!t) else some false
theorem goods_name.mono : ∀ a0 k, LeO (goods_name.f k a0) (goods_name.f (k + 1) a0) := by
  intro a0 k
  unfold goods_name.f
  exact LeO.ite (LeO.refl _) (LeO.ite (LeO.bind (slices_ContainsFunc_byte_byte_v5.mono _ _) (fun _ => LeO.refl _)) (LeO.refl _))
theorem goods_name.conv_below (w : World) (e : TypeId) (s : ByteArray) : Below w.heap.size w (Lib.bytesWorld w e s) :=
  ⟨rfl, rfl, rfl, by rw [Lib.bytesWorld_size]; omega, fun j hj => Lib.bytesWorld_at_old w e s j hj⟩
theorem goods_name.conv_reads (w : World) (e : TypeId) (s : ByteArray) (h0 : s.size ≤ 9223372036854775807) : Kd.C (Kd.int .u8) (Lib.bytesWorld w e s) (some ⟨w.heap.size, 0, none⟩) s.size (bytesOf s) := by
  refine ⟨bytesOf_length s, h0, fun _ => ⟨_, rfl, fun j p hp => ⟨[.int .u8 p], rfl, rfl, fun i u hu => ?_⟩⟩⟩
  have hj : j < s.size := by rw [← bytesOf_length s]; exact (List.getElem?_eq_some_iff.1 hp).1
  have hi : i = 0 := by
    have := (List.getElem?_eq_some_iff.1 hu).1
    simp at this
    exact this
  subst hi
  simp at hu
  subst hu
  have h1 := Lib.bytesWorld_cell w e s j hj
  have h2 : (Kd.int .u8).sz = 1 := rfl
  rw [h2, Nat.mul_one, Nat.add_zero, add_plain, h1]
  have h3 : s.data.toList.getD j 0 = s.data.toList[j]'(by simpa using hj) := by
    rw [List.getD_eq_getElem?_getD, List.getElem?_eq_getElem (by simpa using hj)]
    rfl
  rw [h3]
  unfold bytesOf at hp
  rw [List.getElem?_map, List.getElem?_eq_getElem (by simpa using hj)] at hp
  simp at hp
  rw [← hp]
  simp
set_option maxHeartbeats 400000 in
theorem goods_name.calls (k : Nat) (a0 : ByteArray) (r : Bool) (w : World) (h : goods_name.f k a0 = some r) :
    Calls Try.prog 72 #[.string a0] w fun e w' => e = .returned (.bool r) ∧ Below w.heap.size w w' := by
  unfold goods_name.f at h
  by_cases c0 : a0.toList = []
  · rw [if_pos c0] at h
    obtain rfl := Option.some.inj h
    have c1 : (a0.toList == []) = true := by rw [c0]; rfl
    have c2 : (!a0.toList.isEmpty) = false := by rw [c0]; rfl
    clear h
    go_enter Try.func72, Try.ntmps72
    go_wp2
    go_ret
    exact ⟨rfl, Below.refl _ _⟩
  rw [if_neg c0] at h
  have c1 : (a0.toList == []) = false := by simpa using c0
  have c2 : (!a0.toList.isEmpty) = true := by simpa using c0
  by_cases c3 : (a0.size : Int) ≤ 16
  · rw [if_pos c3] at h
    obtain ⟨t, h1, h2⟩ := Option.bind_eq_some_iff.mp h
    obtain rfl := Option.some.inj h2
    have H := Aside0.mk h1
    have c4 : decide (a0.size ≤ 16) = true := decide_eq_true (by omega)
    have c5 : decide ((a0.size : Int) ≤ 16) = true := decide_eq_true c3
    clear h h1 h2
    have hcv := fun (w : World) => Lib.run_convert_string_bytes (P := Try.prog) w 9 113 5 a0 Try.underlying9 Try.underlying113 Try.underlying5
    have hcp : (bytesOf a0).length ≤ grownCap w a0.size 0 5 := by rw [bytesOf_length]; exact grownCap_ge _ _ _ _
    have C := slices_ContainsFunc_byte_byte_v5.calls k (some ⟨w.heap.size, 0, none⟩) (grownCap w a0.size 0 5) (bytesOf a0) t (Lib.bytesWorld w 5 a0) (by rw [bytesOf_length]; exact goods_name.conv_reads w 5 a0 (by omega)) hcp H.out
    rw [bytesOf_length] at C
    have HC := Aside0.mk C
    have hb := Aside0.mk (goods_name.conv_below w 5 a0)
    clear C hcp
    go_enter Try.func72, Try.ntmps72
    go_wp2_with fail
    refine HC.out.mono ?_
    rintro e w' ⟨rfl, hb2⟩
    go_wp2
    go_ret
    exact ⟨rfl, hb.out.trans (hb2.mono hb.out.size)⟩
  rw [if_neg c3] at h
  obtain rfl := Option.some.inj h
  have c4 : decide (a0.size ≤ 16) = false := decide_eq_false (by omega)
  have c5 : decide ((a0.size : Int) ≤ 16) = false := decide_eq_false c3
  clear h
  go_enter Try.func72, Try.ntmps72
  go_wp2
  go_ret
  exact ⟨rfl, Below.refl _ _⟩

/-! ### goods_in: function 84 -/
def goods_in.f (a0 : Int) (a1 : Int) : Option (Bool) := if a0 ≥ 1 then (some (decide (a0 ≤ a1))) else (some false)
set_option maxHeartbeats 8000000 in
set_option maxRecDepth 100000 in
theorem goods_in.calls (a0 : Int) (a1 : Int) (r : Bool) (w : World) (h : goods_in.f a0 a1 = some r) :
    Calls Try.prog 84 #[.int .i64 a0, .int .i64 a1] w fun e w' => e = .returned (.bool r) ∧ Drawn0 w w' := by
  have H : (if a0 ≥ 1 then (some (decide (a0 ≤ a1))) else (some false)) = some r := h
  clear h
  by_cases c3 : a0 ≥ 1
  · rw [if_pos c3] at H
    have c3b0 : decide (1 ≤ a0) = true := decide_eq_true c3
    clear c3
    obtain rfl := Option.some.inj H
    go_enter Try.func84, Try.ntmps84
    go_wp2
    go_ret
    exact ⟨by first | rfl | (simp; done) | (simp [*]; done), by repeat (first | exact Drawn0.refl _ | apply Drawn0.step)⟩
  rw [if_neg c3] at H
  have c3b0 : decide (1 ≤ a0) = false := decide_eq_false c3
  clear c3
  obtain rfl := Option.some.inj H
  go_enter Try.func84, Try.ntmps84
  go_wp2
  go_ret
  exact ⟨by first | rfl | (simp; done) | (simp [*]; done), by repeat (first | exact Drawn0.refl _ | apply Drawn0.step)⟩

end Go.Proofs.Ytlmpfogfgefngaa.POrderParts
