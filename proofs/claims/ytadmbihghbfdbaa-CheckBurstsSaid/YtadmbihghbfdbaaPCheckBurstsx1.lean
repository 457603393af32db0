/- Written by a program of this repo over the kit's print program: what the program's functions do, each as a Lean function, shown of the loaded code; or a statement's row over that; no condition of its own. -/
import Derived.Test.YtadmbihghbfdbaaPCheckBurstsx0
namespace Go.Proofs.Ytadmbihghbfdbaa.PCheckBursts
open Go.RowKit Go.Proofs.YtadmbihghbfdbaaW.PrintWords Go.Proofs.YtadmbihghbfdbaaW.PrintLast Go.Proofs.YtadmbihghbfdbaaW.PrintMore
attribute [local go_sem] max2_int min2_int max_two min_two max_three min_three max_four min_four   -- for this text's walks alone
set_option linter.unusedVariables false
set_option linter.unusedSimpArgs false

-- NOT PRINTED: function 10 (check_Table)

/-! ### check_On and check_Table (by hand: the table of 256) -/
def chk_stp (c : Int) : Int := if c % 2 = 1 then Go.bits .xor .u32 (c / 2) 2197175160 else c / 2
def chk_it : Nat → Int → Int
  | 0, c => c
  | n + 1, c => chk_stp (chk_it n c)
def chk_row (n : Nat) : Array Value := ((List.range 256).map fun i => Value.int .u32 (if i < n then chk_it 8 i else 0)).toArray
theorem chk_info : (Try.prog.info? 29).map (·.size) = some 256 := by kernel_rfl
theorem chk_alloc (W : World) (o : Oper) (a : Act) (ho : o.op = .alloc 29) (hg : o.guard = none) : (execOp a.eval o).run Try.prog W = .ok (.value (.pointer (some ⟨W.heap.size, 0, none⟩))) (W.alloc (.cells (chk_row 0) 29 (0, 0))) := by
  have h : (Instr.alloc 29 true (.tuple #[])).run Try.prog W = .ok (.pointer (some ⟨W.heap.size, 0, none⟩)) (W.alloc (.cells (chk_row 0) 29 (0, 0))) := by kernel_rfl
  unfold execOp
  rw [ho]
  simp [h, Result.andThen]

theorem chk_row_size (n : Nat) : (chk_row n).size = 256 := by simp [chk_row]
theorem chk_row_one (n : Nat) : (chk_row n).all (·.oneCell') = true := by
  rw [Array.all_eq_true_iff_forall_mem]
  intro v hv
  simp [chk_row] at hv
  obtain ⟨i, _, rfl⟩ := hv
  rfl
theorem chk_row_at (n i : Nat) (h : i < 256) : (chk_row n)[i]? = some (.int .u32 (if i < n then chk_it 8 i else 0)) := by
  simp [chk_row, h]
theorem chk_row_set (n : Nat) (h : n < 256) : (chk_row n).setIfInBounds n (.int .u32 (chk_it 8 n)) = chk_row (n + 1) := by
  apply Array.ext_getElem?
  intro i
  by_cases hi : i < 256
  · rw [chk_row_at (n + 1) i hi, Array.getElem?_setIfInBounds]
    by_cases e : n = i
    · subst e
      simp [chk_row_size, h]
    · rw [if_neg e, chk_row_at n i hi]
      have : (i < n + 1) ↔ i < n := by omega
      simp [this]
  · rw [Array.getElem?_eq_none (by simp [chk_row_size]; omega), Array.getElem?_eq_none (by simp [chk_row_size]; omega)]
theorem chk_bits (c : Int) (h : 0 ≤ c) (h2 : c < 4294967296) : Go.bits .and .u32 c 1 = c % 2 := by
  have := bits_mask .u32 32 (by decide) (by intro n h h'; rw [IntKind.wrap_u32]; omega) 1 (by decide) c h (by simpa using h2)
  simpa using this
theorem chk_xor_range (a b : Int) (ha : 0 ≤ a ∧ a < 4294967296) (hb : 0 ≤ b ∧ b < 4294967296) : 0 ≤ Go.bits .xor .u32 a b ∧ Go.bits .xor .u32 a b < 4294967296 := by
  simp only [Go.bits, IntKind.wrap_u32]
  omega
theorem chk_stp_range (c : Int) (h : 0 ≤ c ∧ c < 4294967296) : 0 ≤ chk_stp c ∧ chk_stp c < 4294967296 := by
  unfold chk_stp
  split
  · exact chk_xor_range _ _ (by omega) (by omega)
  · omega
theorem chk_it_range (n : Nat) (c : Int) (h : 0 ≤ c ∧ c < 4294967296) : 0 ≤ chk_it n c ∧ chk_it n c < 4294967296 := by
  induction n with
  | zero => exact h
  | succ n ih => exact chk_stp_range _ ih
set_option maxHeartbeats 1000000 in
set_option maxRecDepth 100000 in
theorem chk_table (w : World) : Calls Try.prog 10 #[] w fun e w' => e = .returned (.agg (chk_row 256)) ∧ Below w.heap.size w w' := by
  have hu29 := Try.underlying29
  go_enter Try.func10, Try.ntmps10
  go_wp2_with (first | ((with_reducible refine gate_dst (N := 0) rfl ?_); refine box_event ?hg (N := 0) ?hd (cs := chk_row 0) (t := 29) ?hr ?_; (case hd => rfl); (case hg => rfl); (case hr => exact chk_alloc _ _ _ rfl rfl); intro g0 hg0 w1 hb0 hbb0; have A0 := Aside0.mk hg0; have B0 := Aside0.mk hb0; have C0 := Aside0.mk hbb0; clear hg0 hb0 hbb0) | ((with_reducible refine gate_dst (N := 1) rfl ?_); refine box_event ?hg (N := 1) ?hd (cs := chk_row 0) (t := 29) ?hr ?_; (case hd => rfl); (case hg => rfl); (case hr => exact chk_alloc _ _ _ rfl rfl); intro g1 hg1 w2 hb1 hbb1; have A1 := Aside0.mk hg1; have B1 := Aside0.mk hb1; have C1 := Aside0.mk hbb1; clear hg1 hb1 hbb1))
  have hne : g0 ≠ g1 := by rw [A1.out]; exact Nat.ne_of_lt (blk_lt B0.out)
  have NE := Aside0.mk hne
  have hle0 : w.heap.size ≤ g0 := by rw [A0.out]; exact Nat.le_refl _
  have hle1 : w.heap.size ≤ g1 := by rw [A1.out]; exact C0.out.size
  clear hne
  go_loopw [5] (fun v wr => ∃ n : Nat, n ≤ 256 ∧ v = .int .u32 n ∧ Aside0 (wr.heap[g0]? = some (.cells (chk_row 0) 29 (0, 0))) ∧ Aside0 (wr.heap[g1]? = some (.cells (chk_row n) 29 (0, 0))) ∧ Aside0 (Below w.heap.size w wr)) (fun v _ => 256 - (intOf v).toNat)
  case atStart => exact ⟨0, by omega, rfl, ⟨blk_below B0.out C1.out⟩, B1, ⟨C0.out.trans (C1.out.mono C0.out.size)⟩⟩
  case round =>
    obtain ⟨n, hn, rfl, K0, K1, HB⟩ := hrel
    by_cases hlt : n < 256
    · go_wp2
      go_loopw [3, 9] (fun v i W => ∃ j : Nat, j ≤ 8 ∧ i = .int .i64 j ∧ v = .int .u32 (chk_it j n) ∧ W = wr) (fun _ i _ => 8 - (intOf i).toNat)
      case atStart => exact ⟨0, by omega, rfl, rfl, rfl⟩
      case round =>
        obtain ⟨j, hj, rfl, rfl, rfl⟩ := hrel
        have hr := chk_it_range j n (by omega)
        by_cases hj2 : j < 8
        · have hb := chk_bits (chk_it j n) hr.1 hr.2
          have hs : chk_it (j + 1) n = chk_stp (chk_it j n) := rfl
          have HS := Aside0.mk hs
          clear hs
          generalize chk_it j n = c at *
          by_cases ho : c % 2 = 1
          · have hq : (Go.bits .and .u32 c 1 == 1) = true := by rw [hb, ho]; rfl
            have hS2 : chk_stp c = Go.bits .xor .u32 (c / 2) 2197175160 := by unfold chk_stp; rw [if_pos ho]
            have HS2 := Aside0.mk hS2
            clear hb ho hS2
            go_wp2
            go_roundw
            case rel => exact ⟨j + 1, by omega, by go_num, by rw [HS.out, HS2.out], trivial⟩
            case measure => simp [intOf]; omega
          · have hq : (Go.bits .and .u32 c 1 == 1) = false := by rw [hb]; exact beq_eq_false_iff_ne.mpr ho
            have hS2 : chk_stp c = c / 2 := by unfold chk_stp; rw [if_neg ho]
            have HS2 := Aside0.mk hS2
            clear hb ho hS2
            go_wp2
            go_roundw
            case rel => exact ⟨j + 1, by omega, by go_num, by rw [HS.out, HS2.out], trivial⟩
            case measure => simp [intOf]; omega
        · obtain rfl : j = 8 := by omega
          have hc1 := (blk_cell K1.out n).trans (chk_row_at n n hlt)
          rw [if_neg (Nat.lt_irrefl n)] at hc1
          have hf1 := blk_frozen K1.out n
          have hi0 : (0 : Int) ≤ (n : Int) := by omega
          have hi1 : (n : Int) < 256 := by omega
          have hsz : #[1].size = 1 := rfl
          clear hsz
          have R := Aside0.mk (chk_row_set n hlt)
          have hst := chk_it_range 8 n (by omega)
          clear hr
          generalize chk_it 8 n = q at *
          go_wp2
          go_roundw
          case rel => exact ⟨n + 1, by omega, by go_num, ⟨blk_far K0.out NE.out _⟩, ⟨blk_put K1.out n _ R.out⟩, ⟨HB.out.setCell hle1 _⟩⟩
          case measure => simp [intOf]; omega
    · obtain rfl : n = 256 := by omega
      have hz1 : (Try.prog.info? 29).map (·.size) = some (chk_row 256).size := by rw [chk_row_size]; exact chk_info
      have hz0 := Aside0.mk hz1
      clear hz1
      go_wp2_with (first | ((with_reducible refine gate_dst (N := 24) rfl ?_); refine wpList_load_row rfl 29 _ rfl g1 rfl 29 (chk_row 256) (0, 0) _ K1.out Try.underlying29 rfl hz0.out ?_) | (refine wpList_store_row rfl 29 _ _ rfl g0 (chk_row 256) rfl rfl 29 (chk_row 0) K0.out hz0.out (by rw [chk_row_size, chk_row_size]) (chk_row_one 256) ?_))
      refine bodyPost_ret (results_cell_row rfl _ _ g0 29 (chk_row 256) (0, 0) _ rfl (setRow_heap _ g0 _ _ 29 _ K0.out) Try.underlying29 rfl hz0.out) rfl ⟨rfl, ?_⟩
      exact HB.out.trans ⟨rfl, rfl, rfl, by simp [World.setRow], fun k hk => by
        have : g0 ≠ k := by omega
        simp [World.setRow, Array.getElem?_modify, this]⟩

/-- A check with one byte more. -/
def chk_byte (c b : Int) : Int := Go.bits .xor .u32 (c / 256) (chk_it 8 (Go.bits .xor .u8 (c % 256) b))
def chk_upto (c : Int) (s : ByteArray) : Nat → Int
  | 0 => c
  | i + 1 => chk_byte (chk_upto c s i) (bt s i)
@[irreducible] def chk_fits (s : ByteArray) : Bool := decide (s.size < 4611686018427387904)
theorem chk_fits_wrap (s : ByteArray) (h : chk_fits s = true) (x : Int) (h0 : 0 ≤ x) (h1 : x < (s.size : Int)) : wrap64 (x + 1) = x + 1 := by
  unfold chk_fits at h
  have := of_decide_eq_true h
  unfold wrap64
  omega
def check_On.f (a0 : Int) (a1 : ByteArray) : Option Int := if chk_fits a1 = true then some (Go.bits .xor .u32 (chk_upto (Go.bits .xor .u32 a0 4294967295) a1 a1.size) 4294967295) else none
theorem chk_upto_range (c : Int) (s : ByteArray) (h : 0 ≤ c ∧ c < 4294967296) : ∀ i, 0 ≤ chk_upto c s i ∧ chk_upto c s i < 4294967296
  | 0 => h
  | i + 1 => by
    have := chk_upto_range c s h i
    unfold chk_upto chk_byte
    simp only [Go.bits, IntKind.wrap_u32]
    omega
theorem chk_upto_next (c : Int) (s : ByteArray) (x : Int) (h : 0 ≤ x) : chk_upto c s (x + 1).toNat = chk_byte (chk_upto c s x.toNat) (bt s x) := by
  have e : (x + 1).toNat = x.toNat + 1 := by omega
  rw [e]
  show chk_byte (chk_upto c s x.toNat) (bt s ((x.toNat : Nat) : Int)) = _
  rw [Int.toNat_of_nonneg h]
theorem chk_idx (c b : Int) : 0 ≤ Go.bits .xor .u8 (c % 256) b ∧ Go.bits .xor .u8 (c % 256) b < 256 := by
  simp only [Go.bits, IntKind.wrap_u8]
  omega
theorem chk_row_full (x : Int) (h : 0 ≤ x) (h2 : x < 256) : (chk_row 256)[x.toNat]? = some (.int .u32 (chk_it 8 x)) := by
  rw [chk_row_at 256 x.toNat (by omega), if_pos (by omega), Int.toNat_of_nonneg h]
set_option maxHeartbeats 1000000 in
set_option maxRecDepth 100000 in
theorem check_On.calls (a0 : Int) (a1 : ByteArray) (r : Int) (w : World) (h : check_On.f a0 a1 = some r) :
    Calls Try.prog 8 #[.int .u32 a0, .string a1] w fun e w' => e = .returned (.int .u32 r) ∧ Below w.heap.size w w' := by
  simp only [check_On.f, Option.ite_none_right_eq_some, Option.some.injEq] at h
  obtain ⟨hs, rfl⟩ := h
  have HS := Aside0.mk hs
  clear hs
  have hu29 := Try.underlying29
  have hz0 : Aside0 ((Try.prog.info? 29).map (·.size) = some (chk_row 256).size) := ⟨by rw [chk_row_size]; exact chk_info⟩
  obtain ⟨c0, hc0⟩ : ∃ c, c = Go.bits .xor .u32 a0 4294967295 := ⟨_, rfl⟩
  have hr0 : 0 ≤ c0 ∧ c0 < 4294967296 := by rw [hc0]; simp only [Go.bits, IntKind.wrap_u32]; omega
  have HC0 := Aside0.mk hc0
  clear hc0
  go_enter Try.func8, Try.ntmps8
  go_wp2_with (first | (go_at_call 10; refine (chk_table _).mono ?_; rintro e w1 ⟨rfl, hb⟩; have HB1 := Aside0.mk hb; clear hb) | ((with_reducible refine gate_dst (N := 5) rfl ?_); refine box_event ?hg (N := 5) ?hd (cs := chk_row 0) (t := 29) ?hr ?_; (case hd => rfl); (case hg => rfl); (case hr => exact chk_alloc _ _ _ rfl rfl); intro g hg w2 hb0 hbb; have A0 := Aside0.mk hg; have B0 := Aside0.mk hb0; have C0 := Aside0.mk hbb; clear hg hb0 hbb) | (refine wpList_store_row rfl 29 _ _ rfl g (chk_row 256) rfl rfl 29 (chk_row 0) B0.out hz0.out (by rw [chk_row_size, chk_row_size]) (chk_row_one 256) ?_))
  have HW : Aside0 ((w2.setRow g (chk_row 256)).heap[g]? = some (.cells (chk_row 256) 29 (0, 0))) := ⟨setRow_heap _ g _ _ 29 _ B0.out⟩
  have HB : Aside0 (Below w.heap.size w (w2.setRow g (chk_row 256))) := ⟨by
    have hle : w.heap.size ≤ g := by rw [A0.out]; exact HB1.out.size
    exact (HB1.out.trans (C0.out.mono HB1.out.size)).trans ⟨rfl, rfl, rfl, by simp [World.setRow], fun k hk => by
        have : g ≠ k := by omega
        simp [World.setRow, Array.getElem?_modify, this]⟩⟩
  generalize w2.setRow g (chk_row 256) = w3 at *
  go_loopw [0, 12] (fun c i W => ∃ x : Int, 0 ≤ x ∧ x ≤ (a1.size : Int) ∧ i = .int .i64 x ∧ c = .int .u32 (chk_upto c0 a1 x.toNat) ∧ W = w3) (fun _ i _ => a1.size - (intOf i).toNat)
  case atStart => exact ⟨0, by omega, by omega, rfl, by rw [HC0.out]; rfl, rfl⟩
  case round =>
    obtain ⟨x, hx0, hx1, rfl, rfl, rfl⟩ := hrel
    by_cases hlt : x < (a1.size : Int)
    · have hr := chk_upto_range c0 a1 hr0 x.toNat
      have HN := Aside0.mk (chk_upto_next c0 a1 x hx0)
      have hx := bt_at a1 x
      have hix := chk_idx (chk_upto c0 a1 x.toNat) (bt a1 x)
      have HQ := Aside0.mk hr
      clear hr
      generalize chk_upto c0 a1 x.toNat = q at *
      have p6 := eq_true hx0
      have q6 := eq_true hlt
      obtain ⟨hi0, hi1⟩ := hix
      have hc1 := (blk_cell HW.out (Go.bits .xor .u8 (q % 256) (bt a1 x)).toNat).trans (chk_row_full _ hi0 hi1)
      go_wp2
      go_roundw
      case rel =>
        have hw : wrap64 (x + 1) = x + 1 := chk_fits_wrap a1 HS.out x hx0 hlt
        refine ⟨x + 1, by omega, by omega, by rw [hw], ?_, trivial⟩
        rw [HN.out]
        rfl
      case measure =>
        have hw : wrap64 (x + 1) = x + 1 := chk_fits_wrap a1 HS.out x hx0 hlt
        rw [hw]
        simp [intOf]; omega
    · obtain rfl : x = a1.size := by omega
      rw [Int.toNat_natCast]
      go_wp2
      obtain rfl := HC0.out
      go_ret
      exact ⟨rfl, HB.out⟩

/-! ### check_Of: function 9 -/
def check_Of.f (a0 : ByteArray) : Option (Int) := (check_On.f 0 a0).bind fun t101 => (some t101)
set_option maxHeartbeats 8000000 in
set_option maxRecDepth 100000 in
theorem check_Of.calls (a0 : ByteArray) (r : Int) (w : World) (h : check_Of.f a0 = some r) :
    Calls Try.prog 9 #[.string a0] w fun e w' => e = .returned (.int .u32 r) ∧ Below w.heap.size w w' := by
  have HB := Aside0.mk (Below.refl w.heap.size w)
  have H : ((check_On.f 0 a0).bind fun t101 => (some t101)) = some r := h
  clear h
  replace H := Option.bind_eq_some_iff.mp H
  obtain ⟨t101, A20, H⟩ := H
  replace H : (some t101) = some r := H
  have A2 := Aside0.mk A20
  clear A20
  obtain rfl := Option.some.inj H
  go_enter Try.func9, Try.ntmps9
  go_wp2_with (first | ((with_reducible refine gate_callee (f := 8) rfl ?_); refine goesL_ (some 4) rfl rfl Try.func8 (by kernel_rfl) rfl #[.int .u32 0, .string a0] rfl (by (try simp only [List.map_toArray, List.map_cons, List.map_nil]); first | done | rfl | (simp only [List.length_drop, List.length_take]; rfl)) ?_; (with_reducible refine (check_On.calls 0 a0 t101 _ A2.out).mono ?_); rintro e w3 ⟨rfl, hb⟩; refine ⟨_, rfl, ?_⟩; have n0_ := Aside0.mk (below_step (by repeat (first | (with_reducible first | exact HB.out | apply below_alloc | apply pw_below_drewN | apply below_drew1) | exact HB.out)) hb); clear HB; have HB := n0_; clear n0_; (try clear hb); (try clear hb2); (try clear hk); (try clear hi)))
  go_ret
  exact ⟨by first | rfl | (simp [errW_none, errW_some] <;> rfl) | (simp [*, errW_none, errW_some] <;> rfl), by repeat (first | (with_reducible first | exact HB.out | apply below_alloc | apply pw_below_drewN | apply below_drew1) | exact HB.out)⟩

/-! ### tarrylaw02_alive: function 7 -/
def tarrylaw02_alive.f  : Option (Bool) := (check_Of.f (⟨#[49, 50, 51, 52, 53, 54, 55, 56, 57]⟩ : ByteArray)).bind fun t102 => (some (t102 == 3808858755))
set_option maxHeartbeats 8000000 in
set_option maxRecDepth 100000 in
theorem tarrylaw02_alive.calls  (r : Bool) (w : World) (h : tarrylaw02_alive.f  = some r) :
    Calls Try.prog 7 #[] w fun e w' => e = .returned (.bool r) ∧ Below w.heap.size w w' := by
  have HB := Aside0.mk (Below.refl w.heap.size w)
  have H : ((check_Of.f (⟨#[49, 50, 51, 52, 53, 54, 55, 56, 57]⟩ : ByteArray)).bind fun t102 => (some (t102 == 3808858755))) = some r := h
  clear h
  replace H := Option.bind_eq_some_iff.mp H
  obtain ⟨t102, A10, H⟩ := H
  replace H : (some (t102 == 3808858755)) = some r := H
  have A1 := Aside0.mk A10
  clear A10
  obtain rfl := Option.some.inj H
  go_enter Try.func7, Try.ntmps7
  go_wp2_with (first | ((with_reducible refine gate_callee (f := 9) rfl ?_); refine goesL_ (some 1) rfl rfl Try.func9 (by kernel_rfl) rfl #[.string (⟨#[49, 50, 51, 52, 53, 54, 55, 56, 57]⟩ : ByteArray)] rfl (by (try simp only [List.map_toArray, List.map_cons, List.map_nil]); first | done | rfl | (simp only [List.length_drop, List.length_take]; rfl)) ?_; (with_reducible refine (check_Of.calls (⟨#[49, 50, 51, 52, 53, 54, 55, 56, 57]⟩ : ByteArray) t102 _ A1.out).mono ?_); rintro e w2 ⟨rfl, hb⟩; refine ⟨_, rfl, ?_⟩; have n0_ := Aside0.mk (below_step (by repeat (first | (with_reducible first | exact HB.out | apply below_alloc | apply pw_below_drewN | apply below_drew1) | exact HB.out)) hb); clear HB; have HB := n0_; clear n0_; (try clear hb); (try clear hb2); (try clear hk); (try clear hi)))
  go_ret
  exact ⟨by first | rfl | (simp [errW_none, errW_some] <;> rfl) | (simp [*, errW_none, errW_some] <;> rfl), by repeat (first | (with_reducible first | exact HB.out | apply below_alloc | apply pw_below_drewN | apply below_drew1) | exact HB.out)⟩

end Go.Proofs.Ytadmbihghbfdbaa.PCheckBursts
