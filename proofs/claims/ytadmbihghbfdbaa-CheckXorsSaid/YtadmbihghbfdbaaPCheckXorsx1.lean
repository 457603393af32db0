/- Written by a program of this repo over the kit's print program: what the program's functions do, each as a Lean function, shown of the loaded code; or a statement's row over that; no condition of its own. -/
import Derived.Test.YtadmbihghbfdbaaPCheckXorsx0
namespace Go.Proofs.Ytadmbihghbfdbaa.PCheckXors
open Go.RowKit Go.Proofs.YtadmbihghbfdbaaW.PrintWords Go.Proofs.YtadmbihghbfdbaaW.PrintLast Go.Proofs.YtadmbihghbfdbaaW.PrintMore
attribute [local go_sem] max2_int min2_int max_two min_two max_three min_three max_four min_four   -- for this text's walks alone
set_option linter.unusedVariables false
set_option linter.unusedSimpArgs false

-- NOT PRINTED: function 10 (check_Table)

/-! ### check_On and check_Table (by hand: the table of 256) -/
def chk_stp (c : Int) : Int := if c % 2 = 1 then Go.bits .xor .u32 (c / 2) 2197175160 else c / 2
def chk_it : Nat → Int → Int
  | 0, c => c
  | n + 1, c => chk_stp (chk_it n c)
def chk_row (n : Nat) : Array Value := ((List.range 256).map fun i => Value.int .u32 (if i < n then chk_it 8 i else 0)).toArray
theorem chk_info : (Try.prog.info? 29).map (·.size) = some 256 := by kernel_rfl
theorem chk_alloc (W : World) (o : Oper) (a : Act) (ho : o.op = .alloc 29) (hg : o.guard = none) : (execOp a.eval o).run Try.prog W = .ok (.value (.pointer (some ⟨W.heap.size, 0, none⟩))) (W.alloc (.cells (chk_row 0) 29 (0, 0))) := by
  have h : (Instr.alloc 29 true (.tuple #[])).run Try.prog W = .ok (.pointer (some ⟨W.heap.size, 0, none⟩)) (W.alloc (.cells (chk_row 0) 29 (0, 0))) := by kernel_rfl
  unfold execOp
  rw [ho]
  simp [h, Result.andThen]

theorem chk_row_size (n : Nat) : (chk_row n).size = 256 := by simp [chk_row]
theorem chk_row_one (n : Nat) : (chk_row n).all (·.oneCell') = true := by
  rw [Array.all_eq_true_iff_forall_mem]
  intro v hv
  simp [chk_row] at hv
  obtain ⟨i, _, rfl⟩ := hv
  rfl
theorem chk_row_at (n i : Nat) (h : i < 256) : (chk_row n)[i]? = some (.int .u32 (if i < n then chk_it 8 i else 0)) := by
  simp [chk_row, h]
theorem chk_row_set (n : Nat) (h : n < 256) : (chk_row n).setIfInBounds n (.int .u32 (chk_it 8 n)) = chk_row (n + 1) := by
  apply Array.ext_getElem?
  intro i
  by_cases hi : i < 256
  · rw [chk_row_at (n + 1) i hi, Array.getElem?_setIfInBounds]
    by_cases e : n = i
    · subst e
      simp [chk_row_size, h]
    · rw [if_neg e, chk_row_at n i hi]
      have : (i < n + 1) ↔ i < n := by omega
      simp [this]
  · rw [Array.getElem?_eq_none (by simp [chk_row_size]; omega), Array.getElem?_eq_none (by simp [chk_row_size]; omega)]
theorem chk_bits (c : Int) (h : 0 ≤ c) (h2 : c < 4294967296) : Go.bits .and .u32 c 1 = c % 2 := by
  have := bits_mask .u32 32 (by decide) (by intro n h h'; rw [IntKind.wrap_u32]; omega) 1 (by decide) c h (by simpa using h2)
  simpa using this
theorem chk_xor_range (a b : Int) (ha : 0 ≤ a ∧ a < 4294967296) (hb : 0 ≤ b ∧ b < 4294967296) : 0 ≤ Go.bits .xor .u32 a b ∧ Go.bits .xor .u32 a b < 4294967296 := by
  simp only [Go.bits, IntKind.wrap_u32]
  omega
theorem chk_stp_range (c : Int) (h : 0 ≤ c ∧ c < 4294967296) : 0 ≤ chk_stp c ∧ chk_stp c < 4294967296 := by
  unfold chk_stp
  split
  · exact chk_xor_range _ _ (by omega) (by omega)
  · omega
theorem chk_it_range (n : Nat) (c : Int) (h : 0 ≤ c ∧ c < 4294967296) : 0 ≤ chk_it n c ∧ chk_it n c < 4294967296 := by
  induction n with
  | zero => exact h
  | succ n ih => exact chk_stp_range _ ih
set_option maxHeartbeats 1000000 in
set_option maxRecDepth 100000 in
theorem chk_table (w : World) : Calls Try.prog 10 #[] w fun e w' => e = .returned (.agg (chk_row 256)) ∧ Below w.heap.size w w' := by
  have hu29 := Try.underlying29
  go_enter Try.func10, Try.ntmps10
  go_wp2_with (first | ((with_reducible refine gate_dst (N := 0) rfl ?_); refine box_event ?hg (N := 0) ?hd (cs := chk_row 0) (t := 29) ?hr ?_; (case hd => rfl); (case hg => rfl); (case hr => exact chk_alloc _ _ _ rfl rfl); intro g0 hg0 w1 hb0 hbb0; have A0 := Aside0.mk hg0; have B0 := Aside0.mk hb0; have C0 := Aside0.mk hbb0; clear hg0 hb0 hbb0) | ((with_reducible refine gate_dst (N := 1) rfl ?_); refine box_event ?hg (N := 1) ?hd (cs := chk_row 0) (t := 29) ?hr ?_; (case hd => rfl); (case hg => rfl); (case hr => exact chk_alloc _ _ _ rfl rfl); intro g1 hg1 w2 hb1 hbb1; have A1 := Aside0.mk hg1; have B1 := Aside0.mk hb1; have C1 := Aside0.mk hbb1; clear hg1 hb1 hbb1))
  have hne : g0 ≠ g1 := by rw [A1.out]; exact Nat.ne_of_lt (blk_lt B0.out)
  have NE := Aside0.mk hne
  have hle0 : w.heap.size ≤ g0 := by rw [A0.out]; exact Nat.le_refl _
  have hle1 : w.heap.size ≤ g1 := by rw [A1.out]; exact C0.out.size
  clear hne
  go_loopw [5] (fun v wr => ∃ n : Nat, n ≤ 256 ∧ v = .int .u32 n ∧ Aside0 (wr.heap[g0]? = some (.cells (chk_row 0) 29 (0, 0))) ∧ Aside0 (wr.heap[g1]? = some (.cells (chk_row n) 29 (0, 0))) ∧ Aside0 (Below w.heap.size w wr)) (fun v _ => 256 - (intOf v).toNat)
  case atStart => exact ⟨0, by omega, rfl, ⟨blk_below B0.out C1.out⟩, B1, ⟨C0.out.trans (C1.out.mono C0.out.size)⟩⟩
  case round =>
    obtain ⟨n, hn, rfl, K0, K1, HB⟩ := hrel
    by_cases hlt : n < 256
    · go_wp2
      go_loopw [3, 9] (fun v i W => ∃ j : Nat, j ≤ 8 ∧ i = .int .i64 j ∧ v = .int .u32 (chk_it j n) ∧ W = wr) (fun _ i _ => 8 - (intOf i).toNat)
      case atStart => exact ⟨0, by omega, rfl, rfl, rfl⟩
      case round =>
        obtain ⟨j, hj, rfl, rfl, rfl⟩ := hrel
        have hr := chk_it_range j n (by omega)
        by_cases hj2 : j < 8
        · have hb := chk_bits (chk_it j n) hr.1 hr.2
          have hs : chk_it (j + 1) n = chk_stp (chk_it j n) := rfl
          have HS := Aside0.mk hs
          clear hs
          generalize chk_it j n = c at *
          by_cases ho : c % 2 = 1
          · have hq : (Go.bits .and .u32 c 1 == 1) = true := by rw [hb, ho]; rfl
            have hS2 : chk_stp c = Go.bits .xor .u32 (c / 2) 2197175160 := by unfold chk_stp; rw [if_pos ho]
            have HS2 := Aside0.mk hS2
            clear hb ho hS2
            go_wp2
            go_roundw
            case rel => exact ⟨j + 1, by omega, by go_num, by rw [HS.out, HS2.out], trivial⟩
            case measure => simp [intOf]; omega
          · have hq : (Go.bits .and .u32 c 1 == 1) = false := by rw [hb]; exact beq_eq_false_iff_ne.mpr ho
            have hS2 : chk_stp c = c / 2 := by unfold chk_stp; rw [if_neg ho]
            have HS2 := Aside0.mk hS2
            clear hb ho hS2
            go_wp2
            go_roundw
            case rel => exact ⟨j + 1, by omega, by go_num, by rw [HS.out, HS2.out], trivial⟩
            case measure => simp [intOf]; omega
        · obtain rfl : j = 8 := by omega
          have hc1 := (blk_cell K1.out n).trans (chk_row_at n n hlt)
          rw [if_neg (Nat.lt_irrefl n)] at hc1
          have hf1 := blk_frozen K1.out n
          have hi0 : (0 : Int) ≤ (n : Int) := by omega
          have hi1 : (n : Int) < 256 := by omega
          have hsz : #[1].size = 1 := rfl
          clear hsz
          have R := Aside0.mk (chk_row_set n hlt)
          have hst := chk_it_range 8 n (by omega)
          clear hr
          generalize chk_it 8 n = q at *
          go_wp2
          go_roundw
          case rel => exact ⟨n + 1, by omega, by go_num, ⟨blk_far K0.out NE.out _⟩, ⟨blk_put K1.out n _ R.out⟩, ⟨HB.out.setCell hle1 _⟩⟩
          case measure => simp [intOf]; omega
    · obtain rfl : n = 256 := by omega
      have hz1 : (Try.prog.info? 29).map (·.size) = some (chk_row 256).size := by rw [chk_row_size]; exact chk_info
      have hz0 := Aside0.mk hz1
      clear hz1
      go_wp2_with (first | ((with_reducible refine gate_dst (N := 24) rfl ?_); refine wpList_load_row rfl 29 _ rfl g1 rfl 29 (chk_row 256) (0, 0) _ K1.out Try.underlying29 rfl hz0.out ?_) | (refine wpList_store_row rfl 29 _ _ rfl g0 (chk_row 256) rfl rfl 29 (chk_row 0) K0.out hz0.out (by rw [chk_row_size, chk_row_size]) (chk_row_one 256) ?_))
      refine bodyPost_ret (results_cell_row rfl _ _ g0 29 (chk_row 256) (0, 0) _ rfl (setRow_heap _ g0 _ _ 29 _ K0.out) Try.underlying29 rfl hz0.out) rfl ⟨rfl, ?_⟩
      exact HB.out.trans ⟨rfl, rfl, rfl, by simp [World.setRow], fun k hk => by
        have : g0 ≠ k := by omega
        simp [World.setRow, Array.getElem?_modify, this]⟩

/-- A check with one byte more. -/
def chk_byte (c b : Int) : Int := Go.bits .xor .u32 (c / 256) (chk_it 8 (Go.bits .xor .u8 (c % 256) b))
def chk_upto (c : Int) (s : ByteArray) : Nat → Int
  | 0 => c
  | i + 1 => chk_byte (chk_upto c s i) (bt s i)
@[irreducible] def chk_fits (s : ByteArray) : Bool := decide (s.size < 4611686018427387904)
theorem chk_fits_wrap (s : ByteArray) (h : chk_fits s = true) (x : Int) (h0 : 0 ≤ x) (h1 : x < (s.size : Int)) : wrap64 (x + 1) = x + 1 := by
  unfold chk_fits at h
  have := of_decide_eq_true h
  unfold wrap64
  omega
def check_On.f (a0 : Int) (a1 : ByteArray) : Option Int := if chk_fits a1 = true then some (Go.bits .xor .u32 (chk_upto (Go.bits .xor .u32 a0 4294967295) a1 a1.size) 4294967295) else none
theorem chk_upto_range (c : Int) (s : ByteArray) (h : 0 ≤ c ∧ c < 4294967296) : ∀ i, 0 ≤ chk_upto c s i ∧ chk_upto c s i < 4294967296
  | 0 => h
  | i + 1 => by
    have := chk_upto_range c s h i
    unfold chk_upto chk_byte
    simp only [Go.bits, IntKind.wrap_u32]
    omega
theorem chk_upto_next (c : Int) (s : ByteArray) (x : Int) (h : 0 ≤ x) : chk_upto c s (x + 1).toNat = chk_byte (chk_upto c s x.toNat) (bt s x) := by
  have e : (x + 1).toNat = x.toNat + 1 := by omega
  rw [e]
  show chk_byte (chk_upto c s x.toNat) (bt s ((x.toNat : Nat) : Int)) = _
  rw [Int.toNat_of_nonneg h]
theorem chk_idx (c b : Int) : 0 ≤ Go.bits .xor .u8 (c % 256) b ∧ Go.bits .xor .u8 (c % 256) b < 256 := by
  simp only [Go.bits, IntKind.wrap_u8]
  omega
theorem chk_row_full (x : Int) (h : 0 ≤ x) (h2 : x < 256) : (chk_row 256)[x.toNat]? = some (.int .u32 (chk_it 8 x)) := by
  rw [chk_row_at 256 x.toNat (by omega), if_pos (by omega), Int.toNat_of_nonneg h]
set_option maxHeartbeats 1000000 in
set_option maxRecDepth 100000 in
theorem check_On.calls (a0 : Int) (a1 : ByteArray) (r : Int) (w : World) (h : check_On.f a0 a1 = some r) :
    Calls Try.prog 8 #[.int .u32 a0, .string a1] w fun e w' => e = .returned (.int .u32 r) ∧ Below w.heap.size w w' := by
  simp only [check_On.f, Option.ite_none_right_eq_some, Option.some.injEq] at h
  obtain ⟨hs, rfl⟩ := h
  have HS := Aside0.mk hs
  clear hs
  have hu29 := Try.underlying29
  have hz0 : Aside0 ((Try.prog.info? 29).map (·.size) = some (chk_row 256).size) := ⟨by rw [chk_row_size]; exact chk_info⟩
  obtain ⟨c0, hc0⟩ : ∃ c, c = Go.bits .xor .u32 a0 4294967295 := ⟨_, rfl⟩
  have hr0 : 0 ≤ c0 ∧ c0 < 4294967296 := by rw [hc0]; simp only [Go.bits, IntKind.wrap_u32]; omega
  have HC0 := Aside0.mk hc0
  clear hc0
  go_enter Try.func8, Try.ntmps8
  go_wp2_with (first | (go_at_call 10; refine (chk_table _).mono ?_; rintro e w1 ⟨rfl, hb⟩; have HB1 := Aside0.mk hb; clear hb) | ((with_reducible refine gate_dst (N := 5) rfl ?_); refine box_event ?hg (N := 5) ?hd (cs := chk_row 0) (t := 29) ?hr ?_; (case hd => rfl); (case hg => rfl); (case hr => exact chk_alloc _ _ _ rfl rfl); intro g hg w2 hb0 hbb; have A0 := Aside0.mk hg; have B0 := Aside0.mk hb0; have C0 := Aside0.mk hbb; clear hg hb0 hbb) | (refine wpList_store_row rfl 29 _ _ rfl g (chk_row 256) rfl rfl 29 (chk_row 0) B0.out hz0.out (by rw [chk_row_size, chk_row_size]) (chk_row_one 256) ?_))
  have HW : Aside0 ((w2.setRow g (chk_row 256)).heap[g]? = some (.cells (chk_row 256) 29 (0, 0))) := ⟨setRow_heap _ g _ _ 29 _ B0.out⟩
  have HB : Aside0 (Below w.heap.size w (w2.setRow g (chk_row 256))) := ⟨by
    have hle : w.heap.size ≤ g := by rw [A0.out]; exact HB1.out.size
    exact (HB1.out.trans (C0.out.mono HB1.out.size)).trans ⟨rfl, rfl, rfl, by simp [World.setRow], fun k hk => by
        have : g ≠ k := by omega
        simp [World.setRow, Array.getElem?_modify, this]⟩⟩
  generalize w2.setRow g (chk_row 256) = w3 at *
  go_loopw [0, 12] (fun c i W => ∃ x : Int, 0 ≤ x ∧ x ≤ (a1.size : Int) ∧ i = .int .i64 x ∧ c = .int .u32 (chk_upto c0 a1 x.toNat) ∧ W = w3) (fun _ i _ => a1.size - (intOf i).toNat)
  case atStart => exact ⟨0, by omega, by omega, rfl, by rw [HC0.out]; rfl, rfl⟩
  case round =>
    obtain ⟨x, hx0, hx1, rfl, rfl, rfl⟩ := hrel
    by_cases hlt : x < (a1.size : Int)
    · have hr := chk_upto_range c0 a1 hr0 x.toNat
      have HN := Aside0.mk (chk_upto_next c0 a1 x hx0)
      have hx := bt_at a1 x
      have hix := chk_idx (chk_upto c0 a1 x.toNat) (bt a1 x)
      have HQ := Aside0.mk hr
      clear hr
      generalize chk_upto c0 a1 x.toNat = q at *
      have p6 := eq_true hx0
      have q6 := eq_true hlt
      obtain ⟨hi0, hi1⟩ := hix
      have hc1 := (blk_cell HW.out (Go.bits .xor .u8 (q % 256) (bt a1 x)).toNat).trans (chk_row_full _ hi0 hi1)
      go_wp2
      go_roundw
      case rel =>
        have hw : wrap64 (x + 1) = x + 1 := chk_fits_wrap a1 HS.out x hx0 hlt
        refine ⟨x + 1, by omega, by omega, by rw [hw], ?_, trivial⟩
        rw [HN.out]
        rfl
      case measure =>
        have hw : wrap64 (x + 1) = x + 1 := chk_fits_wrap a1 HS.out x hx0 hlt
        rw [hw]
        simp [intOf]; omega
    · obtain rfl : x = a1.size := by omega
      rw [Int.toNat_natCast]
      go_wp2
      obtain rfl := HC0.out
      go_ret
      exact ⟨rfl, HB.out⟩

/-! ### check_Of: function 9 -/
def check_Of.f (a0 : ByteArray) : Option (Int) := (check_On.f 0 a0).bind fun t101 => (some t101)
set_option maxHeartbeats 8000000 in
set_option maxRecDepth 100000 in
theorem check_Of.calls (a0 : ByteArray) (r : Int) (w : World) (h : check_Of.f a0 = some r) :
    Calls Try.prog 9 #[.string a0] w fun e w' => e = .returned (.int .u32 r) ∧ Below w.heap.size w w' := by
  have HB := Aside0.mk (Below.refl w.heap.size w)
  have H : ((check_On.f 0 a0).bind fun t101 => (some t101)) = some r := h
  clear h
  replace H := Option.bind_eq_some_iff.mp H
  obtain ⟨t101, A20, H⟩ := H
  replace H : (some t101) = some r := H
  have A2 := Aside0.mk A20
  clear A20
  obtain rfl := Option.some.inj H
  go_enter Try.func9, Try.ntmps9
  go_wp2_with (first | ((with_reducible refine gate_callee (f := 8) rfl ?_); refine goesL_ (some 4) rfl rfl Try.func8 (by kernel_rfl) rfl #[.int .u32 0, .string a0] rfl (by (try simp only [List.map_toArray, List.map_cons, List.map_nil]); first | done | rfl | (simp only [List.length_drop, List.length_take]; rfl)) ?_; (with_reducible refine (check_On.calls 0 a0 t101 _ A2.out).mono ?_); rintro e w3 ⟨rfl, hb⟩; refine ⟨_, rfl, ?_⟩; have n0_ := Aside0.mk (below_step (by repeat (first | (with_reducible first | exact HB.out | apply below_alloc | apply pw_below_drewN | apply below_drew1) | exact HB.out)) hb); clear HB; have HB := n0_; clear n0_; (try clear hb); (try clear hb2); (try clear hk); (try clear hi)))
  go_ret
  exact ⟨by first | rfl | (simp [errW_none, errW_some] <;> rfl) | (simp [*, errW_none, errW_some] <;> rfl), by repeat (first | (with_reducible first | exact HB.out | apply below_alloc | apply pw_below_drewN | apply below_drew1) | exact HB.out)⟩

/-! ### tarrylaw02_alive: function 7 -/
def tarrylaw02_alive.f  : Option (Bool) := (check_Of.f (⟨#[49, 50, 51, 52, 53, 54, 55, 56, 57]⟩ : ByteArray)).bind fun t102 => (some (t102 == 3808858755))
set_option maxHeartbeats 8000000 in
set_option maxRecDepth 100000 in
theorem tarrylaw02_alive.calls  (r : Bool) (w : World) (h : tarrylaw02_alive.f  = some r) :
    Calls Try.prog 7 #[] w fun e w' => e = .returned (.bool r) ∧ Below w.heap.size w w' := by
  have HB := Aside0.mk (Below.refl w.heap.size w)
  have H : ((check_Of.f (⟨#[49, 50, 51, 52, 53, 54, 55, 56, 57]⟩ : ByteArray)).bind fun t102 => (some (t102 == 3808858755))) = some r := h
  clear h
  replace H := Option.bind_eq_some_iff.mp H
  obtain ⟨t102, A10, H⟩ := H
  replace H : (some (t102 == 3808858755)) = some r := H
  have A1 := Aside0.mk A10
  clear A10
  obtain rfl := Option.some.inj H
  go_enter Try.func7, Try.ntmps7
  go_wp2_with (first | ((with_reducible refine gate_callee (f := 9) rfl ?_); refine goesL_ (some 1) rfl rfl Try.func9 (by kernel_rfl) rfl #[.string (⟨#[49, 50, 51, 52, 53, 54, 55, 56, 57]⟩ : ByteArray)] rfl (by (try simp only [List.map_toArray, List.map_cons, List.map_nil]); first | done | rfl | (simp only [List.length_drop, List.length_take]; rfl)) ?_; (with_reducible refine (check_Of.calls (⟨#[49, 50, 51, 52, 53, 54, 55, 56, 57]⟩ : ByteArray) t102 _ A1.out).mono ?_); rintro e w2 ⟨rfl, hb⟩; refine ⟨_, rfl, ?_⟩; have n0_ := Aside0.mk (below_step (by repeat (first | (with_reducible first | exact HB.out | apply below_alloc | apply pw_below_drewN | apply below_drew1) | exact HB.out)) hb); clear HB; have HB := n0_; clear n0_; (try clear hb); (try clear hb2); (try clear hk); (try clear hi)))
  go_ret
  exact ⟨by first | rfl | (simp [errW_none, errW_some] <;> rfl) | (simp [*, errW_none, errW_some] <;> rfl), by repeat (first | (with_reducible first | exact HB.out | apply below_alloc | apply pw_below_drewN | apply below_drew1) | exact HB.out)⟩

/-! ### the law CheckXors (by hand) -/
theorem mn_le_left (a b : Int) : mn a b ≤ a := by unfold mn; split <;> omega
theorem mn_le_right (a b : Int) : mn a b ≤ b := by unfold mn; split <;> omega
theorem mn_nonneg {a b : Int} (h : 0 ≤ a) (h' : 0 ≤ b) : 0 ≤ mn a b := by unfold mn; split <;> omega
theorem fits_small {s : ByteArray} (h : s.size ≤ 1000000) : chk_fits s = true := by
  unfold chk_fits
  exact decide_eq_true (by omega)
/-- The xor of two, of 32 bits, in natural numbers. -/
theorem x32 (a b : Nat) (ha : a < 4294967296) (hb : b < 4294967296) : Go.bits .xor .u32 (a : Int) (b : Int) = ((a ^^^ b : Nat) : Int) := by
  have h : (a ^^^ b) < 4294967296 := Nat.xor_lt_two_pow (n := 32) ha hb
  simp only [Go.bits, IntKind.wrap_u32]
  have e1 : (BitVec.ofInt IntKind.u32.bits (a : Int) ^^^ BitVec.ofInt IntKind.u32.bits (b : Int)).toNat = a ^^^ b := by
    show (BitVec.ofInt 32 (a : Int) ^^^ BitVec.ofInt 32 (b : Int)).toNat = a ^^^ b
    rw [BitVec.toNat_xor]
    simp [BitVec.toNat_ofNat]
    rw [Nat.mod_eq_of_lt ha, Nat.mod_eq_of_lt hb]
  rw [e1]
  omega
theorem x8 (a b : Nat) (ha : a < 256) (hb : b < 256) : Go.bits .xor .u8 (a : Int) (b : Int) = ((a ^^^ b : Nat) : Int) := by
  have h : (a ^^^ b) < 256 := Nat.xor_lt_two_pow (n := 8) ha hb
  simp only [Go.bits, IntKind.wrap_u8]
  have e1 : (BitVec.ofInt IntKind.u8.bits (a : Int) ^^^ BitVec.ofInt IntKind.u8.bits (b : Int)).toNat = a ^^^ b := by
    show (BitVec.ofInt 8 (a : Int) ^^^ BitVec.ofInt 8 (b : Int)).toNat = a ^^^ b
    rw [BitVec.toNat_xor]
    simp [BitVec.toNat_ofNat]
    rw [Nat.mod_eq_of_lt ha, Nat.mod_eq_of_lt hb]
  rw [e1]
  omega
/-! The check, in natural numbers. -/
def cstp (c : Nat) : Nat := if c % 2 = 1 then (c / 2) ^^^ 2197175160 else c / 2
def cit : Nat → Nat → Nat
  | 0, c => c
  | n + 1, c => cstp (cit n c)
def bn (s : ByteArray) (i : Nat) : Nat := (s.data.toList.getD i 0).toNat
def cbyte (c b : Nat) : Nat := (c / 256) ^^^ cit 8 ((c % 256) ^^^ b)
def cupto (c : Nat) (s : ByteArray) : Nat → Nat
  | 0 => c
  | i + 1 => cbyte (cupto c s i) (bn s i)
theorem bn_lt (s : ByteArray) (i : Nat) : bn s i < 256 := UInt8.toNat_lt _
theorem bt_bn (s : ByteArray) (i : Nat) : bt s (i : Int) = (bn s i : Int) := by
  unfold bt bn
  have hl : s.data.toList.length = s.size := by rw [Array.length_toList]; rfl
  by_cases h : i < s.size
  · have h' : ((i : Int)).toNat < s.size := by simpa using h
    rw [dif_pos h']
    have h2 : i < s.data.toList.length := by omega
    simp [List.getD_eq_getElem?_getD, List.getElem?_eq_getElem h2]
    rfl
  · have h' : ¬ ((i : Int)).toNat < s.size := by simpa using h
    rw [dif_neg h']
    have h2 : s.data.toList.length ≤ i := by omega
    simp [List.getD_eq_getElem?_getD, List.getElem?_eq_none h2]
theorem cstp_lt (c : Nat) (h : c < 4294967296) : cstp c < 4294967296 := by
  unfold cstp
  split
  · exact Nat.xor_lt_two_pow (n := 32) (by omega) (by decide)
  · omega
theorem cit_lt (n c : Nat) (h : c < 4294967296) : cit n c < 4294967296 := by
  induction n with
  | zero => exact h
  | succ n ih => exact cstp_lt _ ih
theorem stp_n (c : Nat) (h : c < 4294967296) : chk_stp (c : Int) = (cstp c : Int) := by
  unfold chk_stp cstp
  by_cases hc : c % 2 = 1
  · rw [if_pos hc, if_pos (by omega)]
    have := x32 (c / 2) 2197175160 (by omega) (by decide)
    rw [← this]
    congr 1
  · rw [if_neg hc, if_neg (by omega)]
    omega
theorem it_n (n c : Nat) (h : c < 4294967296) : chk_it n (c : Int) = (cit n c : Int) := by
  induction n with
  | zero => rfl
  | succ n ih =>
    show chk_stp (chk_it n c) = (cstp (cit n c) : Int)
    rw [ih, stp_n _ (cit_lt n c h)]
theorem xor8_lt {a b : Nat} (ha : a < 256) (hb : b < 256) : a ^^^ b < 256 := Nat.xor_lt_two_pow (n := 8) ha hb
theorem cbyte_lt (c b : Nat) (h : c < 4294967296) (hb : b < 256) : cbyte c b < 4294967296 :=
  Nat.xor_lt_two_pow (n := 32) (by omega) (cit_lt _ _ (by have := xor8_lt (a := c % 256) (b := b) (by omega) hb; omega))
theorem byte_n (c b : Nat) (h : c < 4294967296) (hb : b < 256) : chk_byte (c : Int) (b : Int) = (cbyte c b : Int) := by
  unfold chk_byte cbyte
  have e1 : ((c : Int) % 256) = ((c % 256 : Nat) : Int) := by omega
  have e2 : ((c : Int) / 256) = ((c / 256 : Nat) : Int) := by omega
  have hx := xor8_lt (a := c % 256) (b := b) (by omega) hb
  rw [e1, e2, x8 _ _ (by omega) hb, it_n _ _ (by omega), x32 _ _ (by omega) (cit_lt _ _ (by omega))]
theorem cupto_lt (c : Nat) (s : ByteArray) (h : c < 4294967296) : ∀ i, cupto c s i < 4294967296
  | 0 => h
  | i + 1 => cbyte_lt _ _ (cupto_lt c s h i) (bn_lt s i)
theorem upto_n (c : Nat) (s : ByteArray) (h : c < 4294967296) : ∀ i, chk_upto (c : Int) s i = (cupto c s i : Int)
  | 0 => rfl
  | i + 1 => by
    show chk_byte (chk_upto (c : Int) s i) (bt s (i : Int)) = (cbyte (cupto c s i) (bn s i) : Int)
    rw [upto_n c s h i, bt_bn, byte_n _ _ (cupto_lt c s h i) (bn_lt s i)]
/-- The check of a text, on from another one. -/
def con (c : Nat) (s : ByteArray) : Nat := (cupto (c ^^^ 4294967295) s s.size) ^^^ 4294967295
theorem con_lt (c : Nat) (s : ByteArray) (h : c < 4294967296) : con c s < 4294967296 :=
  Nat.xor_lt_two_pow (n := 32) (cupto_lt _ _ (Nat.xor_lt_two_pow (n := 32) h (by decide)) _) (by decide)
theorem On_n (c : Nat) (s : ByteArray) (h : c < 4294967296) (hs : s.size ≤ 1000000) : check_On.f (c : Int) s = some (con c s : Int) := by
  have h1 : c ^^^ 4294967295 < 4294967296 := Nat.xor_lt_two_pow (n := 32) h (by decide)
  unfold check_On.f con
  rw [if_pos (fits_small hs)]
  have e1 : Go.bits .xor .u32 (c : Int) 4294967295 = ((c ^^^ 4294967295 : Nat) : Int) := x32 c 4294967295 h (by decide)
  rw [e1, upto_n _ _ h1]
  exact congrArg some (x32 _ 4294967295 (cupto_lt _ _ h1 _) (by decide))
theorem Of_n (s : ByteArray) (hs : s.size ≤ 1000000) : check_Of.f s = some (con 0 s : Int) := by
  unfold check_Of.f
  rw [show (0 : Int) = ((0 : Nat) : Int) from rfl, On_n 0 s (by decide) hs]
  rfl
theorem cupto_congr (c : Nat) (s t : ByteArray) : ∀ n, (∀ i, i < n → bn s i = bn t i) → cupto c s n = cupto c t n
  | 0, _ => rfl
  | n + 1, h => by
    show cbyte (cupto c s n) (bn s n) = cbyte (cupto c t n) (bn t n)
    rw [cupto_congr c s t n (fun i hi => h i (by omega)), h n (by omega)]
theorem cupto_add (c : Nat) (s t : ByteArray) (n : Nat) : ∀ m, (∀ i, i < m → bn s (n + i) = bn t i) → cupto c s (n + m) = cupto (cupto c s n) t m
  | 0, _ => rfl
  | m + 1, h => by
    show cbyte (cupto c s (n + m)) (bn s (n + m)) = cbyte (cupto (cupto c s n) t m) (bn t m)
    rw [cupto_add c s t n m (fun i hi => h i (by omega)), h m (by omega)]
theorem bn_left (s t : ByteArray) (i : Nat) (h : i < s.size) : bn (s ++ t) i = bn s i := by
  have h2 : i < s.data.toList.length := by rw [Array.length_toList]; exact h
  unfold bn
  rw [ByteArray.data_append, Array.toList_append, List.getD_eq_getElem?_getD, List.getElem?_append_left h2, ← List.getD_eq_getElem?_getD]
theorem bn_right (s t : ByteArray) (i : Nat) : bn (s ++ t) (s.size + i) = bn t i := by
  have h2 : s.data.toList.length = s.size := by rw [Array.length_toList]; rfl
  unfold bn
  rw [ByteArray.data_append, Array.toList_append, List.getD_eq_getElem?_getD, List.getElem?_append_right (by omega), h2, Nat.add_sub_cancel_left, ← List.getD_eq_getElem?_getD]
theorem con_app (c : Nat) (s t : ByteArray) : con (con c s) t = con c (s ++ t) := by
  unfold con
  have e : ∀ v : Nat, v ^^^ 4294967295 ^^^ 4294967295 = v := fun v => by rw [Nat.xor_assoc, Nat.xor_self, Nat.xor_zero]
  rw [e, ByteArray.size_append, cupto_add _ (s ++ t) t s.size t.size (fun i _ => bn_right s t i), cupto_congr _ (s ++ t) s s.size (fun i hi => bn_left s t i hi)]
theorem alive_f : tarrylaw02_alive.f = some true := by
  unfold tarrylaw02_alive.f
  rw [Of_n _ (by decide)]
  decide +kernel
theorem take_size (a : ByteArray) (n : Int) (h : n ≤ 200) : (a.extract 0 n.toNat).size ≤ 200 := by
  rw [ByteArray.size_extract]
  omega
/-! The check is linear. -/
theorem xor_half (x y : Nat) : (x ^^^ y) / 2 = x / 2 ^^^ y / 2 := by
  have h := Nat.shiftRight_xor_distrib (a := x) (b := y) (i := 1)
  simpa [Nat.shiftRight_eq_div_pow] using h
theorem xor_low (x y : Nat) : (x ^^^ y) % 2 = (x % 2 + y % 2) % 2 := by
  have h := Nat.xor_mod_two_pow (a := x) (b := y) (n := 1)
  simp only [Nat.pow_one] at h
  rw [h]
  rcases Nat.mod_two_eq_zero_or_one x with hx | hx <;> rcases Nat.mod_two_eq_zero_or_one y with hy | hy <;> rw [hx, hy] <;> rfl
theorem cstp_xor (x y : Nat) : cstp (x ^^^ y) = cstp x ^^^ cstp y := by
  unfold cstp
  rw [xor_low, xor_half]
  rcases Nat.mod_two_eq_zero_or_one x with hx | hx <;> rcases Nat.mod_two_eq_zero_or_one y with hy | hy <;> simp only [hx, hy] <;> simp
  · rw [Nat.xor_assoc]
  · rw [Nat.xor_assoc, Nat.xor_assoc, Nat.xor_comm (y / 2)]
  · rw [show (x / 2 ^^^ 2197175160) ^^^ (y / 2 ^^^ 2197175160) = (x / 2 ^^^ y / 2) ^^^ (2197175160 ^^^ 2197175160) by ac_rfl]
    simp
theorem cit_xor (n x y : Nat) : cit n (x ^^^ y) = cit n x ^^^ cit n y := by
  induction n with
  | zero => rfl
  | succ n ih =>
    show cstp (cit n (x ^^^ y)) = cstp (cit n x) ^^^ cstp (cit n y)
    rw [ih, cstp_xor]
theorem cit_front (n c : Nat) : cit n (cstp c) = cit (n + 1) c := by
  induction n with
  | zero => rfl
  | succ n ih =>
    show cstp (cit n (cstp c)) = cstp (cit (n + 1) c)
    rw [ih]
theorem cit_add (m n c : Nat) : cit m (cit n c) = cit (m + n) c := by
  induction m with
  | zero => rw [Nat.zero_add]; rfl
  | succ m ih =>
    rw [show m + 1 + n = (m + n) + 1 by omega]
    show cstp (cit m (cit n c)) = cstp (cit (m + n) c)
    rw [ih]
theorem cit_pow (n d : Nat) : cit n (2 ^ n * d) = d := by
  induction n generalizing d with
  | zero => simp [cit]
  | succ n ih =>
    rw [← cit_front]
    have e : cstp (2 ^ (n + 1) * d) = 2 ^ n * d := by
      unfold cstp
      rw [Nat.pow_succ]
      rw [if_neg (by rw [Nat.mul_comm (2 ^ n) 2, Nat.mul_assoc]; omega)]
      rw [Nat.mul_comm (2 ^ n) 2, Nat.mul_assoc]
      omega
    rw [e, ih]
theorem xor_split (c : Nat) : c = (256 * (c / 256)) ^^^ (c % 256) := by
  have h := Nat.two_pow_add_eq_or_of_lt (i := 8) (b := c % 256) (Nat.mod_lt _ (by decide)) (c / 256)
  have h2 : 256 * (c / 256) ^^^ c % 256 = 256 * (c / 256) ||| c % 256 := by
    apply Nat.eq_of_testBit_eq
    intro i
    rw [Nat.testBit_xor, Nat.testBit_or]
    have e1 : (256 * (c / 256)).testBit i = (decide (i ≥ 8) && c.testBit i) := by
      rw [show (256 : Nat) = 2 ^ 8 from rfl, Nat.testBit_two_pow_mul, Nat.testBit_div_two_pow]
      by_cases hi : i ≥ 8
      · rw [show i - 8 + 8 = i by omega]
      · simp [hi]
    have e2 : (c % 256).testBit i = (decide (i < 8) && c.testBit i) := by
      rw [show (256 : Nat) = 2 ^ 8 from rfl, Nat.testBit_mod_two_pow]
    rw [e1, e2]
    by_cases hi : i < 8
    · simp [hi, show ¬ 8 ≤ i by omega]
    · simp [hi, show 8 ≤ i by omega]
  rw [h2, ← show (256 : Nat) = 2 ^ 8 from rfl] at *
  rw [← h]
  omega
theorem cbyte_bits (c b : Nat) : cbyte c b = cit 8 (c ^^^ b) := by
  unfold cbyte
  have e : c ^^^ b = (256 * (c / 256)) ^^^ ((c % 256) ^^^ b) := by
    rw [← Nat.xor_assoc, ← xor_split]
  rw [e, cit_xor 8 (256 * (c / 256)), show (256 : Nat) * (c / 256) = 2 ^ 8 * (c / 256) from rfl, cit_pow]
theorem chk_drewN {B : Nat} {w W : World} (h : Below B w W) (m : Nat) : Below B w (W.drewN m) := h.trans ⟨rfl, rfl, rfl, Nat.le_refl _, fun _ _ => rfl⟩
theorem chk_drew {B : Nat} {w W : World} (h : Below B w W) : Below B w W.drew := h.trans ⟨rfl, rfl, rfl, Nat.le_refl _, fun _ _ => rfl⟩
/-- A row of bytes in a block of its own, whose mark (a conversion's) lies behind them. -/
def BR (w : World) (g : Nat) (l : List Int) : Prop := ∃ cs t z, w.heap[g]? = some (.cells cs t z) ∧ l.length ≤ z.1 ∧ l.length ≤ cs.size ∧ ∀ i, i < l.length → cs[i]? = some (.int .u8 (l.getD i 0))
theorem BR.cell {w : World} {g : Nat} {l : List Int} (h : BR w g l) (i : Nat) (hi : i < l.length) : w.cell? ⟨g, i, none⟩ = some (.int .u8 (l.getD i 0)) := by
  obtain ⟨cs, t, z, h1, h2, h3, h4⟩ := h
  simp [World.cell?, h1, h4 i hi]
theorem BR.frozen {w : World} {g : Nat} {l : List Int} (h : BR w g l) (i : Nat) (hi : i < l.length) : w.frozen? ⟨g, i, none⟩ = false := by
  obtain ⟨cs, t, ⟨z1, z2⟩, h1, h2, h3, h4⟩ := h
  simp only at h2
  simp [World.frozen?, h1]
  intro h
  omega
theorem BR.put {w : World} {g : Nat} {l l' : List Int} (h : BR w g l) (i : Nat) (v : Int) (e : l.set i v = l') : BR (w.setCell ⟨g, i, none⟩ (.int .u8 v)) g l' := by
  obtain ⟨cs, t, z, h1, h2, h3, h4⟩ := h
  subst e
  refine ⟨cs.setIfInBounds i (.int .u8 v), t, z, by simp [World.setCell, Array.getElem?_modify, h1], by simpa using h2, by simpa using h3, fun k hk => ?_⟩
  rw [List.length_set] at hk
  rw [Array.getElem?_setIfInBounds]
  by_cases hki : i = k
  · subst hki
    rw [if_pos rfl, if_pos (by omega)]
    simp [List.getD_eq_getElem?_getD, hk]
  · rw [if_neg hki, h4 k hk]
    simp [List.getD_eq_getElem?_getD, List.getElem?_set, hki]
theorem BR.below {w w1 : World} {g : Nat} {l : List Int} (h : BR w g l) (hb : Below w.heap.size w w1) : BR w1 g l := by
  obtain ⟨cs, t, z, h1, h2⟩ := h
  exact ⟨cs, t, z, blk_below h1 hb, h2⟩
theorem BR.drewN {w : World} {g : Nat} {l : List Int} (h : BR w g l) (n : Nat) : BR (w.drewN n) g l := h
theorem BR.drew {w : World} {g : Nat} {l : List Int} (h : BR w g l) : BR w.drew g l := h
theorem BR.bytes (w : World) (e : TypeId) (s : ByteArray) : BR (Lib.bytesWorld w e s) w.heap.size (bytesOf s) := by
  have hsz : s.size ≤ (Lib.bytesCells w e s).size := by
    unfold Lib.bytesCells
    rw [Array.size_append, Array.size_map]
    exact Nat.le_add_right _ _
  refine ⟨_, _, _, Lib.bytesWorld_at_new w e s, by rw [bytesOf_length]; exact hsz, by rw [bytesOf_length]; exact hsz, fun i hi => ?_⟩
  rw [bytesOf_length] at hi
  have h := Lib.bytesWorld_cell w e s i hi
  have h2 : (Lib.bytesWorld w e s).cell? ⟨w.heap.size, i, none⟩ = (Lib.bytesCells w e s)[i]? := by simp [World.cell?, Lib.bytesWorld_at_new]
  have h' : i < s.data.toList.length := by rw [data_length]; exact hi
  rw [← h2, h]
  simp [bytesOf, List.getD_eq_getElem?_getD, List.getElem?_eq_getElem h']
theorem BR.text {w : World} {g : Nat} {l : List Int} (h : BR w g l) (n c : Nat) (hn : l.length = n) : (convert 27 9 (.slice (some ⟨g, 0, none⟩) n c)).run Try.prog w = .ok (.string (strOfNums l)) w :=
  run_convert_bytes_arg w 27 5 Try.underlying27 Try.underlying5 g 0 n c l hn (fun i hi => by rw [Nat.zero_add]; exact h.cell i (by omega)) 9 Try.underlying9
theorem bn_take (s : ByteArray) (n i : Nat) (h : i < n) (hn : n ≤ s.size) : bn (s.extract 0 n) i = bn s i := by
  have h1 : i < s.size := by omega
  unfold bn
  have e : (s.extract 0 n).data.toList = s.data.toList.take n := by
    rw [ByteArray.data_extract]
    simp
  rw [e, List.getD_eq_getElem?_getD, List.getElem?_take, if_pos h, ← List.getD_eq_getElem?_getD]
theorem take_len (s : ByteArray) (n : Nat) (hn : n ≤ s.size) : (s.extract 0 n).size = n := by
  rw [ByteArray.size_extract]
  omega
theorem nums_size (l : List Int) : (strOfNums l).size = l.length := by simp [strOfNums, ByteArray.size]
theorem nums_bn (l : List Int) (i : Nat) (h : i < l.length) : bn (strOfNums l) i = (l.getD i 0).toNat % 256 := by
  unfold bn strOfNums
  simp [List.getD_eq_getElem?_getD, List.getElem?_map, List.getElem?_eq_getElem h]
theorem bytes_bn (s : ByteArray) (i : Nat) : (bytesOf s).getD i 0 = (bn s i : Int) := by
  unfold bytesOf bn
  rw [List.getD_eq_getElem?_getD, List.getElem?_map, List.getD_eq_getElem?_getD]
  cases s.data.toList[i]? <;> rfl
theorem cupto_xor3 (x a b c : ByteArray) (c1 c2 c3 : Nat) : ∀ n, (∀ i, i < n → bn x i = bn a i ^^^ (bn b i ^^^ bn c i)) → cupto (c1 ^^^ (c2 ^^^ c3)) x n = cupto c1 a n ^^^ (cupto c2 b n ^^^ cupto c3 c n)
  | 0, _ => rfl
  | n + 1, h => by
    show cbyte (cupto _ x n) (bn x n) = cbyte (cupto c1 a n) (bn a n) ^^^ (cbyte (cupto c2 b n) (bn b n) ^^^ cbyte (cupto c3 c n) (bn c n))
    rw [cupto_xor3 x a b c c1 c2 c3 n (fun i hi => h i (by omega)), h n (by omega)]
    simp only [cbyte_bits]
    rw [← cit_xor, ← cit_xor]
    congr 1
    ac_rfl
/-- The row behind i rounds. -/
def xrow (a b c : ByteArray) (n i : Nat) : List Int := (List.range n).map fun t => if t < i then ((bn a t ^^^ (bn b t ^^^ bn c t) : Nat) : Int) else (bn a t : Int)
theorem xrow_length (a b c : ByteArray) (n i : Nat) : (xrow a b c n i).length = n := by simp [xrow]
theorem xrow_at (a b c : ByteArray) (n i t : Nat) (h : t < n) : (xrow a b c n i).getD t 0 = if t < i then ((bn a t ^^^ (bn b t ^^^ bn c t) : Nat) : Int) else (bn a t : Int) := by
  simp [xrow, List.getD_eq_getElem?_getD, h]
theorem xrow_start (a b c : ByteArray) (n : Nat) (hn : n ≤ a.size) : bytesOf (a.extract 0 n) = xrow a b c n 0 := by
  apply List.ext_getElem
  · rw [bytesOf_length, take_len a n hn, xrow_length]
  · intro t h1 h2
    have ht : t < n := by rw [xrow_length] at h2; exact h2
    have e1 := bytes_bn (a.extract 0 n) t
    have e2 := xrow_at a b c n 0 t ht
    rw [bn_take a n t ht hn] at e1
    rw [if_neg (Nat.not_lt_zero _)] at e2
    rw [List.getD_eq_getElem?_getD, List.getElem?_eq_getElem h1] at e1
    rw [List.getD_eq_getElem?_getD, List.getElem?_eq_getElem h2] at e2
    exact e1.trans e2.symm
theorem xrow_set (a b c : ByteArray) (n i : Nat) (h : i < n) : (xrow a b c n i).set i ((bn a i ^^^ (bn b i ^^^ bn c i) : Nat) : Int) = xrow a b c n (i + 1) := by
  apply List.ext_getElem
  · rw [List.length_set, xrow_length, xrow_length]
  · intro t h1 h2
    have ht : t < n := by rw [xrow_length] at h2; exact h2
    have e1 := xrow_at a b c n i t ht
    have e2 := xrow_at a b c n (i + 1) t ht
    rw [List.getD_eq_getElem?_getD, List.getElem?_eq_getElem (by rw [xrow_length]; exact ht)] at e1
    rw [List.getD_eq_getElem?_getD, List.getElem?_eq_getElem h2] at e2
    rw [List.getElem_set]
    by_cases hti : i = t
    · subst hti
      rw [if_pos rfl]
      rw [if_pos (by omega)] at e2
      exact e2.symm
    · rw [if_neg hti]
      refine e1.trans (Eq.trans ?_ e2.symm)
      have : (t < i + 1) ↔ t < i := by omega
      simp [this]
theorem xrow_con (a b c : ByteArray) (n : Nat) (ha : n ≤ a.size) (hb : n ≤ b.size) (hc : n ≤ c.size) :
    con 0 (strOfNums (xrow a b c n n)) = con 0 (a.extract 0 n) ^^^ con 0 (b.extract 0 n) ^^^ con 0 (c.extract 0 n) := by
  unfold con
  rw [nums_size, xrow_length, take_len a n ha, take_len b n hb, take_len c n hc]
  have h := cupto_xor3 (strOfNums (xrow a b c n n)) (a.extract 0 n) (b.extract 0 n) (c.extract 0 n) (0 ^^^ 4294967295) (0 ^^^ 4294967295) (0 ^^^ 4294967295) n (fun i hi => by
    rw [nums_bn _ _ (by rw [xrow_length]; exact hi), xrow_at a b c n n i hi, if_pos hi, bn_take a n i hi ha, bn_take b n i hi hb, bn_take c n i hi hc, Int.toNat_natCast]
    exact Nat.mod_eq_of_lt (xor8_lt (bn_lt a i) (xor8_lt (bn_lt b i) (bn_lt c i))))
  rw [show (0 ^^^ 4294967295 : Nat) ^^^ ((0 ^^^ 4294967295) ^^^ (0 ^^^ 4294967295)) = (0 ^^^ 4294967295) from rfl] at h
  rw [h]
  generalize cupto _ (a.extract 0 n) n = x
  generalize cupto _ (b.extract 0 n) n = y
  generalize cupto _ (c.extract 0 n) n = z
  rw [show x ^^^ 4294967295 ^^^ (y ^^^ 4294967295) ^^^ (z ^^^ 4294967295) = (x ^^^ (y ^^^ z)) ^^^ (4294967295 ^^^ (4294967295 ^^^ 4294967295)) by ac_rfl]
  rw [Nat.xor_self, Nat.xor_zero]
theorem xkeep {w w1 w2 : World} {g n : Nat} {l : List Int} (cap : Nat) (hl : l.length = n) (h : (convert 27 9 (.slice (some ⟨g, 0, none⟩) n cap)).run Try.prog w1 = .ok (.string (strOfNums l)) w1 ∧ BR w1 g l ∧ Below g w w1) (hb : Below w1.heap.size w1 w2) :
    (convert 27 9 (.slice (some ⟨g, 0, none⟩) n cap)).run Try.prog w2 = .ok (.string (strOfNums l)) w2 ∧ BR w2 g l ∧ Below g w w2 := by
  obtain ⟨_, h2, h3⟩ := h
  have hg : g ≤ w1.heap.size := by
    obtain ⟨cs, t, z, e, _⟩ := h2
    exact Nat.le_of_lt (blk_lt e)
  exact ⟨BR.text (BR.below h2 hb) n cap hl, BR.below h2 hb, h3.trans (hb.mono hg)⟩
theorem chk_bytes (W : World) (s : ByteArray) : (convert 9 27 (.string s)).run Try.prog W = .ok (.slice (some ⟨W.heap.size, 0, none⟩) s.size (grownCap W s.size 0 5)) (Lib.bytesWorld W 5 s) := Lib.run_convert_string_bytes W 9 27 5 s Try.underlying9 Try.underlying27 Try.underlying5
/-- The law's function: true for every three texts. -/
def tarrylaw02_CheckXors.f (a0 a1 a2 : ByteArray) : Option Bool := some true
set_option maxHeartbeats 4000000 in
set_option maxRecDepth 100000 in
theorem tarrylaw02_CheckXors.calls (a0 a1 a2 : ByteArray) (r : Bool) (w : World) (h : tarrylaw02_CheckXors.f a0 a1 a2 = some r) :
    Calls Try.prog 5 #[.string a0, .string a1, .string a2] w fun e w' => e = .returned (.bool r) ∧ Below w.heap.size w w' := by
  obtain rfl := Option.some.inj h
  clear h
  obtain ⟨j1, hj1⟩ : ∃ j : Int, (if (a1.size : Int) < (a0.size : Int) then (a1.size : Int) else (a0.size : Int)) = j := ⟨_, rfl⟩
  obtain ⟨j2, hj2⟩ : ∃ j : Int, (if (a2.size : Int) < j1 then (a2.size : Int) else j1) = j := ⟨_, rfl⟩
  obtain ⟨j3, hj3⟩ : ∃ j : Int, (if 200 < j2 then 200 else j2) = j := ⟨_, rfl⟩
  have l0 : 0 ≤ j3 ∧ j3 ≤ a0.size ∧ j3 ≤ a1.size ∧ j3 ≤ a2.size ∧ j3 ≤ 200 := by
    have h1 : 0 ≤ j1 ∧ j1 ≤ a0.size ∧ j1 ≤ a1.size := by rw [← hj1]; split <;> omega
    have h2 : 0 ≤ j2 ∧ j2 ≤ j1 ∧ j2 ≤ a2.size := by rw [← hj2]; split <;> omega
    have h3 : 0 ≤ j3 ∧ j3 ≤ j2 ∧ j3 ≤ 200 := by rw [← hj3]; split <;> omega
    omega
  obtain ⟨nn, n0, n1, n2, n200⟩ := l0
  have N0 : j3.toNat ≤ a0.size := by omega
  have N1 : j3.toNat ≤ a1.size := by omega
  have N2 : j3.toNat ≤ a2.size := by omega
  have h200 : j3.toNat ≤ 200 := by omega
  have hj := Aside0.mk (show j3 = ((j3.toNat : Nat) : Int) by omega)
  clear n200
  replace nn := eq_true nn
  replace n0 := eq_true n0
  replace n1 := eq_true n1
  replace n2 := eq_true n2
  have hcv := chk_bytes
  have hj1' : (if a1.size < a0.size then (a1.size : Int) else (a0.size : Int)) = j1 := by rw [← hj1]; simp only [Int.ofNat_lt]
  have hu27 := Try.underlying27
  go_enter Try.func5, Try.ntmps5
  go_wp2
  have HB0 := Aside0.mk (bytes_below (Below.refl w.heap.size w) (Nat.le_refl _) 5 (a0.extract 0 j3.toNat))
  have HR := Aside0.mk (BR.bytes w 5 (a0.extract 0 j3.toNat))
  generalize Lib.bytesWorld w 5 (a0.extract 0 j3.toNat) = w3 at *
  generalize j3.toNat = n at *
  generalize grownCap w n 0 5 = cap at *
  obtain rfl := hj.out
  clear hj
  have F1 := Aside0.mk (Of_n (a0.extract 0 n) (by rw [take_len a0 n N0]; omega))
  have F2 := Aside0.mk (Of_n (a1.extract 0 n) (by rw [take_len a1 n N1]; omega))
  have F3 := Aside0.mk (Of_n (a2.extract 0 n) (by rw [take_len a2 n N2]; omega))
  have F4 := Aside0.mk (Of_n (strOfNums (xrow a0 a1 a2 n n)) (by rw [nums_size, xrow_length]; omega))
  have FX := Aside0.mk (xrow_con a0 a1 a2 n N0 N1 N2)
  have HR0 := xrow_start a0 a1 a2 n N0
  rw [HR0] at HR
  clear HR0 hj1 hj2 hj3 hj1'
  generalize hg : w.heap.size = g at *
  have HG := Aside0.mk hg
  clear hg
  go_loopw [22] (fun v W => ∃ i : Nat, i ≤ n ∧ v = .int .i64 i ∧ Aside0 (BR W g (xrow a0 a1 a2 n i)) ∧ Aside0 (Below g w W)) (fun v _ => n - (intOf v).toNat)
  case atStart => exact ⟨0, by omega, rfl, HR, HB0⟩
  case round =>
    clear HR HB0
    obtain ⟨i, hi, rfl, HR, HB⟩ := hrel
    by_cases hlt : i < n
    · have hx1 := bt_at a1 i
      have hx2 := bt_at a2 i
      have hlen := xrow_length a0 a1 a2 n i
      have hc1 := HR.out.cell i (by rw [hlen]; exact hlt)
      have hf1 := HR.out.frozen i (by rw [hlen]; exact hlt)
      rw [xrow_at a0 a1 a2 n i i hlt, if_neg (Nat.lt_irrefl i)] at hc1
      have p0 : (0 : Int) ≤ (i : Int) := by omega
      have p1 : (i : Int) < (n : Int) := by omega
      have p2 : (i : Int) < (a1.size : Int) := by omega
      have p3 : (i : Int) < (a2.size : Int) := by omega
      have hv := x8 (bn a0 i) (bn a1 i ^^^ bn a2 i) (bn_lt _ _) (xor8_lt (bn_lt _ _) (bn_lt _ _))
      have hv2 := x8 (bn a1 i) (bn a2 i) (bn_lt _ _) (bn_lt _ _)
      rw [bt_bn] at hx1 hx2
      have HS := Aside0.mk (xrow_set a0 a1 a2 n i hlt)
      clear hlen
      generalize bn a0 i = b0 at *
      generalize bn a1 i = b1 at *
      generalize bn a2 i = b2 at *
      have HV := Aside0.mk hv
      have HV2 := Aside0.mk hv2
      clear hv hv2
      go_wp2
      go_region
      go_wp2
      go_roundw
      case rel =>
        refine ⟨i + 1, by omega, by go_num, ?_, ?_⟩
        · rw [show ((a1[i]'(by omega)).toNat : Int) = b1 from hx1 (by omega), show ((a2[i]'(by omega)).toNat : Int) = b2 from hx2 (by omega), HV2.out, HV.out]
          exact ⟨BR.drew (HR.out.put i _ HS.out)⟩
        · exact ⟨chk_drew (HB.out.setCell (Nat.le_refl _) _)⟩
      case measure => simp [intOf]; omega
    · obtain rfl : i = n := by omega
      have FA := Aside0.mk alive_f
      have HEQ : Aside0 (Go.bits .xor .u32 (Go.bits .xor .u32 (con 0 (a0.extract 0 i) : Int) (con 0 (a1.extract 0 i) : Int)) (con 0 (a2.extract 0 i) : Int) = (con 0 (strOfNums (xrow a0 a1 a2 i i)) : Int)) := ⟨by
        have k0 := con_lt 0 (a0.extract 0 i) (by decide)
        have k1 := con_lt 0 (a1.extract 0 i) (by decide)
        have k2 := con_lt 0 (a2.extract 0 i) (by decide)
        rw [FX.out, x32 _ _ k0 k1, x32 _ _ (Nat.xor_lt_two_pow (n := 32) k0 k1) k2]⟩
      go_wp2
      have hcs := HR.out.text i cap (xrow_length a0 a1 a2 i i)
      go_region_held3 (fun w' => (convert 27 9 (.slice (some ⟨g, 0, none⟩) i cap)).run Try.prog w' = .ok (.string (strOfNums (xrow a0 a1 a2 i i))) w' ∧ BR w' g (xrow a0 a1 a2 i i) ∧ Below g w w') (first | exact ⟨hcs, HR.out, HB.out⟩ | exact ⟨BR.text (BR.drew HR.out) i cap (xrow_length a0 a1 a2 i i), BR.drew HR.out, chk_drew HB.out⟩ | exact xkeep cap (xrow_length a0 a1 a2 i i) (by assumption) hb) (first | (go_at_call 7; refine (tarrylaw02_alive.calls true _ FA.out).mono ?_; rintro e w4 ⟨rfl, hb⟩) | (go_at_call 9; refine (check_Of.calls _ _ _ F4.out).mono ?_; rintro e w5 ⟨rfl, hb⟩) | (go_at_call 9; refine (check_Of.calls _ _ _ F1.out).mono ?_; rintro e w5 ⟨rfl, hb⟩) | (go_at_call 9; refine (check_Of.calls _ _ _ F2.out).mono ?_; rintro e w5 ⟨rfl, hb⟩) | (go_at_call 9; refine (check_Of.calls _ _ _ F3.out).mono ?_; rintro e w5 ⟨rfl, hb⟩))
      go_wp2
      go_ret
      refine ⟨congrArg Ending.returned (congrArg Value.bool ?_), ?_⟩
      · rw [HEQ.out]
        exact beq_self_eq_true _
      · rw [HG.out]
        exact (And.right (And.right (by assumption)))

/-- THE ONE PURE STATEMENT of tarrylaw02_CheckXors. -/
def tarrylaw02_CheckXors.Pure : Prop := ∀ (a0 : ByteArray) (a1 : ByteArray) (a2 : ByteArray), a0.size ≤ 140737488351232 → a1.size ≤ 140737488351232 → a2.size ≤ 140737488351232 → tarrylaw02_CheckXors.f a0 a1 a2 = some true

end Go.Proofs.Ytadmbihghbfdbaa.PCheckXors
