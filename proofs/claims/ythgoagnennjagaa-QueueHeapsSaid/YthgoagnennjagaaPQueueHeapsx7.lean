/- Written by a program of this repo: what the program's functions do, each as a Lean function, shown of the loaded code; or a statement's row over that; no condition of its own. -/
import Derived.Test.YthgoagnennjagaaPQueueHeapsx6
namespace Go.Proofs.Ythgoagnennjagaa.PQueueHeaps
open Go Go.RowKit Go.Proofs.YthgoagnennjagaaV
set_option linter.unusedVariables false
set_option linter.unusedSimpArgs false

set_option maxHeartbeats 4000000 in
set_option maxRecDepth 100000 in
theorem tarrylaw06_alive.ok (k : Nat)   (r1 : Bool) (h : tarrylaw06_alive.f k = some r1) :
    VCalls Try.prog 14 [] [] (fun v G own => v = .bool r1 ∧ G = [] ∧ own = []) := by
  refine VCalls.intro Try.func14 rfl (len rfl) fun E hC => ?_
  unfold tarrylaw06_alive.f at h
  refine VC.seq ?_
  refine VC.region ?_
  refine VL.va (op_assign rfl (ltn rfl)) rfl ?_
  refine VL.done ?_
  refine VN.then ?_
  refine VC.seq ?_
  refine VC.region ?_
  refine VL.va (op_build (vals := [(0, .int .i64 1), (1, .int .i64 1), (2, .int .i64 1)]) (vcs := [(0, [.int .i64 1]), (1, [.int .i64 1]), (2, [.int .i64 1])]) (cells := [.int .i64 1, .int .i64 1, .int .i64 1]) SI24 rfl (.cons ⟨rfl, (.c rfl)⟩ (.cons ⟨rfl, (.c rfl)⟩ (.cons ⟨rfl, (.c rfl)⟩ .nil))) (by kernel_rfl) (ltn rfl)) rfl ?_
  refine VL.va (op_build (vals := [(0, .int .i64 0), (1, .int .i64 9), (2, .int .i64 2)]) (vcs := [(0, [.int .i64 0]), (1, [.int .i64 9]), (2, [.int .i64 2])]) (cells := [.int .i64 0, .int .i64 9, .int .i64 2]) SI24 rfl (.cons ⟨rfl, (.c rfl)⟩ (.cons ⟨rfl, (.c rfl)⟩ (.cons ⟨rfl, (.c rfl)⟩ .nil))) (by kernel_rfl) (ltn rfl)) rfl ?_
  refine VL.sG (o_buildSlice (vals := [(0, .agg #[.int .i64 1, .int .i64 1, .int .i64 1]), (1, .agg #[.int .i64 0, .int .i64 9, .int .i64 2])]) (cells := #[.int .i64 1, .int .i64 1, .int .i64 1, .int .i64 0, .int .i64 9, .int .i64 2]) (es := List.map enc23 ([(⟨1, 1, 1⟩ : S23), (⟨0, 9, 2⟩ : S23)] : List S23)) Try.underlying22 TI24 Z24 rfl (by decide) (by decide) (by kernel_rfl) (by kernel_rfl) rfl (flat_map enc23_ok _) (ltn rfl)) rfl ?_
  intro v168412
  replace h := Option.bind_eq_some_iff.1 h
  obtain ⟨⟨r168413, t168414⟩, hA168415, h⟩ := h
  dsimp only at h
  refine VL.sC (o_call_b0 FO8 (queue_Make.ok k ([(⟨1, 1, 1⟩ : S23), (⟨0, 9, 2⟩ : S23)] : List S23) v168412 r168413 t168414 hA168415) rfl rfl (ltn rfl) (All_of (.cons (.inr (.inl ⟨_, List.mem_of_getElem? (i := 0) rfl, rfl⟩)) .nil)) (by rintro _ _ _ ⟨v168417, rfl, rfl, rfl⟩; rfl)) rfl ?_
  rintro _ _ _ ⟨v168417, rfl, rfl, rfl⟩
  refine VL.va (op_move rfl (ltn rfl)) rfl ?_
  refine VL.va (op_extract rfl rfl (ltn rfl)) rfl ?_
  refine VL.va (op_extract rfl rfl (ltn rfl)) rfl ?_
  refine VL.va (op_assign rfl (ltn rfl)) rfl ?_
  refine VL.va (op_assign rfl (ltn rfl)) rfl ?_
  refine VL.done ?_
  refine VN.then ?_
  refine VC.seq ?_
  refine VC.region ?_
  refine VL.va (op_move rfl (ltn rfl)) rfl ?_
  replace h := Option.bind_eq_some_iff.1 h
  obtain ⟨⟨r202750, t202751, t202752, t202753, t202754⟩, hA202755, h⟩ := h
  dsimp only at h
  refine VL.sC (o_call_b0 FO19 (queue_Pop.ok k r168413 v168417 r202750 t202751 t202752 t202753 t202754 hA202755) rfl rfl (ltn rfl) (All_of (.cons (.inr (.inl ⟨_, List.mem_of_getElem? (i := 0) rfl, rfl⟩)) .nil)) (by rintro _ _ _ ⟨v202757, rfl, rfl, rfl⟩; rfl)) rfl ?_
  rintro _ _ _ ⟨v202757, rfl, rfl, rfl⟩
  refine VL.va (op_move rfl (ltn rfl)) rfl ?_
  refine VL.va (op_extract rfl rfl (ltn rfl)) rfl ?_
  refine VL.va (op_extract rfl rfl (ltn rfl)) rfl ?_
  refine VL.va (op_extract rfl rfl (ltn rfl)) rfl ?_
  refine VL.sG (o_alloc Z24 ZL24 (ltn rfl)) rfl ?_
  intro g202758
  refine VL.va (op_assign rfl (ltn rfl)) rfl ?_
  refine VL.step1 (o_store 0 3 rfl rfl rfl TI24 (.agg (.of rfl)) rfl (len rfl)) rfl ?_
  refine VL.va (op_assign rfl (ltn rfl)) rfl ?_
  refine VL.done ?_
  refine VN.then ?_
  refine VC.seq ?_
  refine VC.region ?_
  refine VL.va (op_move rfl (ltn rfl)) rfl ?_
  refine VL.letter ((t168414 == 0)) fun b202766 hb202766 => ?_
  refine VL.va (op_cmp rfl rfl (congrArg some hb202766) (ltn rfl)) rfl ?_
  refine VL.va (op_move rfl (ltn rfl)) rfl ?_
  by_cases c202767 : t168414 = 0
  · rw [if_pos c202767] at h
    obtain rfl : b202766 = true := hb202766.symm.trans (beq_iff_eq.2 c202767)
    refine VL.va (op_move rfl (ltn rfl)) rfl ?_
    refine VL.letter ((t202754 == 0)) fun b202768 hb202768 => ?_
    refine VL.va (op_cmp rfl rfl (congrArg some hb202768) (ltn rfl)) rfl ?_
    refine VL.va (op_pick rfl rfl (ltn rfl)) rfl ?_
    refine VL.va (op_move rfl (ltn rfl)) rfl ?_
    by_cases c202769 : t202754 = 0
    · rw [if_pos c202769] at h
      obtain rfl : b202768 = true := hb202768.symm.trans (beq_iff_eq.2 c202769)
      refine VL.va (op_fieldAddr FI24_2 rfl (add_at _ _ _) (ltn rfl)) rfl ?_
      refine VL.va (op_load 0 1 rfl rfl TI3 rfl (by decide) (ltn rfl)) rfl ?_
      refine VL.letter ((t202753 == 2)) fun b202770 hb202770 => ?_
      refine VL.va (op_cmp rfl rfl (congrArg some hb202770) (ltn rfl)) rfl ?_
      refine VL.va (op_pick rfl rfl (ltn rfl)) rfl ?_
      refine VL.va (op_move rfl (ltn rfl)) rfl ?_
      by_cases c202771 : t202753 = 2
      · rw [if_pos c202771] at h
        obtain rfl : b202770 = true := hb202770.symm.trans (beq_iff_eq.2 c202771)
        refine VL.va (op_move rfl (ltn rfl)) rfl ?_
        refine VL.va (op_len_own (m := r202750.length) 0 lenm Try.underlying22 rfl rfl (ltn rfl)) rfl ?_
        refine VL.letter (((r202750.length : Int) == 1)) fun b202772 hb202772 => ?_
        refine VL.va (op_cmp rfl rfl (congrArg some hb202772) (ltn rfl)) rfl ?_
        refine VL.va (op_pick rfl rfl (ltn rfl)) rfl ?_
        refine VL.va (op_assign rfl (ltn rfl)) rfl ?_
        refine VL.done ?_
        refine VN.then ?_
        refine VC.ret ?_
        obtain rfl := Option.some.inj h
        subst hb202772
        exact VR.fn (rs := [.tmp 0]) [] [] [] rfl (.tmp rfl .nil) ⟨rfl, rfl, rfl⟩ trivial rfl (by decide)
      · rw [if_neg c202771] at h
        obtain rfl : b202770 = false := hb202770.symm.trans (beq_eq_false_iff_ne.2 c202771)
        refine VL.un rfl rfl (ltn rfl) ?_
        refine VL.un rfl rfl (ltn rfl) ?_
        refine VL.un rfl rfl (ltn rfl) ?_
        refine VL.va (op_pick rfl rfl (ltn rfl)) rfl ?_
        refine VL.va (op_assign rfl (ltn rfl)) rfl ?_
        refine VL.done ?_
        refine VN.then ?_
        refine VC.ret ?_
        obtain rfl := Option.some.inj h
        exact VR.fn (rs := [.tmp 0]) [] [] [] rfl (.tmp rfl .nil) ⟨rfl, rfl, rfl⟩ trivial rfl (by decide)
    · rw [if_neg c202769] at h
      obtain rfl : b202768 = false := hb202768.symm.trans (beq_eq_false_iff_ne.2 c202769)
      refine VL.un rfl rfl (ltn rfl) ?_
      refine VL.un rfl rfl (ltn rfl) ?_
      refine VL.un rfl rfl (ltn rfl) ?_
      refine VL.va (op_pick rfl rfl (ltn rfl)) rfl ?_
      refine VL.va (op_move rfl (ltn rfl)) rfl ?_
      refine VL.un rfl rfl (ltn rfl) ?_
      refine VL.un rfl rfl (ltn rfl) ?_
      refine VL.un rfl rfl (ltn rfl) ?_
      refine VL.va (op_pick rfl rfl (ltn rfl)) rfl ?_
      refine VL.va (op_assign rfl (ltn rfl)) rfl ?_
      refine VL.done ?_
      refine VN.then ?_
      refine VC.ret ?_
      obtain rfl := Option.some.inj h
      exact VR.fn (rs := [.tmp 0]) [] [] [] rfl (.tmp rfl .nil) ⟨rfl, rfl, rfl⟩ trivial rfl (by decide)
  · rw [if_neg c202767] at h
    obtain rfl : b202766 = false := hb202766.symm.trans (beq_eq_false_iff_ne.2 c202767)
    refine VL.un rfl rfl (ltn rfl) ?_
    refine VL.un rfl rfl (ltn rfl) ?_
    refine VL.va (op_pick rfl rfl (ltn rfl)) rfl ?_
    refine VL.va (op_move rfl (ltn rfl)) rfl ?_
    refine VL.un rfl rfl (ltn rfl) ?_
    refine VL.un rfl rfl (ltn rfl) ?_
    refine VL.un rfl rfl (ltn rfl) ?_
    refine VL.va (op_pick rfl rfl (ltn rfl)) rfl ?_
    refine VL.va (op_move rfl (ltn rfl)) rfl ?_
    refine VL.un rfl rfl (ltn rfl) ?_
    refine VL.un rfl rfl (ltn rfl) ?_
    refine VL.un rfl rfl (ltn rfl) ?_
    refine VL.va (op_pick rfl rfl (ltn rfl)) rfl ?_
    refine VL.va (op_assign rfl (ltn rfl)) rfl ?_
    refine VL.done ?_
    refine VN.then ?_
    refine VC.ret ?_
    obtain rfl := Option.some.inj h
    exact VR.fn (rs := [.tmp 0]) [] [] [] rfl (.tmp rfl .nil) ⟨rfl, rfl, rfl⟩ trivial rfl (by decide)
set_option maxHeartbeats 4000000 in
set_option maxRecDepth 100000 in
theorem tarryref06_Sorted.ok (k : Nat) (l0 : List S23) (v0 : Value) (r1 : List S23) (h : tarryref06_Sorted.f k l0 = some r1) :
    VCalls Try.prog 16 [v0] [.row v0 3 (l0.map enc23)] (fun v G own => ∃ w0 : Value, v = w0 ∧ G = [] ∧ own = [(w0, 24, 3, r1.map enc23)]) := by
  refine VCalls.intro Try.func16 rfl (len rfl) fun E hC => ?_
  unfold tarryref06_Sorted.f at h
  refine VC.seq ?_
  refine VC.region ?_
  refine VL.va (op_assign rfl (ltn rfl)) rfl ?_
  refine VL.done ?_
  refine VN.then ?_
  refine VC.seq ?_
  refine VC.region ?_
  refine VL.sG (o_buildSlice (vals := []) (cells := #[]) (es := List.map enc23 ([] : List S23)) Try.underlying22 TI24 Z24 rfl (by decide) (by decide) (by kernel_rfl) (by kernel_rfl) rfl (flat_map enc23_ok _) (ltn rfl)) rfl ?_
  intro v202815
  refine VL.va (op_assign rfl (ltn rfl)) rfl ?_
  refine VL.done ?_
  refine VN.then ?_
  refine VC.seq ?_
  refine VC.seq ?_
  refine VC.region ?_
  refine VL.va (op_move rfl (ltn rfl)) rfl ?_
  refine VL.va (op_len (m := l0.length) 0 lenm Try.underlying22 rfl rfl (ltn rfl)) rfl ?_
  refine VL.va (op_move rfl (ltn rfl)) rfl ?_
  refine VL.done ?_
  refine VN.then ?_
  refine VC.block ?_
  refine VC.loop3 (fun (v204121 : Value) (l204122 : List S23) (i204123 : Int) => ⟨48, [(2, .slice none 0 0), (3, v204121), (9, v0), (10, .int .i64 (l0.length : Int)), (11, .int .i64 i204123)], [.row v0 3 (l0.map enc23)], [], [(v204121, 24, 3, l204122.map enc23)]⟩) (fun (ml5 : Nat) (v204121 : Value) (l204122 : List S23) (i204123 : Int) => tarryref06_Sorted.l5 k l0 ml5 l204122 i204123 = some r1) k v202815 ([] : List S23) 0 [] [0] h ⟨rfl, ⟨rfl, rfl, rfl, rfl, rfl, trivial⟩, ⟨⟨0, rfl⟩, trivial⟩, rfl, by decide, rfl, by decide⟩ (by intros; simp [tarryref06_Sorted.l5]) ?_
  clear h
  intro ml5 ihl5 v204121 l204122 i204123 h
  simp only [tarryref06_Sorted.l5] at h
  refine VC.seq ?_
  refine VC.region ?_
  refine VL.letter (decide (i204123 < (l0.length : Int))) fun b204451 hb204451 => ?_
  refine VL.va (op_cmp rfl rfl (congrArg some hb204451) (ltn rfl)) rfl ?_
  refine VL.done ?_
  refine VN.then ?_
  refine VC.seq ?_
  by_cases c204453 : i204123 < (l0.length : Int)
  · rw [if_pos c204453] at h
    obtain rfl : b204451 = true := hb204451.symm.trans (decide_eq_true c204453)
    refine VC.cond_t rfl ?_
    refine VC.skip ?_
    refine VN.then ?_
    refine VC.seq ?_
    refine VC.block ?_
    refine VC.seq ?_
    refine VC.region ?_
    by_cases c204615 : 0 ≤ i204123
    · rw [if_pos c204615] at h
      replace h := Option.bind_eq_some_iff.1 h
      obtain ⟨x204616, hx204616, h⟩ := h
      refine VL.open (m := l0.length) 0 lenm rfl (pos_get hx204616) ?_
      rintro ad204617 n204618 rfl
      refine VL.va (op_indexAddr Try.underlying22 TI24 rfl rfl c204615 (lt_get c204615 hx204616) rfl (ltn rfl)) rfl ?_
      refine VL.va (op_load_row (sz := 3) (o := 0) 0 i204123.toNat 3 rfl rfl (get_map hx204616) TI24 rfl (fun h => absurd h (by decide)) (ltn rfl)) rfl ?_
      refine VL.sG (o_alloc Z24 ZL24 (ltn rfl)) rfl ?_
      intro g204619
      refine VL.step1 (o_store 0 3 rfl rfl rfl TI24 (.agg (.of rfl)) rfl (len rfl)) rfl ?_
      refine VL.done ?_
      refine VN.then ?_
      refine VC.seq ?_
      refine VC.region ?_
      refine VL.va (op_assign rfl (ltn rfl)) rfl ?_
      refine VL.done ?_
      refine VN.then ?_
      refine VC.seq ?_
      refine VC.block ?_
      refine VC.loop1 (fun (i204673 : Int) => ⟨48, [(2, .slice none 0 0), (3, v204121), (5, .pointer (some ⟨g204619, 0, none⟩)), (6, .int .i64 i204673), (9, (.slice (some ad204617) l0.length n204618)), (10, .int .i64 (l0.length : Int)), (11, .int .i64 i204123), (12, .bool true), (14, .agg #[.int .i64 x204616.f0, .int .i64 x204616.f1, .int .i64 x204616.f2])], [.row (.slice (some ad204617) l0.length n204618) 3 (l0.map enc23)], [(g204619, 24, [.int .i64 x204616.f0, .int .i64 x204616.f1, .int .i64 x204616.f2])], [(v204121, 24, 3, l204122.map enc23)]⟩) (fun (ml9 : Nat) (i204673 : Int) => tarryref06_Sorted.l9 k (tarryref06_Sorted.l5 k l0 ml5) i204123 l204122 x204616 ml9 i204673 = some r1) k 0 [0] [0] h ⟨rfl, ⟨rfl, rfl, rfl, rfl, rfl, rfl, rfl, rfl, rfl, trivial⟩, ⟨⟨0, rfl⟩, trivial⟩, rfl, by decide, rfl, by decide⟩ (by intros; simp [tarryref06_Sorted.l9]) ?_
      clear h
      intro ml9 ihl9 i204673 h
      simp only [tarryref06_Sorted.l9] at h
      refine VC.seq ?_
      refine VC.letter (decide (i204673 < (l204122.length : Int))) fun b204732 hb204732 => ?_
      by_cases c204733 : i204673 < (l204122.length : Int)
      · rw [if_pos c204733] at h
        obtain rfl : b204732 = true := hb204732.symm.trans (decide_eq_true c204733)
        by_cases c204734 : 0 ≤ i204673
        · rw [if_pos c204734] at h
          replace h := Option.bind_eq_some_iff.1 h
          obtain ⟨x204735, hx204735, h⟩ := h
          replace h := Option.bind_eq_some_iff.1 h
          obtain ⟨t204736, hA204737, h⟩ := h
          by_cases c204738 : t204736 = true
          · rw [if_pos c204738] at h
            obtain rfl := c204738
            refine VC.openR (m := l204122.length) 0 lenm rfl (pos_get hx204735) ?_
            rintro g204135 n204136 rfl
            refine VC.join0 (⟨48, [(2, .slice none 0 0), (3, (.slice (some ⟨g204135, 0, none⟩) l204122.length n204136)), (5, .pointer (some ⟨g204619, 0, none⟩)), (6, .int .i64 i204673), (9, (.slice (some ad204617) l0.length n204618)), (10, .int .i64 (l0.length : Int)), (11, .int .i64 i204123), (12, .bool true), (14, .agg #[.int .i64 x204616.f0, .int .i64 x204616.f1, .int .i64 x204616.f2]), (15, .int .i64 i204673), (16, (.slice (some ⟨g204135, 0, none⟩) l204122.length n204136)), (17, .int .i64 (l204122.length : Int)), (18, .bool true), (19, .bool true), (20, .agg #[.int .i64 x204616.f0, .int .i64 x204616.f1, .int .i64 x204616.f2]), (21, (.slice (some ⟨g204135, 0, none⟩) l204122.length n204136)), (22, .int .i64 i204673), (24, .agg #[.int .i64 x204735.f0, .int .i64 x204735.f1, .int .i64 x204735.f2]), (25, .bool true), (26, .bool false), (27, .bool false)], [.row (.slice (some ad204617) l0.length n204618) 3 (l0.map enc23)], [(g204619, 24, [.int .i64 x204616.f0, .int .i64 x204616.f1, .int .i64 x204616.f2])], [((.slice (some ⟨g204135, 0, none⟩) l204122.length n204136), 24, 3, l204122.map enc23)]⟩) (True) ?_ ?_
            · refine VC.draw ⟨0, [], [], [(g204619, 24, [.int .i64 x204616.f0, .int .i64 x204616.f1, .int .i64 x204616.f2])], [((.slice (some ⟨g204135, 0, none⟩) l204122.length n204136), 24, 3, l204122.map enc23)]⟩ (by kernel_rfl) rfl (by kernel_rfl) (n := 13) (listed := LB 13 0) ?_
              refine VA.va (i := 0) (listed' := LB 13 1) rfl (op_move rfl (ltn rfl)) rfl (by kernel_rfl) (by kernel_rfl) (by kernel_rfl) (by kernel_rfl) ⟨trivial, ⟨⟨0, rfl⟩, trivial⟩, ⟨⟨0, rfl⟩, trivial⟩⟩ (fun _ _ _ h => h) ?_
              refine VA.va (i := 1) (listed' := LB 13 3) rfl (op_move rfl (ltn rfl)) rfl (by kernel_rfl) (by kernel_rfl) (by kernel_rfl) (by kernel_rfl) ⟨trivial, ⟨⟨0, rfl⟩, trivial⟩, ⟨⟨0, rfl⟩, trivial⟩⟩ (fun _ _ _ h => h) ?_
              refine VA.va (i := 2) (listed' := LB 13 7) rfl (op_len_own (m := l204122.length) 0 lenm Try.underlying22 rfl rfl (ltn rfl)) rfl (by kernel_rfl) (by kernel_rfl) (by kernel_rfl) (by kernel_rfl) ⟨trivial, ⟨⟨0, rfl⟩, trivial⟩, ⟨⟨0, rfl⟩, trivial⟩⟩ (fun _ _ _ h => h) ?_
              refine VA.va (i := 3) (listed' := LB 13 15) rfl (op_cmp rfl rfl (congrArg some hb204732) (ltn rfl)) rfl (by kernel_rfl) (by kernel_rfl) (by kernel_rfl) (by kernel_rfl) ⟨trivial, ⟨⟨0, rfl⟩, trivial⟩, ⟨⟨0, rfl⟩, trivial⟩⟩ (fun _ _ _ h => h) ?_
              refine VA.va (i := 4) (listed' := LB 13 31) rfl (op_move rfl (ltn rfl)) rfl (by kernel_rfl) (by kernel_rfl) (by kernel_rfl) (by kernel_rfl) ⟨trivial, ⟨⟨0, rfl⟩, trivial⟩, ⟨⟨0, rfl⟩, trivial⟩⟩ (fun _ _ _ h => h) ?_
              refine VA.va (i := 5) (listed' := LB 13 63) rfl (op_load 0 3 rfl rfl TI24 rfl (fun h => absurd h (by decide)) (ltn rfl)) rfl (by kernel_rfl) (by kernel_rfl) (by kernel_rfl) (by kernel_rfl) ⟨trivial, ⟨⟨0, rfl⟩, trivial⟩, ⟨⟨0, rfl⟩, trivial⟩⟩ (fun _ _ _ h => h) ?_
              refine VA.va (i := 6) (listed' := LB 13 127) rfl (op_move rfl (ltn rfl)) rfl (by kernel_rfl) (by kernel_rfl) (by kernel_rfl) (by kernel_rfl) ⟨trivial, ⟨⟨0, rfl⟩, trivial⟩, ⟨⟨0, rfl⟩, trivial⟩⟩ (fun _ _ _ h => h) ?_
              refine VA.va (i := 7) (listed' := LB 13 255) rfl (op_move rfl (ltn rfl)) rfl (by kernel_rfl) (by kernel_rfl) (by kernel_rfl) (by kernel_rfl) ⟨trivial, ⟨⟨0, rfl⟩, trivial⟩, ⟨⟨0, rfl⟩, trivial⟩⟩ (fun _ _ _ h => h) ?_
              refine VA.va (i := 8) (listed' := LB 13 511) rfl (op_indexAddr Try.underlying22 TI24 rfl rfl c204734 (lt_get c204734 hx204735) (add_zero_at _ _) (ltn rfl)) rfl (by kernel_rfl) (by kernel_rfl) (by kernel_rfl) (by kernel_rfl) ⟨trivial, ⟨⟨0, rfl⟩, trivial⟩, ⟨⟨0, rfl⟩, trivial⟩⟩ (fun _ _ _ h => h) ?_
              refine VA.va (i := 9) (listed' := LB 13 1023) rfl (op_load_own (sz := 3) (o := 0) 0 i204673.toNat 3 rfl rfl (get_map hx204735) TI24 rfl (fun h => absurd h (by decide)) (ltn rfl)) rfl (by kernel_rfl) (by kernel_rfl) (by kernel_rfl) (by kernel_rfl) ⟨trivial, ⟨⟨0, rfl⟩, trivial⟩, ⟨⟨0, rfl⟩, trivial⟩⟩ (fun _ _ _ h => h) ?_
              refine VA.oneC (i := 10) (listed' := LB 13 2047) (by kernel_rfl) rfl (o_call0 FO11 (tarryref06_Less.ok x204616.f0 x204616.f1 x204616.f2 x204735.f0 x204735.f1 x204735.f2 true hA204737) rfl rfl (ltn rfl) (All_of .nil)) rfl (by kernel_rfl) ?_
              rintro _ _ _ ⟨rfl, rfl, rfl⟩
              refine ⟨⟨trivial, ⟨⟨0, rfl⟩, trivial⟩, ⟨⟨0, rfl⟩, trivial⟩⟩, ?_⟩
              refine VA.va (i := 11) (listed' := LB 13 4095) rfl (op_not rfl rfl (ltn rfl)) rfl (by kernel_rfl) (by kernel_rfl) (by kernel_rfl) (by kernel_rfl) ⟨trivial, ⟨⟨0, rfl⟩, trivial⟩, ⟨⟨0, rfl⟩, trivial⟩⟩ (fun _ _ _ h => h) ?_
              refine VA.va (i := 12) (listed' := LB 13 8191) rfl (op_pick rfl rfl (ltn rfl)) rfl (by kernel_rfl) (by kernel_rfl) (by kernel_rfl) (by kernel_rfl) ⟨trivial, ⟨⟨0, rfl⟩, trivial⟩, ⟨⟨0, rfl⟩, trivial⟩⟩ (fun _ _ _ h => h) ?_
              refine VA.done (by kernel_rfl) ?_
              exact VN.meet0  [0] [0] trivial ⟨rfl, ⟨rfl, rfl, rfl, rfl, rfl, rfl, rfl, rfl, rfl, rfl, rfl, rfl, rfl, rfl, rfl, rfl, rfl, rfl, rfl, rfl, rfl, trivial⟩, ⟨⟨0, rfl⟩, trivial⟩, rfl, by decide, rfl, by decide⟩
            intro _
            refine VC.cond_f rfl ?_
            refine VC.exit ?_
            refine VX.then ?_
            refine VX.then ?_
            refine VX.hit ?_
            refine VN.then ?_
            refine VC.seq ?_
            refine VC.region ?_
            refine VL.sG (o_buildSlice (vals := []) (cells := #[]) (es := List.map enc23 ([] : List S23)) Try.underlying22 TI24 Z24 rfl (by decide) (by decide) (by kernel_rfl) (by kernel_rfl) rfl (flat_map enc23_ok _) (ltn rfl)) rfl ?_
            intro v204740
            refine VL.va (op_assign rfl (ltn rfl)) rfl ?_
            refine VL.done ?_
            refine VN.then ?_
            refine VC.seq ?_
            refine VC.region ?_
            refine VL.va (op_move rfl (ltn rfl)) rfl ?_
            refine VL.va (op_move rfl (ltn rfl)) rfl ?_
            refine VL.va (op_move rfl (ltn rfl)) rfl ?_
            refine VL.freezeRow' 1 rfl ?_
            by_cases c204741 : i204673 ≤ (l204122.length : Int)
            · rw [if_pos c204741] at h
              refine VL.sG (o_slice (m := l204122.length) 0 0 i204673.toNat lenm cutm Try.underlying22 TI24 rfl rfl ⟨rfl, ⟨_, _, rfl, c204734, rfl⟩, by omega, by omega⟩ (ltn rfl)) rfl ?_
              intro v204743
              by_cases c204744 : (([] : List S23).length + ((l204122.take i204673.toNat).drop 0).length) * 24 ≤ 140737488355328
              · rw [if_pos c204744] at h
                refine VL.sG (o_append 0 appm Try.underlying22 EI24 rfl rfl rfl (.inl ⟨0, rfl⟩) (bndm c204744) (ltn rfl)) rfl ?_
                intro v204745
                refine VL.va (op_assign rfl (ltn rfl)) rfl ?_
                refine VL.done ?_
                refine VN.then ?_
                refine VC.seq ?_
                refine VC.region ?_
                refine VL.va (op_move rfl (ltn rfl)) rfl ?_
                refine VL.va (op_load 0 3 rfl rfl TI24 rfl (fun h => absurd h (by decide)) (ltn rfl)) rfl ?_
                refine VL.sG (o_buildSlice (vals := [(0, .agg #[.int .i64 x204616.f0, .int .i64 x204616.f1, .int .i64 x204616.f2])]) (cells := #[.int .i64 x204616.f0, .int .i64 x204616.f1, .int .i64 x204616.f2]) (es := List.map enc23 ([x204616] : List S23)) Try.underlying22 TI24 Z24 rfl (by decide) (by decide) (by kernel_rfl) (by kernel_rfl) rfl (flat_map enc23_ok _) (ltn rfl)) rfl ?_
                intro v204748
                by_cases c204749 : ((([] : List S23) ++ ((l204122.take i204673.toNat).drop 0)).length + ([x204616] : List S23).length) * 24 ≤ 140737488355328
                · rw [if_pos c204749] at h
                  refine VL.sG (o_append 1 appm Try.underlying22 EI24 rfl rfl rfl (.inr ⟨0, _, rfl⟩) (bndm c204749) (ltn rfl)) rfl ?_
                  intro v204750
                  refine VL.va (op_assign rfl (ltn rfl)) rfl ?_
                  refine VL.done ?_
                  refine VN.then ?_
                  refine VC.seq ?_
                  refine VC.region ?_
                  refine VL.va (op_move rfl (ltn rfl)) rfl ?_
                  refine VL.va (op_move rfl (ltn rfl)) rfl ?_
                  refine VL.va (op_move rfl (ltn rfl)) rfl ?_
                  refine VL.sG (o_slice (m := l204122.length) 1 i204673.toNat l204122.length lenm cutm Try.underlying22 TI24 rfl rfl ⟨⟨_, _, rfl, c204734, rfl⟩, rfl, by omega, by omega⟩ (ltn rfl)) rfl ?_
                  intro v204753
                  by_cases c204754 : (((([] : List S23) ++ ((l204122.take i204673.toNat).drop 0)) ++ ([x204616] : List S23)).length + ((l204122.take l204122.length).drop i204673.toNat).length) * 24 ≤ 140737488355328
                  · rw [if_pos c204754] at h
                    refine VL.sG (o_append 1 appm Try.underlying22 EI24 rfl rfl rfl (.inl ⟨0, rfl⟩) (bndm c204754) (ltn rfl)) rfl ?_
                    intro v204755
                    refine VL.va (op_assign rfl (ltn rfl)) rfl ?_
                    refine VL.done ?_
                    refine VN.then ?_
                    refine VC.region ?_
                    refine VL.va (op_move rfl (ltn rfl)) rfl ?_
                    refine VL.va (op_assign rfl (ltn rfl)) rfl ?_
                    refine VL.done ?_
                    refine VN.block ?_
                    refine VN.then ?_
                    refine VC.region ?_
                    refine VL.va (op_ari64 rfl rfl rfl (ltn rfl)) rfl ?_
                    refine VL.va (op_move rfl (ltn rfl)) rfl ?_
                    refine VL.done ?_
                    refine VN.again [] [1] (ihl5 v204755 (((([] : List S23) ++ ((l204122.take i204673.toNat).drop 0)) ++ ([x204616] : List S23)) ++ ((l204122.take l204122.length).drop i204673.toNat)) (wrap64 (i204123 + 1)) h) ⟨rfl, ⟨rfl, rfl, rfl, rfl, rfl, trivial⟩, ⟨⟨3, rfl⟩, trivial⟩, rfl, by decide, rfl, by decide⟩
                  · rw [if_neg c204754] at h; cases h
                · rw [if_neg c204749] at h; cases h
              · rw [if_neg c204744] at h; cases h
            · rw [if_neg c204741] at h; cases h
          · rw [if_neg c204738] at h
            obtain rfl := Bool.eq_false_iff.2 c204738
            refine VC.openR (m := l204122.length) 0 lenm rfl (pos_get hx204735) ?_
            rintro g204135 n204136 rfl
            refine VC.join0 (⟨48, [(2, .slice none 0 0), (3, (.slice (some ⟨g204135, 0, none⟩) l204122.length n204136)), (5, .pointer (some ⟨g204619, 0, none⟩)), (6, .int .i64 i204673), (9, (.slice (some ad204617) l0.length n204618)), (10, .int .i64 (l0.length : Int)), (11, .int .i64 i204123), (12, .bool true), (14, .agg #[.int .i64 x204616.f0, .int .i64 x204616.f1, .int .i64 x204616.f2]), (15, .int .i64 i204673), (16, (.slice (some ⟨g204135, 0, none⟩) l204122.length n204136)), (17, .int .i64 (l204122.length : Int)), (18, .bool true), (19, .bool true), (20, .agg #[.int .i64 x204616.f0, .int .i64 x204616.f1, .int .i64 x204616.f2]), (21, (.slice (some ⟨g204135, 0, none⟩) l204122.length n204136)), (22, .int .i64 i204673), (24, .agg #[.int .i64 x204735.f0, .int .i64 x204735.f1, .int .i64 x204735.f2]), (25, .bool false), (26, .bool true), (27, .bool true)], [.row (.slice (some ad204617) l0.length n204618) 3 (l0.map enc23)], [(g204619, 24, [.int .i64 x204616.f0, .int .i64 x204616.f1, .int .i64 x204616.f2])], [((.slice (some ⟨g204135, 0, none⟩) l204122.length n204136), 24, 3, l204122.map enc23)]⟩) (True) ?_ ?_
            · refine VC.draw ⟨0, [], [], [(g204619, 24, [.int .i64 x204616.f0, .int .i64 x204616.f1, .int .i64 x204616.f2])], [((.slice (some ⟨g204135, 0, none⟩) l204122.length n204136), 24, 3, l204122.map enc23)]⟩ (by kernel_rfl) rfl (by kernel_rfl) (n := 13) (listed := LB 13 0) ?_
              refine VA.va (i := 0) (listed' := LB 13 1) rfl (op_move rfl (ltn rfl)) rfl (by kernel_rfl) (by kernel_rfl) (by kernel_rfl) (by kernel_rfl) ⟨trivial, ⟨⟨0, rfl⟩, trivial⟩, ⟨⟨0, rfl⟩, trivial⟩⟩ (fun _ _ _ h => h) ?_
              refine VA.va (i := 1) (listed' := LB 13 3) rfl (op_move rfl (ltn rfl)) rfl (by kernel_rfl) (by kernel_rfl) (by kernel_rfl) (by kernel_rfl) ⟨trivial, ⟨⟨0, rfl⟩, trivial⟩, ⟨⟨0, rfl⟩, trivial⟩⟩ (fun _ _ _ h => h) ?_
              refine VA.va (i := 2) (listed' := LB 13 7) rfl (op_len_own (m := l204122.length) 0 lenm Try.underlying22 rfl rfl (ltn rfl)) rfl (by kernel_rfl) (by kernel_rfl) (by kernel_rfl) (by kernel_rfl) ⟨trivial, ⟨⟨0, rfl⟩, trivial⟩, ⟨⟨0, rfl⟩, trivial⟩⟩ (fun _ _ _ h => h) ?_
              refine VA.va (i := 3) (listed' := LB 13 15) rfl (op_cmp rfl rfl (congrArg some hb204732) (ltn rfl)) rfl (by kernel_rfl) (by kernel_rfl) (by kernel_rfl) (by kernel_rfl) ⟨trivial, ⟨⟨0, rfl⟩, trivial⟩, ⟨⟨0, rfl⟩, trivial⟩⟩ (fun _ _ _ h => h) ?_
              refine VA.va (i := 4) (listed' := LB 13 31) rfl (op_move rfl (ltn rfl)) rfl (by kernel_rfl) (by kernel_rfl) (by kernel_rfl) (by kernel_rfl) ⟨trivial, ⟨⟨0, rfl⟩, trivial⟩, ⟨⟨0, rfl⟩, trivial⟩⟩ (fun _ _ _ h => h) ?_
              refine VA.va (i := 5) (listed' := LB 13 63) rfl (op_load 0 3 rfl rfl TI24 rfl (fun h => absurd h (by decide)) (ltn rfl)) rfl (by kernel_rfl) (by kernel_rfl) (by kernel_rfl) (by kernel_rfl) ⟨trivial, ⟨⟨0, rfl⟩, trivial⟩, ⟨⟨0, rfl⟩, trivial⟩⟩ (fun _ _ _ h => h) ?_
              refine VA.va (i := 6) (listed' := LB 13 127) rfl (op_move rfl (ltn rfl)) rfl (by kernel_rfl) (by kernel_rfl) (by kernel_rfl) (by kernel_rfl) ⟨trivial, ⟨⟨0, rfl⟩, trivial⟩, ⟨⟨0, rfl⟩, trivial⟩⟩ (fun _ _ _ h => h) ?_
              refine VA.va (i := 7) (listed' := LB 13 255) rfl (op_move rfl (ltn rfl)) rfl (by kernel_rfl) (by kernel_rfl) (by kernel_rfl) (by kernel_rfl) ⟨trivial, ⟨⟨0, rfl⟩, trivial⟩, ⟨⟨0, rfl⟩, trivial⟩⟩ (fun _ _ _ h => h) ?_
              refine VA.va (i := 8) (listed' := LB 13 511) rfl (op_indexAddr Try.underlying22 TI24 rfl rfl c204734 (lt_get c204734 hx204735) (add_zero_at _ _) (ltn rfl)) rfl (by kernel_rfl) (by kernel_rfl) (by kernel_rfl) (by kernel_rfl) ⟨trivial, ⟨⟨0, rfl⟩, trivial⟩, ⟨⟨0, rfl⟩, trivial⟩⟩ (fun _ _ _ h => h) ?_
              refine VA.va (i := 9) (listed' := LB 13 1023) rfl (op_load_own (sz := 3) (o := 0) 0 i204673.toNat 3 rfl rfl (get_map hx204735) TI24 rfl (fun h => absurd h (by decide)) (ltn rfl)) rfl (by kernel_rfl) (by kernel_rfl) (by kernel_rfl) (by kernel_rfl) ⟨trivial, ⟨⟨0, rfl⟩, trivial⟩, ⟨⟨0, rfl⟩, trivial⟩⟩ (fun _ _ _ h => h) ?_
              refine VA.oneC (i := 10) (listed' := LB 13 2047) (by kernel_rfl) rfl (o_call0 FO11 (tarryref06_Less.ok x204616.f0 x204616.f1 x204616.f2 x204735.f0 x204735.f1 x204735.f2 false hA204737) rfl rfl (ltn rfl) (All_of .nil)) rfl (by kernel_rfl) ?_
              rintro _ _ _ ⟨rfl, rfl, rfl⟩
              refine ⟨⟨trivial, ⟨⟨0, rfl⟩, trivial⟩, ⟨⟨0, rfl⟩, trivial⟩⟩, ?_⟩
              refine VA.va (i := 11) (listed' := LB 13 4095) rfl (op_not rfl rfl (ltn rfl)) rfl (by kernel_rfl) (by kernel_rfl) (by kernel_rfl) (by kernel_rfl) ⟨trivial, ⟨⟨0, rfl⟩, trivial⟩, ⟨⟨0, rfl⟩, trivial⟩⟩ (fun _ _ _ h => h) ?_
              refine VA.va (i := 12) (listed' := LB 13 8191) rfl (op_pick rfl rfl (ltn rfl)) rfl (by kernel_rfl) (by kernel_rfl) (by kernel_rfl) (by kernel_rfl) ⟨trivial, ⟨⟨0, rfl⟩, trivial⟩, ⟨⟨0, rfl⟩, trivial⟩⟩ (fun _ _ _ h => h) ?_
              refine VA.done (by kernel_rfl) ?_
              exact VN.meet0  [0] [0] trivial ⟨rfl, ⟨rfl, rfl, rfl, rfl, rfl, rfl, rfl, rfl, rfl, rfl, rfl, rfl, rfl, rfl, rfl, rfl, rfl, rfl, rfl, rfl, rfl, trivial⟩, ⟨⟨0, rfl⟩, trivial⟩, rfl, by decide, rfl, by decide⟩
            intro _
            refine VC.cond_t rfl ?_
            refine VC.skip ?_
            refine VN.then ?_
            refine VC.block ?_
            refine VC.region ?_
            refine VL.va (op_move rfl (ltn rfl)) rfl ?_
            refine VL.va (op_ari64 rfl rfl rfl (ltn rfl)) rfl ?_
            refine VL.va (op_assign rfl (ltn rfl)) rfl ?_
            refine VL.done ?_
            refine VN.block ?_
            refine VN.again [0] [0] (ihl9 (wrap64 (i204673 + 1)) h) ⟨rfl, ⟨rfl, rfl, rfl, rfl, rfl, rfl, rfl, rfl, rfl, trivial⟩, ⟨⟨0, rfl⟩, trivial⟩, rfl, by decide, rfl, by decide⟩
        · rw [if_neg c204734] at h; cases h
      · rw [if_neg c204733] at h
        obtain rfl : b204732 = false := hb204732.symm.trans (decide_eq_false c204733)
        refine VC.join0 (⟨48, [(2, .slice none 0 0), (3, v204121), (5, .pointer (some ⟨g204619, 0, none⟩)), (6, .int .i64 i204673), (9, (.slice (some ad204617) l0.length n204618)), (10, .int .i64 (l0.length : Int)), (11, .int .i64 i204123), (12, .bool true), (14, .agg #[.int .i64 x204616.f0, .int .i64 x204616.f1, .int .i64 x204616.f2]), (15, .int .i64 i204673), (16, v204121), (17, .int .i64 (l204122.length : Int)), (18, .bool false), (19, .bool false), (20, undef), (21, undef), (22, undef), (23, undef), (24, undef), (25, undef), (26, undef), (27, .bool false)], [.row (.slice (some ad204617) l0.length n204618) 3 (l0.map enc23)], [(g204619, 24, [.int .i64 x204616.f0, .int .i64 x204616.f1, .int .i64 x204616.f2])], [(v204121, 24, 3, l204122.map enc23)]⟩) (True) ?_ ?_
        · refine VC.draw ⟨0, [], [], [], [(v204121, 24, 3, l204122.map enc23)]⟩ (by kernel_rfl) rfl (by kernel_rfl) (n := 13) (listed := LB 13 0) ?_
          refine VA.va (i := 0) (listed' := LB 13 1) rfl (op_move rfl (ltn rfl)) rfl (by kernel_rfl) (by kernel_rfl) (by kernel_rfl) (by kernel_rfl) ⟨trivial, trivial, ⟨⟨0, rfl⟩, trivial⟩⟩ (fun _ _ _ h => h) ?_
          refine VA.va (i := 1) (listed' := LB 13 3) rfl (op_move rfl (ltn rfl)) rfl (by kernel_rfl) (by kernel_rfl) (by kernel_rfl) (by kernel_rfl) ⟨trivial, trivial, ⟨⟨0, rfl⟩, trivial⟩⟩ (fun _ _ _ h => h) ?_
          refine VA.va (i := 2) (listed' := LB 13 7) rfl (op_len_own (m := l204122.length) 0 lenm Try.underlying22 rfl rfl (ltn rfl)) rfl (by kernel_rfl) (by kernel_rfl) (by kernel_rfl) (by kernel_rfl) ⟨trivial, trivial, ⟨⟨0, rfl⟩, trivial⟩⟩ (fun _ _ _ h => h) ?_
          refine VA.va (i := 3) (listed' := LB 13 15) rfl (op_cmp rfl rfl (congrArg some hb204732) (ltn rfl)) rfl (by kernel_rfl) (by kernel_rfl) (by kernel_rfl) (by kernel_rfl) ⟨trivial, trivial, ⟨⟨0, rfl⟩, trivial⟩⟩ (fun _ _ _ h => h) ?_
          refine VA.va (i := 4) (listed' := LB 13 31) rfl (op_move rfl (ltn rfl)) rfl (by kernel_rfl) (by kernel_rfl) (by kernel_rfl) (by kernel_rfl) ⟨trivial, trivial, ⟨⟨0, rfl⟩, trivial⟩⟩ (fun _ _ _ h => h) ?_
          refine VA.un (i := 5) (listed' := LB 13 63) rfl rfl rfl (ltn rfl) (by kernel_rfl) (by kernel_rfl) (by kernel_rfl) (by kernel_rfl) ⟨trivial, trivial, ⟨⟨0, rfl⟩, trivial⟩⟩ (fun _ _ _ h => h) ?_
          refine VA.un (i := 6) (listed' := LB 13 127) rfl rfl rfl (ltn rfl) (by kernel_rfl) (by kernel_rfl) (by kernel_rfl) (by kernel_rfl) ⟨trivial, trivial, ⟨⟨0, rfl⟩, trivial⟩⟩ (fun _ _ _ h => h) ?_
          refine VA.un (i := 7) (listed' := LB 13 255) rfl rfl rfl (ltn rfl) (by kernel_rfl) (by kernel_rfl) (by kernel_rfl) (by kernel_rfl) ⟨trivial, trivial, ⟨⟨0, rfl⟩, trivial⟩⟩ (fun _ _ _ h => h) ?_
          refine VA.un (i := 8) (listed' := LB 13 511) rfl rfl rfl (ltn rfl) (by kernel_rfl) (by kernel_rfl) (by kernel_rfl) (by kernel_rfl) ⟨trivial, trivial, ⟨⟨0, rfl⟩, trivial⟩⟩ (fun _ _ _ h => h) ?_
          refine VA.un (i := 9) (listed' := LB 13 1023) rfl rfl rfl (ltn rfl) (by kernel_rfl) (by kernel_rfl) (by kernel_rfl) (by kernel_rfl) ⟨trivial, trivial, ⟨⟨0, rfl⟩, trivial⟩⟩ (fun _ _ _ h => h) ?_
          refine VA.un (i := 10) (listed' := LB 13 2047) rfl rfl rfl (ltn rfl) (by kernel_rfl) (by kernel_rfl) (by kernel_rfl) (by kernel_rfl) ⟨trivial, trivial, ⟨⟨0, rfl⟩, trivial⟩⟩ (fun _ _ _ h => h) ?_
          refine VA.un (i := 11) (listed' := LB 13 4095) rfl rfl rfl (ltn rfl) (by kernel_rfl) (by kernel_rfl) (by kernel_rfl) (by kernel_rfl) ⟨trivial, trivial, ⟨⟨0, rfl⟩, trivial⟩⟩ (fun _ _ _ h => h) ?_
          refine VA.va (i := 12) (listed' := LB 13 8191) rfl (op_pick rfl rfl (ltn rfl)) rfl (by kernel_rfl) (by kernel_rfl) (by kernel_rfl) (by kernel_rfl) ⟨trivial, trivial, ⟨⟨0, rfl⟩, trivial⟩⟩ (fun _ _ _ h => h) ?_
          refine VA.done (by kernel_rfl) ?_
          exact VN.meet0  [0] [0] trivial ⟨rfl, ⟨rfl, rfl, rfl, rfl, rfl, rfl, rfl, rfl, rfl, rfl, rfl, rfl, rfl, rfl, rfl, rfl, rfl, rfl, rfl, rfl, rfl, rfl, trivial⟩, ⟨⟨0, rfl⟩, trivial⟩, rfl, by decide, rfl, by decide⟩
        intro _
        refine VC.cond_f rfl ?_
        refine VC.exit ?_
        refine VX.then ?_
        refine VX.then ?_
        refine VX.hit ?_
        refine VN.then ?_
        refine VC.seq ?_
        refine VC.region ?_
        refine VL.sG (o_buildSlice (vals := []) (cells := #[]) (es := List.map enc23 ([] : List S23)) Try.underlying22 TI24 Z24 rfl (by decide) (by decide) (by kernel_rfl) (by kernel_rfl) rfl (flat_map enc23_ok _) (ltn rfl)) rfl ?_
        intro v204758
        refine VL.va (op_assign rfl (ltn rfl)) rfl ?_
        refine VL.done ?_
        refine VN.then ?_
        refine VC.seq ?_
        refine VC.region ?_
        refine VL.va (op_move rfl (ltn rfl)) rfl ?_
        refine VL.va (op_move rfl (ltn rfl)) rfl ?_
        refine VL.va (op_move rfl (ltn rfl)) rfl ?_
        refine VL.freezeRow' 1 rfl ?_
        by_cases c204759 : 0 ≤ i204673
        · rw [if_pos c204759] at h
          by_cases c204760 : i204673 ≤ (l204122.length : Int)
          · rw [if_pos c204760] at h
            refine VL.sG (o_slice (m := l204122.length) 0 0 i204673.toNat lenm cutm Try.underlying22 TI24 rfl rfl ⟨rfl, ⟨_, _, rfl, c204759, rfl⟩, by omega, by omega⟩ (ltn rfl)) rfl ?_
            intro v204762
            by_cases c204763 : (([] : List S23).length + ((l204122.take i204673.toNat).drop 0).length) * 24 ≤ 140737488355328
            · rw [if_pos c204763] at h
              refine VL.sG (o_append 0 appm Try.underlying22 EI24 rfl rfl rfl (.inl ⟨0, rfl⟩) (bndm c204763) (ltn rfl)) rfl ?_
              intro v204764
              refine VL.va (op_assign rfl (ltn rfl)) rfl ?_
              refine VL.done ?_
              refine VN.then ?_
              refine VC.seq ?_
              refine VC.region ?_
              refine VL.va (op_move rfl (ltn rfl)) rfl ?_
              refine VL.va (op_load 0 3 rfl rfl TI24 rfl (fun h => absurd h (by decide)) (ltn rfl)) rfl ?_
              refine VL.sG (o_buildSlice (vals := [(0, .agg #[.int .i64 x204616.f0, .int .i64 x204616.f1, .int .i64 x204616.f2])]) (cells := #[.int .i64 x204616.f0, .int .i64 x204616.f1, .int .i64 x204616.f2]) (es := List.map enc23 ([x204616] : List S23)) Try.underlying22 TI24 Z24 rfl (by decide) (by decide) (by kernel_rfl) (by kernel_rfl) rfl (flat_map enc23_ok _) (ltn rfl)) rfl ?_
              intro v204767
              by_cases c204768 : ((([] : List S23) ++ ((l204122.take i204673.toNat).drop 0)).length + ([x204616] : List S23).length) * 24 ≤ 140737488355328
              · rw [if_pos c204768] at h
                refine VL.sG (o_append 1 appm Try.underlying22 EI24 rfl rfl rfl (.inr ⟨0, _, rfl⟩) (bndm c204768) (ltn rfl)) rfl ?_
                intro v204769
                refine VL.va (op_assign rfl (ltn rfl)) rfl ?_
                refine VL.done ?_
                refine VN.then ?_
                refine VC.seq ?_
                refine VC.region ?_
                refine VL.va (op_move rfl (ltn rfl)) rfl ?_
                refine VL.va (op_move rfl (ltn rfl)) rfl ?_
                refine VL.va (op_move rfl (ltn rfl)) rfl ?_
                refine VL.sG (o_slice (m := l204122.length) 1 i204673.toNat l204122.length lenm cutm Try.underlying22 TI24 rfl rfl ⟨⟨_, _, rfl, c204759, rfl⟩, rfl, by omega, by omega⟩ (ltn rfl)) rfl ?_
                intro v204772
                by_cases c204773 : (((([] : List S23) ++ ((l204122.take i204673.toNat).drop 0)) ++ ([x204616] : List S23)).length + ((l204122.take l204122.length).drop i204673.toNat).length) * 24 ≤ 140737488355328
                · rw [if_pos c204773] at h
                  refine VL.sG (o_append 1 appm Try.underlying22 EI24 rfl rfl rfl (.inl ⟨0, rfl⟩) (bndm c204773) (ltn rfl)) rfl ?_
                  intro v204774
                  refine VL.va (op_assign rfl (ltn rfl)) rfl ?_
                  refine VL.done ?_
                  refine VN.then ?_
                  refine VC.region ?_
                  refine VL.va (op_move rfl (ltn rfl)) rfl ?_
                  refine VL.va (op_assign rfl (ltn rfl)) rfl ?_
                  refine VL.done ?_
                  refine VN.block ?_
                  refine VN.then ?_
                  refine VC.region ?_
                  refine VL.va (op_ari64 rfl rfl rfl (ltn rfl)) rfl ?_
                  refine VL.va (op_move rfl (ltn rfl)) rfl ?_
                  refine VL.done ?_
                  refine VN.again [] [1] (ihl5 v204774 (((([] : List S23) ++ ((l204122.take i204673.toNat).drop 0)) ++ ([x204616] : List S23)) ++ ((l204122.take l204122.length).drop i204673.toNat)) (wrap64 (i204123 + 1)) h) ⟨rfl, ⟨rfl, rfl, rfl, rfl, rfl, trivial⟩, ⟨⟨3, rfl⟩, trivial⟩, rfl, by decide, rfl, by decide⟩
                · rw [if_neg c204773] at h; cases h
              · rw [if_neg c204768] at h; cases h
            · rw [if_neg c204763] at h; cases h
          · rw [if_neg c204760] at h; cases h
        · rw [if_neg c204759] at h; cases h
    · rw [if_neg c204615] at h; cases h
  · rw [if_neg c204453] at h
    obtain rfl : b204451 = false := hb204451.symm.trans (decide_eq_false c204453)
    refine VC.cond_f rfl ?_
    refine VC.exit ?_
    refine VX.then ?_
    refine VX.then ?_
    refine VX.hit ?_
    refine VN.then ?_
    refine VC.seq ?_
    refine VC.region ?_
    refine VL.va (op_move rfl (ltn rfl)) rfl ?_
    refine VL.va (op_assign rfl (ltn rfl)) rfl ?_
    refine VL.done ?_
    refine VN.then ?_
    refine VC.ret ?_
    obtain rfl := Option.some.inj h
    exact VR.fn (rs := [.tmp 2]) [] [(v204121, 24, 3, l204122.map enc23)] [0] rfl (.tmp rfl .nil) ⟨v204121, rfl, rfl, rfl⟩ trivial rfl (by decide)
set_option maxHeartbeats 4000000 in
set_option maxRecDepth 100000 in
theorem tarryref06_Same.ok (k : Nat) (l0 : List S23) (l1 : List S23) (v0 : Value) (v1 : Value) (r1 : Bool) (h : tarryref06_Same.f k l0 l1 = some r1) :
    VCalls Try.prog 17 [v0, v1] [.row v0 3 (l0.map enc23), .row v1 3 (l1.map enc23)] (fun v G own => v = .bool r1 ∧ G = [] ∧ own = []) := by
  refine VCalls.intro Try.func17 rfl (len rfl) fun E hC => ?_
  unfold tarryref06_Same.f at h
  refine VC.seq ?_
  refine VC.region ?_
  refine VL.va (op_assign rfl (ltn rfl)) rfl ?_
  refine VL.done ?_
  refine VN.then ?_
  refine VC.seq ?_
  refine VC.seq ?_
  refine VC.region ?_
  refine VL.va (op_move rfl (ltn rfl)) rfl ?_
  refine VL.va (op_len (m := l0.length) 0 lenm Try.underlying22 rfl rfl (ltn rfl)) rfl ?_
  refine VL.va (op_move rfl (ltn rfl)) rfl ?_
  refine VL.va (op_len (m := l1.length) 1 lenm Try.underlying22 rfl rfl (ltn rfl)) rfl ?_
  refine VL.letter (((l0.length : Int) != (l1.length : Int))) fun b204788 hb204788 => ?_
  refine VL.va (op_cmp rfl rfl (congrArg some hb204788) (ltn rfl)) rfl ?_
  refine VL.done ?_
  refine VN.then ?_
  by_cases c204789 : (l0.length : Int) = (l1.length : Int)
  · rw [if_pos c204789] at h
    obtain rfl : b204788 = false := hb204788.symm.trans (bne_eq_false_iff_eq.2 c204789)
    refine VC.cond_f rfl ?_
    refine VC.skip ?_
    refine VN.then ?_
    refine VC.seq ?_
    refine VC.seq ?_
    refine VC.region ?_
    refine VL.va (op_move rfl (ltn rfl)) rfl ?_
    refine VL.va (op_len (m := l0.length) 0 lenm Try.underlying22 rfl rfl (ltn rfl)) rfl ?_
    refine VL.va (op_move rfl (ltn rfl)) rfl ?_
    refine VL.done ?_
    refine VN.then ?_
    refine VC.block ?_
    refine VC.loop1 (fun (i204843 : Int) => ⟨26, [(0, v0), (1, v1), (4, .bool false), (12, .int .i64 (l0.length : Int)), (13, .int .i64 i204843)], [.row v0 3 (l0.map enc23), .row v1 3 (l1.map enc23)], [], []⟩) (fun (ml1 : Nat) (i204843 : Int) => tarryref06_Same.l1 k l0 l1 ml1 i204843 = some r1) k 0 [] [] h ⟨rfl, ⟨rfl, rfl, rfl, rfl, rfl, trivial⟩, ⟨⟨0, rfl⟩, ⟨1, rfl⟩, trivial⟩, rfl, by decide, rfl, by decide⟩ (by intros; simp [tarryref06_Same.l1]) ?_
    clear h
    intro ml1 ihl1 i204843 h
    simp only [tarryref06_Same.l1] at h
    refine VC.seq ?_
    refine VC.region ?_
    refine VL.letter (decide (i204843 < (l0.length : Int))) fun b204857 hb204857 => ?_
    refine VL.va (op_cmp rfl rfl (congrArg some hb204857) (ltn rfl)) rfl ?_
    refine VL.done ?_
    refine VN.then ?_
    refine VC.seq ?_
    by_cases c204859 : i204843 < (l0.length : Int)
    · rw [if_pos c204859] at h
      obtain rfl : b204857 = true := hb204857.symm.trans (decide_eq_true c204859)
      refine VC.cond_t rfl ?_
      refine VC.skip ?_
      refine VN.then ?_
      refine VC.seq ?_
      refine VC.block ?_
      refine VC.seq ?_
      refine VC.region ?_
      refine VL.va (op_move rfl (ltn rfl)) rfl ?_
      refine VL.va (op_assign rfl (ltn rfl)) rfl ?_
      refine VL.done ?_
      refine VN.then ?_
      by_cases c204865 : 0 ≤ i204843
      · rw [if_pos c204865] at h
        replace h := Option.bind_eq_some_iff.1 h
        obtain ⟨x204866, hx204866, h⟩ := h
        replace h := Option.bind_eq_some_iff.1 h
        obtain ⟨x204867, hx204867, h⟩ := h
        refine VC.letter ((!(((x204866.f0 == x204867.f0) && ((x204866.f1 == x204867.f1) && (x204866.f2 == x204867.f2)))))) fun b204868 hb204868 => ?_
        refine VC.open (m := l0.length) 0 lenm rfl (pos_get hx204866) ?_
        rintro ad204794 n204795 rfl
        refine VC.open (m := l1.length) 1 lenm rfl (pos_get hx204867) ?_
        rintro ad204797 n204798 rfl
        refine VC.join0 (⟨26, [(0, (.slice (some ad204794) l0.length n204795)), (1, (.slice (some ad204797) l1.length n204798)), (4, .bool false), (5, .int .i64 i204843), (12, .int .i64 (l0.length : Int)), (13, .int .i64 i204843), (14, .bool true), (15, .int .i64 i204843), (16, (.slice (some ad204794) l0.length n204795)), (17, .int .i64 i204843), (19, .agg #[.int .i64 x204866.f0, .int .i64 x204866.f1, .int .i64 x204866.f2]), (20, (.slice (some ad204797) l1.length n204798)), (21, .int .i64 i204843), (23, .agg #[.int .i64 x204867.f0, .int .i64 x204867.f1, .int .i64 x204867.f2]), (24, .bool b204868)], [.row (.slice (some ad204794) l0.length n204795) 3 (l0.map enc23), .row (.slice (some ad204797) l1.length n204798) 3 (l1.map enc23)], [], []⟩) (True) ?_ ?_
        · refine VC.draw ⟨0, [], [.row (.slice (some ad204794) l0.length n204795) 3 (l0.map enc23), .row (.slice (some ad204797) l1.length n204798) 3 (l1.map enc23)], [], []⟩ (by kernel_rfl) rfl (by kernel_rfl) (n := 9) (listed := LB 9 0) ?_
          refine VA.va (i := 0) (listed' := LB 9 1) rfl (op_move rfl (ltn rfl)) rfl (by kernel_rfl) (by kernel_rfl) (by kernel_rfl) (by kernel_rfl) ⟨⟨⟨0, rfl⟩, ⟨1, rfl⟩, trivial⟩, trivial, trivial⟩ (fun _ _ _ h => h) ?_
          refine VA.va (i := 1) (listed' := LB 9 3) rfl (op_move rfl (ltn rfl)) rfl (by kernel_rfl) (by kernel_rfl) (by kernel_rfl) (by kernel_rfl) ⟨⟨⟨0, rfl⟩, ⟨1, rfl⟩, trivial⟩, trivial, trivial⟩ (fun _ _ _ h => h) ?_
          refine VA.va (i := 2) (listed' := LB 9 7) rfl (op_indexAddr Try.underlying22 TI24 rfl rfl c204865 (lt_get c204865 hx204866) rfl (ltn rfl)) rfl (by kernel_rfl) (by kernel_rfl) (by kernel_rfl) (by kernel_rfl) ⟨⟨⟨0, rfl⟩, ⟨1, rfl⟩, trivial⟩, trivial, trivial⟩ (fun _ _ _ h => h) ?_
          refine VA.va (i := 3) (listed' := LB 9 15) rfl (op_load_row (sz := 3) (o := 0) 0 i204843.toNat 3 rfl rfl (get_map hx204866) TI24 rfl (fun h => absurd h (by decide)) (ltn rfl)) rfl (by kernel_rfl) (by kernel_rfl) (by kernel_rfl) (by kernel_rfl) ⟨⟨⟨0, rfl⟩, ⟨1, rfl⟩, trivial⟩, trivial, trivial⟩ (fun _ _ _ h => h) ?_
          refine VA.va (i := 4) (listed' := LB 9 31) rfl (op_move rfl (ltn rfl)) rfl (by kernel_rfl) (by kernel_rfl) (by kernel_rfl) (by kernel_rfl) ⟨⟨⟨0, rfl⟩, ⟨1, rfl⟩, trivial⟩, trivial, trivial⟩ (fun _ _ _ h => h) ?_
          refine VA.va (i := 5) (listed' := LB 9 63) rfl (op_move rfl (ltn rfl)) rfl (by kernel_rfl) (by kernel_rfl) (by kernel_rfl) (by kernel_rfl) ⟨⟨⟨0, rfl⟩, ⟨1, rfl⟩, trivial⟩, trivial, trivial⟩ (fun _ _ _ h => h) ?_
          refine VA.va (i := 6) (listed' := LB 9 127) rfl (op_indexAddr Try.underlying22 TI24 rfl rfl c204865 (lt_get c204865 hx204867) rfl (ltn rfl)) rfl (by kernel_rfl) (by kernel_rfl) (by kernel_rfl) (by kernel_rfl) ⟨⟨⟨0, rfl⟩, ⟨1, rfl⟩, trivial⟩, trivial, trivial⟩ (fun _ _ _ h => h) ?_
          refine VA.va (i := 7) (listed' := LB 9 255) rfl (op_load_row (sz := 3) (o := 0) 1 i204843.toNat 3 rfl rfl (get_map hx204867) TI24 rfl (fun h => absurd h (by decide)) (ltn rfl)) rfl (by kernel_rfl) (by kernel_rfl) (by kernel_rfl) (by kernel_rfl) ⟨⟨⟨0, rfl⟩, ⟨1, rfl⟩, trivial⟩, trivial, trivial⟩ (fun _ _ _ h => h) ?_
          refine VA.va (i := 8) (listed' := LB 9 511) rfl (op_neS rfl rfl EG24 (EQ24 x204866.f0 x204866.f1 x204866.f2 x204867.f0 x204867.f1 x204867.f2) hb204868 (ltn rfl)) rfl (by kernel_rfl) (by kernel_rfl) (by kernel_rfl) (by kernel_rfl) ⟨⟨⟨0, rfl⟩, ⟨1, rfl⟩, trivial⟩, trivial, trivial⟩ (fun _ _ _ h => h) ?_
          refine VA.done (by kernel_rfl) ?_
          exact VN.meet0  [] [] trivial ⟨rfl, ⟨rfl, rfl, rfl, rfl, rfl, rfl, rfl, rfl, rfl, rfl, rfl, rfl, rfl, rfl, rfl, trivial⟩, ⟨⟨0, rfl⟩, ⟨1, rfl⟩, trivial⟩, rfl, by decide, rfl, by decide⟩
        intro _
        by_cases c204869 : (((x204866.f0 == x204867.f0) && ((x204866.f1 == x204867.f1) && (x204866.f2 == x204867.f2)))) = true
        · rw [if_pos c204869] at h
          obtain rfl : b204868 = false := hb204868.symm.trans (not_t c204869)
          refine VC.cond_f rfl ?_
          refine VC.skip ?_
          refine VN.block ?_
          refine VN.then ?_
          refine VC.region ?_
          refine VL.va (op_ari64 rfl rfl rfl (ltn rfl)) rfl ?_
          refine VL.va (op_move rfl (ltn rfl)) rfl ?_
          refine VL.done ?_
          refine VN.again [] [] (ihl1 (wrap64 (i204843 + 1)) h) ⟨rfl, ⟨rfl, rfl, rfl, rfl, rfl, trivial⟩, ⟨⟨0, rfl⟩, ⟨1, rfl⟩, trivial⟩, rfl, by decide, rfl, by decide⟩
        · rw [if_neg c204869] at h
          obtain rfl : b204868 = true := hb204868.symm.trans (not_f c204869)
          refine VC.cond_t rfl ?_
          refine VC.seq ?_
          refine VC.region ?_
          refine VL.va (op_assign rfl (ltn rfl)) rfl ?_
          refine VL.done ?_
          refine VN.then ?_
          refine VC.ret ?_
          refine VR.block ?_
          refine VR.then ?_
          refine VR.then ?_
          refine VR.block ?_
          refine VR.then ?_
          obtain rfl := Option.some.inj h
          exact VR.fn (rs := [.tmp 4]) [] [] [] rfl (.tmp rfl .nil) ⟨rfl, rfl, rfl⟩ trivial rfl (by decide)
      · rw [if_neg c204865] at h; cases h
    · rw [if_neg c204859] at h
      obtain rfl : b204857 = false := hb204857.symm.trans (decide_eq_false c204859)
      refine VC.cond_f rfl ?_
      refine VC.exit ?_
      refine VX.then ?_
      refine VX.then ?_
      refine VX.hit ?_
      refine VN.then ?_
      refine VC.seq ?_
      refine VC.region ?_
      refine VL.va (op_assign rfl (ltn rfl)) rfl ?_
      refine VL.done ?_
      refine VN.then ?_
      refine VC.ret ?_
      obtain rfl := Option.some.inj h
      exact VR.fn (rs := [.tmp 4]) [] [] [] rfl (.tmp rfl .nil) ⟨rfl, rfl, rfl⟩ trivial rfl (by decide)
  · rw [if_neg c204789] at h
    obtain rfl : b204788 = true := hb204788.symm.trans (bne_iff_ne.2 c204789)
    refine VC.cond_t rfl ?_
    refine VC.seq ?_
    refine VC.region ?_
    refine VL.va (op_assign rfl (ltn rfl)) rfl ?_
    refine VL.done ?_
    refine VN.then ?_
    refine VC.ret ?_
    refine VR.then ?_
    obtain rfl := Option.some.inj h
    exact VR.fn (rs := [.tmp 4]) [] [] [] rfl (.tmp rfl .nil) ⟨rfl, rfl, rfl⟩ trivial rfl (by decide)

end Go.Proofs.Ythgoagnennjagaa.PQueueHeaps
