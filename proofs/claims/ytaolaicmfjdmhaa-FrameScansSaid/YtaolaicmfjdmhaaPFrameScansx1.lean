/- Written by a program of this repo: what the program's functions do, each as a Lean function, shown of the loaded code; or a statement's row over that; no condition of its own. -/
import Derived.Test.YtaolaicmfjdmhaaPFrameScansx0
namespace Go.Proofs.Ytaolaicmfjdmhaa.PFrameScans
open Go Go.RowKit Go.Proofs.YtaolaicmfjdmhaaV
set_option linter.unusedVariables false
set_option linter.unusedSimpArgs false

set_option maxHeartbeats 4000000 in
set_option maxRecDepth 100000 in
theorem pack_may.ok (a0 : Int)  (r1 : Bool) (h : pack_may.f a0 = some r1) :
    VCalls Try.prog 25 [.int .i64 a0] [] (fun v G own => v = .bool r1 ∧ G = [] ∧ own = []) := by
  refine VCalls.intro Try.func25 rfl (len rfl) fun E hC hW hD => ?_
  unfold pack_may.f at h
  refine VC.seq ?_
  refine VC.region ?_
  refine VL.va (op_assign rfl (ltn rfl)) rfl ?_
  refine VL.done ?_
  refine VN.then ?_
  refine VC.seq ?_
  refine VC.region ?_
  refine VL.va (op_move rfl (ltn rfl)) rfl ?_
  refine VL.letter (decide (a0 ≥ (-1152921504606846976))) fun b12 hb12 => ?_
  refine VL.va (op_cmp rfl rfl (congrArg some hb12) (ltn rfl)) rfl ?_
  refine VL.va (op_move rfl (ltn rfl)) rfl ?_
  by_cases c13 : a0 ≥ (-1152921504606846976)
  · rw [if_pos c13] at h
    obtain rfl : b12 = true := hb12.symm.trans (decide_eq_true c13)
    refine VL.va (op_move rfl (ltn rfl)) rfl ?_
    refine VL.letter (decide (a0 ≤ 1152921504606846976)) fun b14 hb14 => ?_
    refine VL.va (op_cmp rfl rfl (congrArg some hb14) (ltn rfl)) rfl ?_
    refine VL.va (op_pick rfl rfl (ltn rfl)) rfl ?_
    refine VL.va (op_assign rfl (ltn rfl)) rfl ?_
    refine VL.done ?_
    refine VN.then ?_
    refine VC.ret ?_
    obtain rfl := Option.some.inj h
    subst hb14
    exact VR.fn (rs := [.tmp 2]) [] [] [] rfl (.tmp rfl .nil) ⟨rfl, rfl, rfl⟩ trivial rfl (by decide)
  · rw [if_neg c13] at h
    obtain rfl : b12 = false := hb12.symm.trans (decide_eq_false c13)
    refine VL.un rfl rfl (ltn rfl) ?_
    refine VL.un rfl rfl (ltn rfl) ?_
    refine VL.va (op_pick rfl rfl (ltn rfl)) rfl ?_
    refine VL.va (op_assign rfl (ltn rfl)) rfl ?_
    refine VL.done ?_
    refine VN.then ?_
    refine VC.ret ?_
    obtain rfl := Option.some.inj h
    exact VR.fn (rs := [.tmp 2]) [] [] [] rfl (.tmp rfl .nil) ⟨rfl, rfl, rfl⟩ trivial rfl (by decide)
set_option maxHeartbeats 4000000 in
set_option maxRecDepth 100000 in
theorem pack_Number.ok (k : Nat) (a0 : Int)  (r1 : ByteArray) (r2 : Int) (h : pack_Number.f k a0 = some (r1, r2)) :
    VCalls Try.prog 16 [.int .i64 a0] [] (fun v G own => v = .tuple #[.string r1, .int .i64 r2] ∧ G = [] ∧ own = []) := by
  refine VCalls.intro Try.func16 rfl (len rfl) fun E hC hW hD => ?_
  unfold pack_Number.f at h
  refine VC.seq ?_
  refine VC.region ?_
  refine VL.va (op_assign rfl (ltn rfl)) rfl ?_
  refine VL.va (op_assign rfl (ltn rfl)) rfl ?_
  refine VL.done ?_
  refine VN.then ?_
  refine VC.seq ?_
  refine VC.seq ?_
  refine VC.region ?_
  refine VL.va (op_move rfl (ltn rfl)) rfl ?_
  replace h := Option.bind_eq_some_iff.1 h
  obtain ⟨t24, hA25, h⟩ := h
  refine VL.sC (o_call0 FO25 (pack_may.ok a0 t24 hA25) rfl rfl (ltn rfl) (All_of .nil)) rfl ?_
  rintro _ _ _ ⟨rfl, rfl, rfl⟩
  by_cases c26 : t24 = true
  · rw [if_pos c26] at h
    obtain rfl := c26
    refine VL.va (op_not rfl rfl (ltn rfl)) rfl ?_
    refine VL.done ?_
    refine VN.then ?_
    refine VC.cond_f rfl ?_
    refine VC.skip ?_
    refine VN.then ?_
    refine VC.seq ?_
    refine VC.region ?_
    refine VL.va (op_move rfl (ltn rfl)) rfl ?_
    refine VL.va (op_ari64 rfl rfl rfl (ltn rfl)) rfl ?_
    refine VL.va (op_assign rfl (ltn rfl)) rfl ?_
    refine VL.done ?_
    refine VN.then ?_
    refine VC.seq ?_
    refine VC.seq ?_
    refine VC.region ?_
    refine VL.va (op_move rfl (ltn rfl)) rfl ?_
    refine VL.letter (decide (a0 < 0)) fun b29 hb29 => ?_
    refine VL.va (op_cmp rfl rfl (congrArg some hb29) (ltn rfl)) rfl ?_
    refine VL.done ?_
    refine VN.then ?_
    by_cases c30 : a0 < 0
    · rw [if_pos c30] at h
      obtain rfl : b29 = true := hb29.symm.trans (decide_eq_true c30)
      refine VC.cond_t rfl ?_
      refine VC.region ?_
      refine VL.va (op_move rfl (ltn rfl)) rfl ?_
      refine VL.va (op_ari64 rfl rfl rfl (ltn rfl)) rfl ?_
      refine VL.va (op_ari64 rfl rfl rfl (ltn rfl)) rfl ?_
      refine VL.va (op_assign rfl (ltn rfl)) rfl ?_
      refine VL.done ?_
      refine VN.then ?_
      refine VC.seq ?_
      refine VC.region ?_
      refine VL.va (op_assign rfl (ltn rfl)) rfl ?_
      refine VL.done ?_
      refine VN.then ?_
      refine VC.seq ?_
      refine VC.block ?_
      refine VC.nilRow' 5 1 ?_
      refine VC.loop3 (fun (i75 : Int) (v77 : Value) (l78 : List Int) => ⟨33, [(2, .string (⟨#[]⟩ : ByteArray)), (3, .int .i64 0), (4, .int .i64 i75), (5, v77)], [], [], [(v77, 5, 1, l78.map enc_intu8)]⟩) (fun (ml1 : Nat) (i75 : Int) (v77 : Value) (l78 : List Int) => pack_Number.l1 k ml1 i75 l78 = some (r1, r2)) k (wrap64 ((wrap64 ((-2) * a0)) - 1)) (.slice none 0 0) ([] : List Int) [] [0] h ⟨rfl, ⟨rfl, rfl, rfl, rfl, trivial⟩, trivial, rfl, by decide, rfl, by decide⟩ (by intros; simp [pack_Number.l1]) ?_
      clear h
      intro ml1 ihl1 i75 v77 l78 h
      simp only [pack_Number.l1] at h
      refine VC.seq ?_
      refine VC.seq ?_
      refine VC.region ?_
      refine VL.va (op_move rfl (ltn rfl)) rfl ?_
      refine VL.letter (decide (i75 ≥ 128)) fun b96 hb96 => ?_
      refine VL.va (op_cmp rfl rfl (congrArg some hb96) (ltn rfl)) rfl ?_
      refine VL.done ?_
      refine VN.then ?_
      by_cases c97 : i75 ≥ 128
      · rw [if_pos c97] at h
        obtain rfl : b96 = true := hb96.symm.trans (decide_eq_true c97)
        refine VC.cond_t rfl ?_
        refine VC.skip ?_
        refine VN.then ?_
        refine VC.seq ?_
        refine VC.block ?_
        refine VC.region ?_
        refine VL.va (op_move rfl (ltn rfl)) rfl ?_
        refine VL.va (op_move rfl (ltn rfl)) rfl ?_
        refine VL.va (op_rem rfl rfl (by decide) rfl (ltn rfl)) rfl ?_
        refine VL.va (op_ari64 rfl rfl rfl (ltn rfl)) rfl ?_
        refine VL.va (op_conv Try.underlying3 Try.underlying5 rfl rfl (ltn rfl)) rfl ?_
        refine VL.sG (o_buildSlice (vals := [(0, .int .u8 (IntKind.u8.wrap (wrap64 ((i75.tmod 128) + 128))))]) (cells := #[.int .u8 (IntKind.u8.wrap (wrap64 ((i75.tmod 128) + 128)))]) (es := List.map enc_intu8 ([IntKind.u8.wrap (wrap64 ((i75.tmod 128) + 128))] : List Int)) Try.underlying29 TI5 Z5 rfl (by decide) (by decide) (by kernel_rfl) (by kernel_rfl) rfl (flat_map enc_intu8_ok _) (ltn rfl)) rfl ?_
        intro v99
        by_cases c100 : (l78.length + ([IntKind.u8.wrap (wrap64 ((i75.tmod 128) + 128))] : List Int).length) * 1 ≤ 140737488355328
        · rw [if_pos c100] at h
          refine VL.sG (o_append 1 appm Try.underlying29 EI5 rfl rfl rfl (.inr ⟨0, _, rfl⟩) (bndm c100) (ltn rfl)) rfl ?_
          intro v101
          refine VL.va (op_assign rfl (ltn rfl)) rfl ?_
          refine VL.done ?_
          refine VN.block ?_
          refine VN.then ?_
          refine VC.region ?_
          refine VL.va (op_move rfl (ltn rfl)) rfl ?_
          refine VL.va (op_quo rfl rfl (by decide) rfl (ltn rfl)) rfl ?_
          refine VL.va (op_assign rfl (ltn rfl)) rfl ?_
          refine VL.done ?_
          refine VN.again [] [1] (ihl1 (IntKind.i64.wrap (i75.tdiv 128)) v101 (l78 ++ ([IntKind.u8.wrap (wrap64 ((i75.tmod 128) + 128))] : List Int)) h) ⟨rfl, ⟨rfl, rfl, rfl, rfl, trivial⟩, trivial, rfl, by decide, rfl, by decide⟩
        · rw [if_neg c100] at h; cases h
      · rw [if_neg c97] at h
        obtain rfl : b96 = false := hb96.symm.trans (decide_eq_false c97)
        refine VC.cond_f rfl ?_
        refine VC.exit ?_
        refine VX.then ?_
        refine VX.then ?_
        refine VX.hit ?_
        refine VN.then ?_
        refine VC.seq ?_
        refine VC.region ?_
        refine VL.va (op_move rfl (ltn rfl)) rfl ?_
        refine VL.va (op_move rfl (ltn rfl)) rfl ?_
        refine VL.va (op_conv Try.underlying3 Try.underlying5 rfl rfl (ltn rfl)) rfl ?_
        refine VL.sG (o_buildSlice (vals := [(0, .int .u8 (IntKind.u8.wrap i75))]) (cells := #[.int .u8 (IntKind.u8.wrap i75)]) (es := List.map enc_intu8 ([IntKind.u8.wrap i75] : List Int)) Try.underlying29 TI5 Z5 rfl (by decide) (by decide) (by kernel_rfl) (by kernel_rfl) rfl (flat_map enc_intu8_ok _) (ltn rfl)) rfl ?_
        intro v104
        by_cases c105 : (l78.length + ([IntKind.u8.wrap i75] : List Int).length) * 1 ≤ 140737488355328
        · rw [if_pos c105] at h
          refine VL.sG (o_append 1 appm Try.underlying29 EI5 rfl rfl rfl (.inr ⟨0, _, rfl⟩) (bndm c105) (ltn rfl)) rfl ?_
          intro v106
          refine VL.va (op_bytesStr_own (xs := (l78 ++ ([IntKind.u8.wrap i75] : List Int))) 1 rfl rfl Try.underlying29 Try.underlying9 Try.underlying5 rfl rfl (ltn rfl)) rfl ?_
          refine VL.va (op_assign rfl (ltn rfl)) rfl ?_
          refine VL.va (op_assign rfl (ltn rfl)) rfl ?_
          refine VL.done ?_
          refine VN.then ?_
          refine VC.ret ?_
          simp only [Option.some.injEq, Prod.mk.injEq] at h
          obtain ⟨rfl, rfl⟩ := h
          exact VR.fn (rs := [.tmp 2, .tmp 3]) [] [] [] rfl (.tmp rfl (.tmp rfl .nil)) ⟨rfl, rfl, rfl⟩ trivial rfl (by decide)
        · rw [if_neg c105] at h; cases h
    · rw [if_neg c30] at h
      obtain rfl : b29 = false := hb29.symm.trans (decide_eq_false c30)
      refine VC.cond_f rfl ?_
      refine VC.skip ?_
      refine VN.then ?_
      refine VC.seq ?_
      refine VC.region ?_
      refine VL.va (op_assign rfl (ltn rfl)) rfl ?_
      refine VL.done ?_
      refine VN.then ?_
      refine VC.seq ?_
      refine VC.block ?_
      refine VC.nilRow' 5 1 ?_
      refine VC.loop3 (fun (i151 : Int) (v153 : Value) (l154 : List Int) => ⟨33, [(2, .string (⟨#[]⟩ : ByteArray)), (3, .int .i64 0), (4, .int .i64 i151), (5, v153)], [], [], [(v153, 5, 1, l154.map enc_intu8)]⟩) (fun (ml3 : Nat) (i151 : Int) (v153 : Value) (l154 : List Int) => pack_Number.l3 k ml3 i151 l154 = some (r1, r2)) k (wrap64 (2 * a0)) (.slice none 0 0) ([] : List Int) [] [0] h ⟨rfl, ⟨rfl, rfl, rfl, rfl, trivial⟩, trivial, rfl, by decide, rfl, by decide⟩ (by intros; simp [pack_Number.l3]) ?_
      clear h
      intro ml3 ihl3 i151 v153 l154 h
      simp only [pack_Number.l3] at h
      refine VC.seq ?_
      refine VC.seq ?_
      refine VC.region ?_
      refine VL.va (op_move rfl (ltn rfl)) rfl ?_
      refine VL.letter (decide (i151 ≥ 128)) fun b172 hb172 => ?_
      refine VL.va (op_cmp rfl rfl (congrArg some hb172) (ltn rfl)) rfl ?_
      refine VL.done ?_
      refine VN.then ?_
      by_cases c173 : i151 ≥ 128
      · rw [if_pos c173] at h
        obtain rfl : b172 = true := hb172.symm.trans (decide_eq_true c173)
        refine VC.cond_t rfl ?_
        refine VC.skip ?_
        refine VN.then ?_
        refine VC.seq ?_
        refine VC.block ?_
        refine VC.region ?_
        refine VL.va (op_move rfl (ltn rfl)) rfl ?_
        refine VL.va (op_move rfl (ltn rfl)) rfl ?_
        refine VL.va (op_rem rfl rfl (by decide) rfl (ltn rfl)) rfl ?_
        refine VL.va (op_ari64 rfl rfl rfl (ltn rfl)) rfl ?_
        refine VL.va (op_conv Try.underlying3 Try.underlying5 rfl rfl (ltn rfl)) rfl ?_
        refine VL.sG (o_buildSlice (vals := [(0, .int .u8 (IntKind.u8.wrap (wrap64 ((i151.tmod 128) + 128))))]) (cells := #[.int .u8 (IntKind.u8.wrap (wrap64 ((i151.tmod 128) + 128)))]) (es := List.map enc_intu8 ([IntKind.u8.wrap (wrap64 ((i151.tmod 128) + 128))] : List Int)) Try.underlying29 TI5 Z5 rfl (by decide) (by decide) (by kernel_rfl) (by kernel_rfl) rfl (flat_map enc_intu8_ok _) (ltn rfl)) rfl ?_
        intro v175
        by_cases c176 : (l154.length + ([IntKind.u8.wrap (wrap64 ((i151.tmod 128) + 128))] : List Int).length) * 1 ≤ 140737488355328
        · rw [if_pos c176] at h
          refine VL.sG (o_append 1 appm Try.underlying29 EI5 rfl rfl rfl (.inr ⟨0, _, rfl⟩) (bndm c176) (ltn rfl)) rfl ?_
          intro v177
          refine VL.va (op_assign rfl (ltn rfl)) rfl ?_
          refine VL.done ?_
          refine VN.block ?_
          refine VN.then ?_
          refine VC.region ?_
          refine VL.va (op_move rfl (ltn rfl)) rfl ?_
          refine VL.va (op_quo rfl rfl (by decide) rfl (ltn rfl)) rfl ?_
          refine VL.va (op_assign rfl (ltn rfl)) rfl ?_
          refine VL.done ?_
          refine VN.again [] [1] (ihl3 (IntKind.i64.wrap (i151.tdiv 128)) v177 (l154 ++ ([IntKind.u8.wrap (wrap64 ((i151.tmod 128) + 128))] : List Int)) h) ⟨rfl, ⟨rfl, rfl, rfl, rfl, trivial⟩, trivial, rfl, by decide, rfl, by decide⟩
        · rw [if_neg c176] at h; cases h
      · rw [if_neg c173] at h
        obtain rfl : b172 = false := hb172.symm.trans (decide_eq_false c173)
        refine VC.cond_f rfl ?_
        refine VC.exit ?_
        refine VX.then ?_
        refine VX.then ?_
        refine VX.hit ?_
        refine VN.then ?_
        refine VC.seq ?_
        refine VC.region ?_
        refine VL.va (op_move rfl (ltn rfl)) rfl ?_
        refine VL.va (op_move rfl (ltn rfl)) rfl ?_
        refine VL.va (op_conv Try.underlying3 Try.underlying5 rfl rfl (ltn rfl)) rfl ?_
        refine VL.sG (o_buildSlice (vals := [(0, .int .u8 (IntKind.u8.wrap i151))]) (cells := #[.int .u8 (IntKind.u8.wrap i151)]) (es := List.map enc_intu8 ([IntKind.u8.wrap i151] : List Int)) Try.underlying29 TI5 Z5 rfl (by decide) (by decide) (by kernel_rfl) (by kernel_rfl) rfl (flat_map enc_intu8_ok _) (ltn rfl)) rfl ?_
        intro v180
        by_cases c181 : (l154.length + ([IntKind.u8.wrap i151] : List Int).length) * 1 ≤ 140737488355328
        · rw [if_pos c181] at h
          refine VL.sG (o_append 1 appm Try.underlying29 EI5 rfl rfl rfl (.inr ⟨0, _, rfl⟩) (bndm c181) (ltn rfl)) rfl ?_
          intro v182
          refine VL.va (op_bytesStr_own (xs := (l154 ++ ([IntKind.u8.wrap i151] : List Int))) 1 rfl rfl Try.underlying29 Try.underlying9 Try.underlying5 rfl rfl (ltn rfl)) rfl ?_
          refine VL.va (op_assign rfl (ltn rfl)) rfl ?_
          refine VL.va (op_assign rfl (ltn rfl)) rfl ?_
          refine VL.done ?_
          refine VN.then ?_
          refine VC.ret ?_
          simp only [Option.some.injEq, Prod.mk.injEq] at h
          obtain ⟨rfl, rfl⟩ := h
          exact VR.fn (rs := [.tmp 2, .tmp 3]) [] [] [] rfl (.tmp rfl (.tmp rfl .nil)) ⟨rfl, rfl, rfl⟩ trivial rfl (by decide)
        · rw [if_neg c181] at h; cases h
  · rw [if_neg c26] at h
    obtain rfl := Bool.eq_false_iff.2 c26
    refine VL.va (op_not rfl rfl (ltn rfl)) rfl ?_
    refine VL.done ?_
    refine VN.then ?_
    refine VC.cond_t rfl ?_
    refine VC.seq ?_
    refine VC.region ?_
    refine VL.va (op_assign rfl (ltn rfl)) rfl ?_
    refine VL.va (op_assign rfl (ltn rfl)) rfl ?_
    refine VL.done ?_
    refine VN.then ?_
    refine VC.ret ?_
    refine VR.then ?_
    simp only [Option.some.injEq, Prod.mk.injEq] at h
    obtain ⟨rfl, rfl⟩ := h
    exact VR.fn (rs := [.tmp 2, .tmp 3]) [] [] [] rfl (.tmp rfl (.tmp rfl .nil)) ⟨rfl, rfl, rfl⟩ trivial rfl (by decide)
set_option maxHeartbeats 4000000 in
set_option maxRecDepth 100000 in
theorem check_Table.ok (k : Nat)   (r1 : List Int) (h : check_Table.f k = some r1) :
    VCalls Try.prog 31 [] [] (fun v G own => v = .agg (ints .u32 r1).toArray ∧ G = [] ∧ own = []) := by
  refine VCalls.intro Try.func31 rfl (len rfl) fun E hC hW hD => ?_
  unfold check_Table.f at h
  refine VC.seq ?_
  refine VC.region ?_
  refine VL.sG (o_alloc Z56 ZL56 (ltn rfl)) rfl ?_
  intro g188
  refine VL.done ?_
  refine VN.then ?_
  refine VC.seq ?_
  refine VC.region ?_
  refine VL.sG (o_alloc Z56 ZL56 (ltn rfl)) rfl ?_
  intro g189
  refine VL.done ?_
  refine VN.then ?_
  refine VC.seq ?_
  refine VC.seq ?_
  refine VC.region ?_
  refine VL.va (op_move rfl (ltn rfl)) rfl ?_
  refine VL.done ?_
  refine VN.then ?_
  refine VC.block ?_
  refine VC.loop2 (fun (i558 : Int) (l559 : List Int) => ⟨25, [(0, .pointer (some ⟨g188, 0, none⟩)), (1, .pointer (some ⟨g189, 0, none⟩)), (5, .int .u32 i558)], [], [(g189, 56, ints .u32 l559), (g188, 56, ints .u32 (List.replicate 256 (0 : Int)))], []⟩) (fun (ml5 : Nat) (i558 : Int) (l559 : List Int) => check_Table.l5 k ml5 i558 l559 = some r1) k 0 (List.replicate 256 (0 : Int)) [0, 1] [] h ⟨rfl, ⟨rfl, rfl, rfl, trivial⟩, trivial, rfl, by decide, rfl, by decide⟩ (by intros; simp [check_Table.l5]) ?_
  clear h
  intro ml5 ihl5 i558 l559 h
  simp only [check_Table.l5] at h
  refine VC.seq ?_
  refine VC.region ?_
  refine VL.letter (decide (i558 < 256)) fun b655 hb655 => ?_
  refine VL.va (op_cmp rfl rfl (congrArg some hb655) (ltn rfl)) rfl ?_
  refine VL.done ?_
  refine VN.then ?_
  refine VC.seq ?_
  by_cases c659 : i558 < 256
  · rw [if_pos c659] at h
    obtain rfl : b655 = true := hb655.symm.trans (decide_eq_true c659)
    refine VC.cond_t rfl ?_
    refine VC.skip ?_
    refine VN.then ?_
    refine VC.seq ?_
    refine VC.block ?_
    refine VC.seq ?_
    refine VC.region ?_
    refine VL.va (op_move rfl (ltn rfl)) rfl ?_
    refine VL.va (op_assign rfl (ltn rfl)) rfl ?_
    refine VL.done ?_
    refine VN.then ?_
    refine VC.seq ?_
    refine VC.region ?_
    refine VL.va (op_move rfl (ltn rfl)) rfl ?_
    refine VL.va (op_assign rfl (ltn rfl)) rfl ?_
    refine VL.done ?_
    refine VN.then ?_
    refine VC.seq ?_
    refine VC.seq ?_
    refine VC.region ?_
    refine VL.va (op_move rfl (ltn rfl)) rfl ?_
    refine VL.done ?_
    refine VN.then ?_
    refine VC.block ?_
    refine VC.loop2 (fun (i730 : Int) (i731 : Int) => ⟨25, [(0, .pointer (some ⟨g188, 0, none⟩)), (1, .pointer (some ⟨g189, 0, none⟩)), (2, .int .u32 i558), (3, .int .u32 i730), (5, .int .u32 i558), (6, .bool true), (7, .int .u32 i558), (8, .int .u32 i558), (9, .int .i64 i731)], [], [(g189, 56, ints .u32 l559), (g188, 56, ints .u32 (List.replicate 256 (0 : Int)))], []⟩) (fun (ml9 : Nat) (i730 : Int) (i731 : Int) => check_Table.l9 k (check_Table.l5 k ml5) i558 l559 ml9 i730 i731 = some r1) k i558 0 [0, 1] [] h ⟨rfl, ⟨rfl, rfl, rfl, rfl, rfl, rfl, rfl, rfl, rfl, trivial⟩, trivial, rfl, by decide, rfl, by decide⟩ (by intros; simp [check_Table.l9]) ?_
    clear h
    intro ml9 ihl9 i730 i731 h
    simp only [check_Table.l9] at h
    refine VC.seq ?_
    refine VC.region ?_
    refine VL.letter (decide (i731 < 8)) fun b739 hb739 => ?_
    refine VL.va (op_cmp rfl rfl (congrArg some hb739) (ltn rfl)) rfl ?_
    refine VL.done ?_
    refine VN.then ?_
    refine VC.seq ?_
    by_cases c744 : i731 < 8
    · rw [if_pos c744] at h
      obtain rfl : b739 = true := hb739.symm.trans (decide_eq_true c744)
      refine VC.cond_t rfl ?_
      refine VC.skip ?_
      refine VN.then ?_
      refine VC.seq ?_
      refine VC.block ?_
      refine VC.seq ?_
      refine VC.region ?_
      refine VL.va (op_move rfl (ltn rfl)) rfl ?_
      refine VL.va (op_bits rfl rfl rfl (ltn rfl)) rfl ?_
      refine VL.va (op_assign rfl (ltn rfl)) rfl ?_
      refine VL.done ?_
      refine VN.then ?_
      refine VC.seq ?_
      refine VC.region ?_
      refine VL.va (op_move rfl (ltn rfl)) rfl ?_
      refine VL.va (op_shr rfl rfl (by decide) rfl (ltn rfl)) rfl ?_
      refine VL.va (op_assign rfl (ltn rfl)) rfl ?_
      refine VL.done ?_
      refine VN.then ?_
      refine VC.seq ?_
      refine VC.region ?_
      refine VL.va (op_move rfl (ltn rfl)) rfl ?_
      refine VL.letter (((Go.bits .and .u32 i730 1) == 1)) fun b747 hb747 => ?_
      refine VL.va (op_cmp rfl rfl (congrArg some hb747) (ltn rfl)) rfl ?_
      refine VL.done ?_
      refine VN.then ?_
      by_cases c748 : (Go.bits .and .u32 i730 1) = 1
      · rw [if_pos c748] at h
        obtain rfl : b747 = true := hb747.symm.trans (beq_iff_eq.2 c748)
        refine VC.cond_t rfl ?_
        refine VC.region ?_
        refine VL.va (op_move rfl (ltn rfl)) rfl ?_
        refine VL.va (op_bits rfl rfl rfl (ltn rfl)) rfl ?_
        refine VL.va (op_assign rfl (ltn rfl)) rfl ?_
        refine VL.done ?_
        refine VN.block ?_
        refine VN.then ?_
        refine VC.region ?_
        refine VL.va (op_ari64 rfl rfl rfl (ltn rfl)) rfl ?_
        refine VL.va (op_move rfl (ltn rfl)) rfl ?_
        refine VL.done ?_
        refine VN.again [0, 1] [] (ihl9 (Go.bits .xor .u32 (i730.fdiv (2 ^ min (1 : Int).toNat IntKind.u32.bits)) 2197175160) (wrap64 (i731 + 1)) h) ⟨rfl, ⟨rfl, rfl, rfl, rfl, rfl, rfl, rfl, rfl, rfl, trivial⟩, trivial, rfl, by decide, rfl, by decide⟩
      · rw [if_neg c748] at h
        obtain rfl : b747 = false := hb747.symm.trans (beq_eq_false_iff_ne.2 c748)
        refine VC.cond_f rfl ?_
        refine VC.skip ?_
        refine VN.block ?_
        refine VN.then ?_
        refine VC.region ?_
        refine VL.va (op_ari64 rfl rfl rfl (ltn rfl)) rfl ?_
        refine VL.va (op_move rfl (ltn rfl)) rfl ?_
        refine VL.done ?_
        refine VN.again [0, 1] [] (ihl9 (i730.fdiv (2 ^ min (1 : Int).toNat IntKind.u32.bits)) (wrap64 (i731 + 1)) h) ⟨rfl, ⟨rfl, rfl, rfl, rfl, rfl, rfl, rfl, rfl, rfl, trivial⟩, trivial, rfl, by decide, rfl, by decide⟩
    · rw [if_neg c744] at h
      obtain rfl : b739 = false := hb739.symm.trans (decide_eq_false c744)
      refine VC.cond_f rfl ?_
      refine VC.exit ?_
      refine VX.then ?_
      refine VX.then ?_
      refine VX.hit ?_
      refine VN.then ?_
      refine VC.region ?_
      refine VL.va (op_move rfl (ltn rfl)) rfl ?_
      refine VL.va (op_move rfl (ltn rfl)) rfl ?_
      by_cases c749 : 0 ≤ i558
      · rw [if_pos c749] at h
        by_cases c750 : i558 < 256
        · rw [if_pos c750] at h
          refine VL.va (op_indexAddrA Try.underlying56 TI23 rfl rfl c749 c750 (ltn rfl)) rfl ?_
          by_cases c751 : i558.toNat < l559.length
          · rw [if_pos c751] at h
            refine VL.step1 (o_storeE 0 rfl rfl rfl TI23 c751) rfl ?_
            refine VL.done ?_
            refine VN.block ?_
            refine VN.then ?_
            refine VC.region ?_
            refine VL.va (op_ari rfl rfl rfl (ltn rfl)) rfl ?_
            refine VL.va (op_move rfl (ltn rfl)) rfl ?_
            refine VL.done ?_
            refine VN.again [0, 1] [] (ihl5 (IntKind.u32.wrap (i558 + 1)) (l559.set i558.toNat i730) h) ⟨rfl, ⟨rfl, rfl, rfl, trivial⟩, trivial, rfl, by decide, rfl, by decide⟩
          · rw [if_neg c751] at h; cases h
        · rw [if_neg c750] at h; cases h
      · rw [if_neg c749] at h; cases h
  · rw [if_neg c659] at h
    obtain rfl : b655 = false := hb655.symm.trans (decide_eq_false c659)
    refine VC.cond_f rfl ?_
    refine VC.exit ?_
    refine VX.then ?_
    refine VX.then ?_
    refine VX.hit ?_
    refine VN.then ?_
    refine VC.seq ?_
    refine VC.region ?_
    by_cases c752 : l559.length = 256
    · rw [if_pos c752] at h
      refine VL.va (op_loadA 0 rfl rfl TI56 c752 (ltn rfl)) rfl ?_
      by_cases c753 : (List.replicate 256 (0 : Int)).length = 256
      · rw [if_pos c753] at h
        refine VL.step1 (o_storeA 1 rfl rfl rfl TI56 c752 c753) rfl ?_
        refine VL.done ?_
        refine VN.then ?_
        refine VC.ret ?_
        obtain rfl := Option.some.inj h
        exact VR.fn (rs := [.cell 0 56]) [] [] [] rfl (.cellA 1 rfl rfl TI56 c752 .nil) ⟨rfl, rfl, rfl⟩ trivial rfl (by decide)
      · rw [if_neg c753] at h; cases h
    · rw [if_neg c752] at h; cases h
set_option maxHeartbeats 4000000 in
set_option maxRecDepth 100000 in
theorem check_On.ok (k : Nat) (a0 : Int) (a1 : ByteArray)  (r1 : Int) (h : check_On.f k a0 a1 = some r1) :
    VCalls Try.prog 26 [.int .u32 a0, .string a1] [] (fun v G own => v = .int .u32 r1 ∧ G = [] ∧ own = []) := by
  refine VCalls.intro Try.func26 rfl (len rfl) fun E hC hW hD => ?_
  unfold check_On.f at h
  refine VC.seq ?_
  refine VC.region ?_
  refine VL.va (op_assign rfl (ltn rfl)) rfl ?_
  refine VL.done ?_
  refine VN.then ?_
  refine VC.seq ?_
  refine VC.region ?_
  replace h := Option.bind_eq_some_iff.1 h
  obtain ⟨r754, hA755, h⟩ := h
  refine VL.sC (o_call0 FO31 (check_Table.ok k r754 hA755) rfl rfl (ltn rfl) (All_of .nil)) rfl ?_
  rintro _ _ _ ⟨rfl, rfl, rfl⟩
  refine VL.sG (o_alloc Z56 ZL56 (ltn rfl)) rfl ?_
  intro g756
  by_cases c757 : r754.length = 256
  · rw [if_pos c757] at h
    by_cases c758 : (List.replicate 256 (0 : Int)).length = 256
    · rw [if_pos c758] at h
      refine VL.step1 (o_storeA 0 rfl rfl rfl TI56 c757 c758) rfl ?_
      refine VL.done ?_
      refine VN.then ?_
      refine VC.seq ?_
      refine VC.region ?_
      refine VL.va (op_move rfl (ltn rfl)) rfl ?_
      refine VL.va (op_bits rfl rfl rfl (ltn rfl)) rfl ?_
      refine VL.va (op_assign rfl (ltn rfl)) rfl ?_
      refine VL.done ?_
      refine VN.then ?_
      refine VC.seq ?_
      refine VC.seq ?_
      refine VC.region ?_
      refine VL.va (op_move rfl (ltn rfl)) rfl ?_
      refine VL.va (op_lens Try.underlying9 rfl (ltn rfl)) rfl ?_
      refine VL.va (op_move rfl (ltn rfl)) rfl ?_
      refine VL.done ?_
      refine VN.then ?_
      refine VC.block ?_
      refine VC.loop2 (fun (i791 : Int) (i792 : Int) => ⟨29, [(0, .int .u32 i791), (1, .string a1), (4, .int .u32 0), (5, .pointer (some ⟨g756, 0, none⟩)), (11, .int .i64 (a1.size : Int)), (12, .int .i64 i792)], [], [(g756, 56, ints .u32 r754)], []⟩) (fun (ml1 : Nat) (i791 : Int) (i792 : Int) => check_On.l1 k a1 r754 ml1 i791 i792 = some r1) k (Go.bits .xor .u32 a0 4294967295) 0 [0] [] h ⟨rfl, ⟨rfl, rfl, rfl, rfl, rfl, rfl, trivial⟩, trivial, rfl, by decide, rfl, by decide⟩ (by intros; simp [check_On.l1]) ?_
      clear h
      intro ml1 ihl1 i791 i792 h
      simp only [check_On.l1] at h
      refine VC.seq ?_
      refine VC.region ?_
      refine VL.letter (decide (i792 < (a1.size : Int))) fun b801 hb801 => ?_
      refine VL.va (op_cmp rfl rfl (congrArg some hb801) (ltn rfl)) rfl ?_
      refine VL.done ?_
      refine VN.then ?_
      refine VC.seq ?_
      by_cases c803 : i792 < (a1.size : Int)
      · rw [if_pos c803] at h
        obtain rfl : b801 = true := hb801.symm.trans (decide_eq_true c803)
        refine VC.cond_t rfl ?_
        refine VC.skip ?_
        refine VN.then ?_
        refine VC.seq ?_
        refine VC.block ?_
        refine VC.seq ?_
        refine VC.region ?_
        refine VL.va (op_move rfl (ltn rfl)) rfl ?_
        refine VL.va (op_assign rfl (ltn rfl)) rfl ?_
        refine VL.done ?_
        refine VN.then ?_
        refine VC.region ?_
        refine VL.va (op_move rfl (ltn rfl)) rfl ?_
        refine VL.va (op_shr rfl rfl (by decide) rfl (ltn rfl)) rfl ?_
        refine VL.va (op_move rfl (ltn rfl)) rfl ?_
        refine VL.va (op_conv Try.underlying23 Try.underlying5 rfl rfl (ltn rfl)) rfl ?_
        refine VL.va (op_move rfl (ltn rfl)) rfl ?_
        refine VL.va (op_move rfl (ltn rfl)) rfl ?_
        by_cases c804 : 0 ≤ i792
        · rw [if_pos c804] at h
          by_cases c805 : i792 < (a1.size : Int)
          · rw [if_pos c805] at h
            refine VL.va (op_indexS Try.underlying9 rfl rfl c804 c805 rfl (ltn rfl)) rfl ?_
            refine VL.va (op_bits rfl rfl rfl (ltn rfl)) rfl ?_
            by_cases c806 : 0 ≤ Go.bits .xor .u8 (IntKind.u8.wrap i791) (bt a1 i792)
            · rw [if_pos c806] at h
              by_cases c807 : (Go.bits .xor .u8 (IntKind.u8.wrap i791) (bt a1 i792)) < 256
              · rw [if_pos c807] at h
                refine VL.va (op_indexAddrA Try.underlying56 TI23 rfl rfl c806 c807 (ltn rfl)) rfl ?_
                replace h := Option.bind_eq_some_iff.1 h
                obtain ⟨t808, ht808, h⟩ := h
                refine VL.va (op_loadE 0 rfl rfl TI23 ht808 (ltn rfl)) rfl ?_
                refine VL.va (op_bits rfl rfl rfl (ltn rfl)) rfl ?_
                refine VL.va (op_assign rfl (ltn rfl)) rfl ?_
                refine VL.done ?_
                refine VN.block ?_
                refine VN.then ?_
                refine VC.region ?_
                refine VL.va (op_ari64 rfl rfl rfl (ltn rfl)) rfl ?_
                refine VL.va (op_move rfl (ltn rfl)) rfl ?_
                refine VL.done ?_
                refine VN.again [0] [] (ihl1 (Go.bits .xor .u32 (i791.fdiv (2 ^ min (8 : Int).toNat IntKind.u32.bits)) t808) (wrap64 (i792 + 1)) h) ⟨rfl, ⟨rfl, rfl, rfl, rfl, rfl, rfl, trivial⟩, trivial, rfl, by decide, rfl, by decide⟩
              · rw [if_neg c807] at h; cases h
            · rw [if_neg c806] at h; cases h
          · rw [if_neg c805] at h; cases h
        · rw [if_neg c804] at h; cases h
      · rw [if_neg c803] at h
        obtain rfl : b801 = false := hb801.symm.trans (decide_eq_false c803)
        refine VC.cond_f rfl ?_
        refine VC.exit ?_
        refine VX.then ?_
        refine VX.then ?_
        refine VX.hit ?_
        refine VN.then ?_
        refine VC.seq ?_
        refine VC.region ?_
        refine VL.va (op_move rfl (ltn rfl)) rfl ?_
        refine VL.va (op_bits rfl rfl rfl (ltn rfl)) rfl ?_
        refine VL.va (op_assign rfl (ltn rfl)) rfl ?_
        refine VL.done ?_
        refine VN.then ?_
        refine VC.ret ?_
        obtain rfl := Option.some.inj h
        exact VR.fn (rs := [.tmp 4]) [] [] [] rfl (.tmp rfl .nil) ⟨rfl, rfl, rfl⟩ trivial rfl (by decide)
    · rw [if_neg c758] at h; cases h
  · rw [if_neg c757] at h; cases h
set_option maxHeartbeats 4000000 in
set_option maxRecDepth 100000 in
theorem check_Of.ok (k : Nat) (a0 : ByteArray)  (r1 : Int) (h : check_Of.f k a0 = some r1) :
    VCalls Try.prog 18 [.string a0] [] (fun v G own => v = .int .u32 r1 ∧ G = [] ∧ own = []) := by
  refine VCalls.intro Try.func18 rfl (len rfl) fun E hC hW hD => ?_
  unfold check_Of.f at h
  refine VC.seq ?_
  refine VC.region ?_
  refine VL.va (op_assign rfl (ltn rfl)) rfl ?_
  refine VL.done ?_
  refine VN.then ?_
  refine VC.seq ?_
  refine VC.region ?_
  refine VL.va (op_move rfl (ltn rfl)) rfl ?_
  replace h := Option.bind_eq_some_iff.1 h
  obtain ⟨t809, hA810, h⟩ := h
  refine VL.sC (o_call0 FO26 (check_On.ok k 0 a0 t809 hA810) rfl rfl (ltn rfl) (All_of .nil)) rfl ?_
  rintro _ _ _ ⟨rfl, rfl, rfl⟩
  refine VL.va (op_assign rfl (ltn rfl)) rfl ?_
  refine VL.done ?_
  refine VN.then ?_
  refine VC.ret ?_
  obtain rfl := Option.some.inj h
  exact VR.fn (rs := [.tmp 2]) [] [] [] rfl (.tmp rfl .nil) ⟨rfl, rfl, rfl⟩ trivial rfl (by decide)
set_option maxHeartbeats 4000000 in
set_option maxRecDepth 100000 in
theorem check_Bytes.ok (k : Nat) (a0 : Int)  (r1 : ByteArray) (h : check_Bytes.f k a0 = some r1) :
    VCalls Try.prog 17 [.int .u32 a0] [] (fun v G own => v = .string r1 ∧ G = [] ∧ own = []) := by
  refine VCalls.intro Try.func17 rfl (len rfl) fun E hC hW hD => ?_
  unfold check_Bytes.f at h
  refine VC.seq ?_
  refine VC.region ?_
  refine VL.va (op_assign rfl (ltn rfl)) rfl ?_
  refine VL.done ?_
  refine VN.then ?_
  refine VC.seq ?_
  refine VC.region ?_
  refine VL.sG (o_alloc Z52 ZL52 (ltn rfl)) rfl ?_
  intro g813
  refine VL.done ?_
  refine VN.then ?_
  refine VC.seq ?_
  refine VC.seq ?_
  refine VC.region ?_
  refine VL.va (op_move rfl (ltn rfl)) rfl ?_
  refine VL.done ?_
  refine VN.then ?_
  refine VC.block ?_
  refine VC.loop2 (fun (i836 : Int) (l837 : List Int) => ⟨18, [(0, .int .u32 a0), (2, .string (⟨#[]⟩ : ByteArray)), (3, .pointer (some ⟨g813, 0, none⟩)), (5, .int .i64 i836)], [], [(g813, 52, ints .u8 l837)], []⟩) (fun (ml1 : Nat) (i836 : Int) (l837 : List Int) => check_Bytes.l1 k a0 ml1 i836 l837 = some r1) k 0 (List.replicate 4 (0 : Int)) [0] [] h ⟨rfl, ⟨rfl, rfl, rfl, rfl, trivial⟩, trivial, rfl, by decide, rfl, by decide⟩ (by intros; simp [check_Bytes.l1]) ?_
  clear h
  intro ml1 ihl1 i836 l837 h
  simp only [check_Bytes.l1] at h
  refine VC.seq ?_
  refine VC.region ?_
  refine VL.letter (decide (i836 < 4)) fun b845 hb845 => ?_
  refine VL.va (op_cmp rfl rfl (congrArg some hb845) (ltn rfl)) rfl ?_
  refine VL.done ?_
  refine VN.then ?_
  refine VC.seq ?_
  by_cases c850 : i836 < 4
  · rw [if_pos c850] at h
    obtain rfl : b845 = true := hb845.symm.trans (decide_eq_true c850)
    refine VC.cond_t rfl ?_
    refine VC.skip ?_
    refine VN.then ?_
    refine VC.seq ?_
    refine VC.block ?_
    refine VC.seq ?_
    refine VC.region ?_
    refine VL.va (op_move rfl (ltn rfl)) rfl ?_
    refine VL.va (op_assign rfl (ltn rfl)) rfl ?_
    refine VL.done ?_
    refine VN.then ?_
    refine VC.region ?_
    refine VL.va (op_move rfl (ltn rfl)) rfl ?_
    refine VL.va (op_move rfl (ltn rfl)) rfl ?_
    refine VL.va (op_move rfl (ltn rfl)) rfl ?_
    refine VL.va (op_ari64 rfl rfl rfl (ltn rfl)) rfl ?_
    by_cases c851 : 0 ≤ wrap64 (8 * i836)
    · rw [if_pos c851] at h
      refine VL.va (op_shr rfl rfl c851 rfl (ltn rfl)) rfl ?_
      refine VL.va (op_conv Try.underlying23 Try.underlying5 rfl rfl (ltn rfl)) rfl ?_
      by_cases c852 : 0 ≤ i836
      · rw [if_pos c852] at h
        by_cases c853 : i836 < 4
        · rw [if_pos c853] at h
          refine VL.va (op_indexAddrA Try.underlying52 TI5 rfl rfl c852 c853 (ltn rfl)) rfl ?_
          by_cases c854 : i836.toNat < l837.length
          · rw [if_pos c854] at h
            refine VL.step1 (o_storeE 0 rfl rfl rfl TI5 c854) rfl ?_
            refine VL.done ?_
            refine VN.block ?_
            refine VN.then ?_
            refine VC.region ?_
            refine VL.va (op_ari64 rfl rfl rfl (ltn rfl)) rfl ?_
            refine VL.va (op_move rfl (ltn rfl)) rfl ?_
            refine VL.done ?_
            refine VN.again [0] [] (ihl1 (wrap64 (i836 + 1)) (l837.set i836.toNat (IntKind.u8.wrap (a0.fdiv (2 ^ min (wrap64 (8 * i836)).toNat IntKind.u32.bits)))) h) ⟨rfl, ⟨rfl, rfl, rfl, rfl, trivial⟩, trivial, rfl, by decide, rfl, by decide⟩
          · rw [if_neg c854] at h; cases h
        · rw [if_neg c853] at h; cases h
      · rw [if_neg c852] at h; cases h
    · rw [if_neg c851] at h; cases h
  · rw [if_neg c850] at h
    obtain rfl : b845 = false := hb845.symm.trans (decide_eq_false c850)
    refine VC.cond_f rfl ?_
    refine VC.exit ?_
    refine VX.then ?_
    refine VX.then ?_
    refine VX.hit ?_
    refine VN.then ?_
    refine VC.seq ?_
    refine VC.region ?_
    refine VL.freeze' 0 rfl ?_
    by_cases c855 : l837.length = 4
    · rw [if_pos c855] at h
      refine VL.sG (o_sliceA (es := List.map enc_intu8 l837) 0 Try.underlying52 TI5 rfl rfl c855 rfl (by decide) (ltn rfl)) rfl ?_
      intro v857
      refine VL.va (op_bytesStr (xs := l837) 0 rfl rfl Try.underlying29 Try.underlying9 Try.underlying5 rfl rfl (ltn rfl)) rfl ?_
      refine VL.va (op_assign rfl (ltn rfl)) rfl ?_
      refine VL.done ?_
      refine VN.then ?_
      refine VC.ret ?_
      obtain rfl := Option.some.inj h
      exact VR.fn (rs := [.tmp 2]) [] [] [] rfl (.tmp rfl .nil) ⟨rfl, rfl, rfl⟩ trivial rfl (by decide)
    · rw [if_neg c855] at h; cases h
set_option maxHeartbeats 4000000 in
set_option maxRecDepth 100000 in
theorem frame_Frame.ok (k : Nat) (a0 : ByteArray)  (r1 : ByteArray) (r2 : Int) (h : frame_Frame.f k a0 = some (r1, r2)) :
    VCalls Try.prog 8 [.string a0] [] (fun v G own => v = .tuple #[.string r1, .int .i64 r2] ∧ G = [] ∧ own = []) := by
  refine VCalls.intro Try.func8 rfl (len rfl) fun E hC hW hD => ?_
  unfold frame_Frame.f at h
  refine VC.seq ?_
  refine VC.region ?_
  refine VL.va (op_assign rfl (ltn rfl)) rfl ?_
  refine VL.va (op_assign rfl (ltn rfl)) rfl ?_
  refine VL.done ?_
  refine VN.then ?_
  refine VC.seq ?_
  refine VC.seq ?_
  refine VC.region ?_
  refine VL.va (op_move rfl (ltn rfl)) rfl ?_
  refine VL.va (op_lens Try.underlying9 rfl (ltn rfl)) rfl ?_
  refine VL.letter (decide ((a0.size : Int) > 4096)) fun b7 hb7 => ?_
  refine VL.va (op_cmp rfl rfl (congrArg some hb7) (ltn rfl)) rfl ?_
  refine VL.done ?_
  refine VN.then ?_
  by_cases c8 : (a0.size : Int) > 4096
  · rw [if_pos c8] at h
    obtain rfl : b7 = true := hb7.symm.trans (decide_eq_true c8)
    refine VC.cond_t rfl ?_
    refine VC.seq ?_
    refine VC.region ?_
    refine VL.va (op_assign rfl (ltn rfl)) rfl ?_
    refine VL.va (op_assign rfl (ltn rfl)) rfl ?_
    refine VL.done ?_
    refine VN.then ?_
    refine VC.ret ?_
    refine VR.then ?_
    simp only [Option.some.injEq, Prod.mk.injEq] at h
    obtain ⟨rfl, rfl⟩ := h
    exact VR.fn (rs := [.tmp 2, .tmp 3]) [] [] [] rfl (.tmp rfl (.tmp rfl .nil)) ⟨rfl, rfl, rfl⟩ trivial rfl (by decide)
  · rw [if_neg c8] at h
    obtain rfl : b7 = false := hb7.symm.trans (decide_eq_false c8)
    refine VC.cond_f rfl ?_
    refine VC.skip ?_
    refine VN.then ?_
    refine VC.seq ?_
    refine VC.region ?_
    refine VL.va (op_move rfl (ltn rfl)) rfl ?_
    refine VL.va (op_lens Try.underlying9 rfl (ltn rfl)) rfl ?_
    replace h := Option.bind_eq_some_iff.1 h
    obtain ⟨⟨t184, t185⟩, hA186, h⟩ := h
    dsimp only at h
    refine VL.sC (o_call0 FO16 (pack_Number.ok k (a0.size : Int) t184 t185 hA186) rfl rfl (ltn rfl) (All_of .nil)) rfl ?_
    rintro _ _ _ ⟨rfl, rfl, rfl⟩
    refine VL.va (op_move rfl (ltn rfl)) rfl ?_
    refine VL.va (op_extract rfl rfl (ltn rfl)) rfl ?_
    refine VL.va (op_extract rfl rfl (ltn rfl)) rfl ?_
    refine VL.va (op_assign rfl (ltn rfl)) rfl ?_
    refine VL.va (op_assign rfl (ltn rfl)) rfl ?_
    refine VL.done ?_
    refine VN.then ?_
    refine VC.seq ?_
    refine VC.region ?_
    refine VL.va (op_move rfl (ltn rfl)) rfl ?_
    refine VL.va (op_move rfl (ltn rfl)) rfl ?_
    by_cases c187 : t184.size + a0.size ≤ 9223372036854775807
    · rw [if_pos c187] at h
      refine VL.va (op_adds rfl rfl rfl c187 (ltn rfl)) rfl ?_
      refine VL.va (op_move rfl (ltn rfl)) rfl ?_
      replace h := Option.bind_eq_some_iff.1 h
      obtain ⟨t811, hA812, h⟩ := h
      refine VL.sC (o_call0 FO18 (check_Of.ok k a0 t811 hA812) rfl rfl (ltn rfl) (All_of .nil)) rfl ?_
      rintro _ _ _ ⟨rfl, rfl, rfl⟩
      replace h := Option.bind_eq_some_iff.1 h
      obtain ⟨t858, hA859, h⟩ := h
      refine VL.sC (o_call0 FO17 (check_Bytes.ok k t811 t858 hA859) rfl rfl (ltn rfl) (All_of .nil)) rfl ?_
      rintro _ _ _ ⟨rfl, rfl, rfl⟩
      by_cases c860 : (t184 ++ a0).size + t858.size ≤ 9223372036854775807
      · rw [if_pos c860] at h
        refine VL.va (op_adds rfl rfl rfl c860 (ltn rfl)) rfl ?_
        refine VL.va (op_assign rfl (ltn rfl)) rfl ?_
        refine VL.va (op_assign rfl (ltn rfl)) rfl ?_
        refine VL.done ?_
        refine VN.then ?_
        refine VC.ret ?_
        simp only [Option.some.injEq, Prod.mk.injEq] at h
        obtain ⟨rfl, rfl⟩ := h
        exact VR.fn (rs := [.tmp 2, .tmp 3]) [] [] [] rfl (.tmp rfl (.tmp rfl .nil)) ⟨rfl, rfl, rfl⟩ trivial rfl (by decide)
      · rw [if_neg c860] at h; cases h
    · rw [if_neg c187] at h; cases h

end Go.Proofs.Ytaolaicmfjdmhaa.PFrameScans
