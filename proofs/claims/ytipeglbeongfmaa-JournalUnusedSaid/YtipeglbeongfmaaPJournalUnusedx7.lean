/- Written by a program of this repo: what the program's functions do, each as a Lean function, shown of the loaded code; or a statement's row over that; no condition of its own. -/
import Derived.Test.YtipeglbeongfmaaPJournalUnusedx6
namespace Go.Proofs.Ytipeglbeongfmaa.PJournalUnused
open Go Go.RowKit Go.Proofs.YtipeglbeongfmaaV
set_option linter.unusedVariables false
set_option linter.unusedSimpArgs false

set_option maxHeartbeats 4000000 in
set_option maxRecDepth 100000 in
theorem pack_Number.ok (k : Nat) (a0 : Int)  (r1 : ByteArray) (r2 : Int) (h : pack_Number.f k a0 = some (r1, r2)) :
    VCalls Try.prog 94 [.int .i64 a0] [] (fun v G own => v = .tuple #[.string r1, .int .i64 r2] ∧ G = [] ∧ own = []) := by
  refine VCalls.intro Try.func94 rfl (len rfl) fun E hC hW hD hU => ?_
  unfold pack_Number.f at h
  refine VC.seq ?_
  refine VC.region ?_
  refine VL.va (op_assign rfl (ltn rfl)) rfl ?_
  refine VL.va (op_assign rfl (ltn rfl)) rfl ?_
  refine VL.done ?_
  refine VN.then ?_
  refine VC.seq ?_
  refine VC.seq ?_
  refine VC.region ?_
  refine VL.va (op_move rfl (ltn rfl)) rfl ?_
  replace h := Option.bind_eq_some_iff.1 h
  obtain ⟨t6811, hA6812, h⟩ := h
  refine VL.sC (o_call0 FO99 (pack_may.ok a0 t6811 hA6812) rfl rfl (ltn rfl) (All_of .nil)) rfl ?_
  rintro _ _ _ ⟨rfl, rfl, rfl⟩
  by_cases c6813 : t6811 = true
  · rw [if_pos c6813] at h
    obtain rfl := c6813
    refine VL.va (op_not rfl rfl (ltn rfl)) rfl ?_
    refine VL.done ?_
    refine VN.then ?_
    refine VC.cond_f rfl ?_
    refine VC.skip ?_
    refine VN.then ?_
    refine VC.seq ?_
    refine VC.region ?_
    refine VL.va (op_move rfl (ltn rfl)) rfl ?_
    refine VL.va (op_ari64 rfl rfl rfl (ltn rfl)) rfl ?_
    refine VL.va (op_assign rfl (ltn rfl)) rfl ?_
    refine VL.done ?_
    refine VN.then ?_
    refine VC.seq ?_
    refine VC.seq ?_
    refine VC.region ?_
    refine VL.va (op_move rfl (ltn rfl)) rfl ?_
    refine VL.letter (decide (a0 < 0)) fun b6816 hb6816 => ?_
    refine VL.va (op_cmp rfl rfl (congrArg some hb6816) (ltn rfl)) rfl ?_
    refine VL.done ?_
    refine VN.then ?_
    by_cases c6817 : a0 < 0
    · rw [if_pos c6817] at h
      obtain rfl : b6816 = true := hb6816.symm.trans (decide_eq_true c6817)
      refine VC.cond_t rfl ?_
      refine VC.region ?_
      refine VL.va (op_move rfl (ltn rfl)) rfl ?_
      refine VL.va (op_ari64 rfl rfl rfl (ltn rfl)) rfl ?_
      refine VL.va (op_ari64 rfl rfl rfl (ltn rfl)) rfl ?_
      refine VL.va (op_assign rfl (ltn rfl)) rfl ?_
      refine VL.done ?_
      refine VN.then ?_
      refine VC.seq ?_
      refine VC.region ?_
      refine VL.va (op_assign rfl (ltn rfl)) rfl ?_
      refine VL.done ?_
      refine VN.then ?_
      refine VC.seq ?_
      refine VC.block ?_
      refine VC.nilRow' 5 1 ?_
      refine VC.loop3 (fun (i6861 : Int) (v6863 : Value) (l6864 : List Int) => ⟨33, [(2, .string (⟨#[]⟩ : ByteArray)), (3, .int .i64 0), (4, .int .i64 i6861), (5, v6863)], [], [], [(v6863, 5, 1, l6864.map enc_intu8)]⟩) (fun (ml1 : Nat) (i6861 : Int) (v6863 : Value) (l6864 : List Int) => pack_Number.l1 k ml1 i6861 l6864 = some (r1, r2)) k (wrap64 ((wrap64 ((-2) * a0)) - 1)) (.slice none 0 0) ([] : List Int) [] [0] h ⟨rfl, ⟨rfl, rfl, rfl, rfl, trivial⟩, trivial, rfl, by decide, rfl, by decide⟩ (by intros; simp [pack_Number.l1]) ?_
      clear h
      intro ml1 ihl1 i6861 v6863 l6864 h
      simp only [pack_Number.l1] at h
      refine VC.seq ?_
      refine VC.seq ?_
      refine VC.region ?_
      refine VL.va (op_move rfl (ltn rfl)) rfl ?_
      refine VL.letter (decide (i6861 ≥ 128)) fun b6882 hb6882 => ?_
      refine VL.va (op_cmp rfl rfl (congrArg some hb6882) (ltn rfl)) rfl ?_
      refine VL.done ?_
      refine VN.then ?_
      by_cases c6883 : i6861 ≥ 128
      · rw [if_pos c6883] at h
        obtain rfl : b6882 = true := hb6882.symm.trans (decide_eq_true c6883)
        refine VC.cond_t rfl ?_
        refine VC.skip ?_
        refine VN.then ?_
        refine VC.seq ?_
        refine VC.block ?_
        refine VC.region ?_
        refine VL.va (op_move rfl (ltn rfl)) rfl ?_
        refine VL.va (op_move rfl (ltn rfl)) rfl ?_
        refine VL.va (op_rem rfl rfl (by decide) rfl (ltn rfl)) rfl ?_
        refine VL.va (op_ari64 rfl rfl rfl (ltn rfl)) rfl ?_
        refine VL.va (op_conv Try.underlying3 Try.underlying5 rfl rfl (ltn rfl)) rfl ?_
        refine VL.sG (o_buildSlice (vals := [(0, .int .u8 (IntKind.u8.wrap (wrap64 ((i6861.tmod 128) + 128))))]) (cells := #[.int .u8 (IntKind.u8.wrap (wrap64 ((i6861.tmod 128) + 128)))]) (es := List.map enc_intu8 ([IntKind.u8.wrap (wrap64 ((i6861.tmod 128) + 128))] : List Int)) Try.underlying41 TI5 Z5 rfl (by decide) (by decide) (by kernel_rfl) (by kernel_rfl) rfl (flat_map enc_intu8_ok _) (ltn rfl)) rfl ?_
        intro v6885
        by_cases c6886 : (l6864.length + ([IntKind.u8.wrap (wrap64 ((i6861.tmod 128) + 128))] : List Int).length) * 1 ≤ 140737488355328
        · rw [if_pos c6886] at h
          refine VL.sG (o_append 1 appm Try.underlying41 EI5 rfl rfl rfl (.inr ⟨0, _, rfl⟩) (bndm c6886) (ltn rfl)) rfl ?_
          intro v6887
          refine VL.va (op_assign rfl (ltn rfl)) rfl ?_
          refine VL.done ?_
          refine VN.block ?_
          refine VN.then ?_
          refine VC.region ?_
          refine VL.va (op_move rfl (ltn rfl)) rfl ?_
          refine VL.va (op_quo rfl rfl (by decide) rfl (ltn rfl)) rfl ?_
          refine VL.va (op_assign rfl (ltn rfl)) rfl ?_
          refine VL.done ?_
          refine VN.again [] [1] (ihl1 (IntKind.i64.wrap (i6861.tdiv 128)) v6887 (l6864 ++ ([IntKind.u8.wrap (wrap64 ((i6861.tmod 128) + 128))] : List Int)) h) ⟨rfl, ⟨rfl, rfl, rfl, rfl, trivial⟩, trivial, rfl, by decide, rfl, by decide⟩
        · rw [if_neg c6886] at h; cases h
      · rw [if_neg c6883] at h
        obtain rfl : b6882 = false := hb6882.symm.trans (decide_eq_false c6883)
        refine VC.cond_f rfl ?_
        refine VC.exit ?_
        refine VX.then ?_
        refine VX.then ?_
        refine VX.hit ?_
        refine VN.then ?_
        refine VC.seq ?_
        refine VC.region ?_
        refine VL.va (op_move rfl (ltn rfl)) rfl ?_
        refine VL.va (op_move rfl (ltn rfl)) rfl ?_
        refine VL.va (op_conv Try.underlying3 Try.underlying5 rfl rfl (ltn rfl)) rfl ?_
        refine VL.sG (o_buildSlice (vals := [(0, .int .u8 (IntKind.u8.wrap i6861))]) (cells := #[.int .u8 (IntKind.u8.wrap i6861)]) (es := List.map enc_intu8 ([IntKind.u8.wrap i6861] : List Int)) Try.underlying41 TI5 Z5 rfl (by decide) (by decide) (by kernel_rfl) (by kernel_rfl) rfl (flat_map enc_intu8_ok _) (ltn rfl)) rfl ?_
        intro v6890
        by_cases c6891 : (l6864.length + ([IntKind.u8.wrap i6861] : List Int).length) * 1 ≤ 140737488355328
        · rw [if_pos c6891] at h
          refine VL.sG (o_append 1 appm Try.underlying41 EI5 rfl rfl rfl (.inr ⟨0, _, rfl⟩) (bndm c6891) (ltn rfl)) rfl ?_
          intro v6892
          refine VL.va (op_bytesStr_own (xs := (l6864 ++ ([IntKind.u8.wrap i6861] : List Int))) 1 rfl rfl Try.underlying41 Try.underlying9 Try.underlying5 rfl rfl (ltn rfl)) rfl ?_
          refine VL.va (op_assign rfl (ltn rfl)) rfl ?_
          refine VL.va (op_assign rfl (ltn rfl)) rfl ?_
          refine VL.done ?_
          refine VN.then ?_
          refine VC.ret ?_
          simp only [Option.some.injEq, Prod.mk.injEq] at h
          obtain ⟨rfl, rfl⟩ := h
          exact VR.fn (rs := [.tmp 2, .tmp 3]) [] [] [] rfl (.tmp rfl (.tmp rfl .nil)) ⟨rfl, rfl, rfl⟩ trivial rfl (by decide)
        · rw [if_neg c6891] at h; cases h
    · rw [if_neg c6817] at h
      obtain rfl : b6816 = false := hb6816.symm.trans (decide_eq_false c6817)
      refine VC.cond_f rfl ?_
      refine VC.skip ?_
      refine VN.then ?_
      refine VC.seq ?_
      refine VC.region ?_
      refine VL.va (op_assign rfl (ltn rfl)) rfl ?_
      refine VL.done ?_
      refine VN.then ?_
      refine VC.seq ?_
      refine VC.block ?_
      refine VC.nilRow' 5 1 ?_
      refine VC.loop3 (fun (i6937 : Int) (v6939 : Value) (l6940 : List Int) => ⟨33, [(2, .string (⟨#[]⟩ : ByteArray)), (3, .int .i64 0), (4, .int .i64 i6937), (5, v6939)], [], [], [(v6939, 5, 1, l6940.map enc_intu8)]⟩) (fun (ml3 : Nat) (i6937 : Int) (v6939 : Value) (l6940 : List Int) => pack_Number.l3 k ml3 i6937 l6940 = some (r1, r2)) k (wrap64 (2 * a0)) (.slice none 0 0) ([] : List Int) [] [0] h ⟨rfl, ⟨rfl, rfl, rfl, rfl, trivial⟩, trivial, rfl, by decide, rfl, by decide⟩ (by intros; simp [pack_Number.l3]) ?_
      clear h
      intro ml3 ihl3 i6937 v6939 l6940 h
      simp only [pack_Number.l3] at h
      refine VC.seq ?_
      refine VC.seq ?_
      refine VC.region ?_
      refine VL.va (op_move rfl (ltn rfl)) rfl ?_
      refine VL.letter (decide (i6937 ≥ 128)) fun b6958 hb6958 => ?_
      refine VL.va (op_cmp rfl rfl (congrArg some hb6958) (ltn rfl)) rfl ?_
      refine VL.done ?_
      refine VN.then ?_
      by_cases c6959 : i6937 ≥ 128
      · rw [if_pos c6959] at h
        obtain rfl : b6958 = true := hb6958.symm.trans (decide_eq_true c6959)
        refine VC.cond_t rfl ?_
        refine VC.skip ?_
        refine VN.then ?_
        refine VC.seq ?_
        refine VC.block ?_
        refine VC.region ?_
        refine VL.va (op_move rfl (ltn rfl)) rfl ?_
        refine VL.va (op_move rfl (ltn rfl)) rfl ?_
        refine VL.va (op_rem rfl rfl (by decide) rfl (ltn rfl)) rfl ?_
        refine VL.va (op_ari64 rfl rfl rfl (ltn rfl)) rfl ?_
        refine VL.va (op_conv Try.underlying3 Try.underlying5 rfl rfl (ltn rfl)) rfl ?_
        refine VL.sG (o_buildSlice (vals := [(0, .int .u8 (IntKind.u8.wrap (wrap64 ((i6937.tmod 128) + 128))))]) (cells := #[.int .u8 (IntKind.u8.wrap (wrap64 ((i6937.tmod 128) + 128)))]) (es := List.map enc_intu8 ([IntKind.u8.wrap (wrap64 ((i6937.tmod 128) + 128))] : List Int)) Try.underlying41 TI5 Z5 rfl (by decide) (by decide) (by kernel_rfl) (by kernel_rfl) rfl (flat_map enc_intu8_ok _) (ltn rfl)) rfl ?_
        intro v6961
        by_cases c6962 : (l6940.length + ([IntKind.u8.wrap (wrap64 ((i6937.tmod 128) + 128))] : List Int).length) * 1 ≤ 140737488355328
        · rw [if_pos c6962] at h
          refine VL.sG (o_append 1 appm Try.underlying41 EI5 rfl rfl rfl (.inr ⟨0, _, rfl⟩) (bndm c6962) (ltn rfl)) rfl ?_
          intro v6963
          refine VL.va (op_assign rfl (ltn rfl)) rfl ?_
          refine VL.done ?_
          refine VN.block ?_
          refine VN.then ?_
          refine VC.region ?_
          refine VL.va (op_move rfl (ltn rfl)) rfl ?_
          refine VL.va (op_quo rfl rfl (by decide) rfl (ltn rfl)) rfl ?_
          refine VL.va (op_assign rfl (ltn rfl)) rfl ?_
          refine VL.done ?_
          refine VN.again [] [1] (ihl3 (IntKind.i64.wrap (i6937.tdiv 128)) v6963 (l6940 ++ ([IntKind.u8.wrap (wrap64 ((i6937.tmod 128) + 128))] : List Int)) h) ⟨rfl, ⟨rfl, rfl, rfl, rfl, trivial⟩, trivial, rfl, by decide, rfl, by decide⟩
        · rw [if_neg c6962] at h; cases h
      · rw [if_neg c6959] at h
        obtain rfl : b6958 = false := hb6958.symm.trans (decide_eq_false c6959)
        refine VC.cond_f rfl ?_
        refine VC.exit ?_
        refine VX.then ?_
        refine VX.then ?_
        refine VX.hit ?_
        refine VN.then ?_
        refine VC.seq ?_
        refine VC.region ?_
        refine VL.va (op_move rfl (ltn rfl)) rfl ?_
        refine VL.va (op_move rfl (ltn rfl)) rfl ?_
        refine VL.va (op_conv Try.underlying3 Try.underlying5 rfl rfl (ltn rfl)) rfl ?_
        refine VL.sG (o_buildSlice (vals := [(0, .int .u8 (IntKind.u8.wrap i6937))]) (cells := #[.int .u8 (IntKind.u8.wrap i6937)]) (es := List.map enc_intu8 ([IntKind.u8.wrap i6937] : List Int)) Try.underlying41 TI5 Z5 rfl (by decide) (by decide) (by kernel_rfl) (by kernel_rfl) rfl (flat_map enc_intu8_ok _) (ltn rfl)) rfl ?_
        intro v6966
        by_cases c6967 : (l6940.length + ([IntKind.u8.wrap i6937] : List Int).length) * 1 ≤ 140737488355328
        · rw [if_pos c6967] at h
          refine VL.sG (o_append 1 appm Try.underlying41 EI5 rfl rfl rfl (.inr ⟨0, _, rfl⟩) (bndm c6967) (ltn rfl)) rfl ?_
          intro v6968
          refine VL.va (op_bytesStr_own (xs := (l6940 ++ ([IntKind.u8.wrap i6937] : List Int))) 1 rfl rfl Try.underlying41 Try.underlying9 Try.underlying5 rfl rfl (ltn rfl)) rfl ?_
          refine VL.va (op_assign rfl (ltn rfl)) rfl ?_
          refine VL.va (op_assign rfl (ltn rfl)) rfl ?_
          refine VL.done ?_
          refine VN.then ?_
          refine VC.ret ?_
          simp only [Option.some.injEq, Prod.mk.injEq] at h
          obtain ⟨rfl, rfl⟩ := h
          exact VR.fn (rs := [.tmp 2, .tmp 3]) [] [] [] rfl (.tmp rfl (.tmp rfl .nil)) ⟨rfl, rfl, rfl⟩ trivial rfl (by decide)
        · rw [if_neg c6967] at h; cases h
  · rw [if_neg c6813] at h
    obtain rfl := Bool.eq_false_iff.2 c6813
    refine VL.va (op_not rfl rfl (ltn rfl)) rfl ?_
    refine VL.done ?_
    refine VN.then ?_
    refine VC.cond_t rfl ?_
    refine VC.seq ?_
    refine VC.region ?_
    refine VL.va (op_assign rfl (ltn rfl)) rfl ?_
    refine VL.va (op_assign rfl (ltn rfl)) rfl ?_
    refine VL.done ?_
    refine VN.then ?_
    refine VC.ret ?_
    refine VR.then ?_
    simp only [Option.some.injEq, Prod.mk.injEq] at h
    obtain ⟨rfl, rfl⟩ := h
    exact VR.fn (rs := [.tmp 2, .tmp 3]) [] [] [] rfl (.tmp rfl (.tmp rfl .nil)) ⟨rfl, rfl, rfl⟩ trivial rfl (by decide)
set_option maxHeartbeats 4000000 in
set_option maxRecDepth 100000 in
theorem frame_Frame.ok (k : Nat) (a0 : ByteArray)  (r1 : ByteArray) (r2 : Int) (h : frame_Frame.f k a0 = some (r1, r2)) :
    VCalls Try.prog 82 [.string a0] [] (fun v G own => v = .tuple #[.string r1, .int .i64 r2] ∧ G = [] ∧ own = []) := by
  refine VCalls.intro Try.func82 rfl (len rfl) fun E hC hW hD hU => ?_
  unfold frame_Frame.f at h
  refine VC.seq ?_
  refine VC.region ?_
  refine VL.va (op_assign rfl (ltn rfl)) rfl ?_
  refine VL.va (op_assign rfl (ltn rfl)) rfl ?_
  refine VL.done ?_
  refine VN.then ?_
  refine VC.seq ?_
  refine VC.seq ?_
  refine VC.region ?_
  refine VL.va (op_move rfl (ltn rfl)) rfl ?_
  refine VL.va (op_lens Try.underlying9 rfl (ltn rfl)) rfl ?_
  refine VL.letter (decide ((a0.size : Int) > 4096)) fun b6800 hb6800 => ?_
  refine VL.va (op_cmp rfl rfl (congrArg some hb6800) (ltn rfl)) rfl ?_
  refine VL.done ?_
  refine VN.then ?_
  by_cases c6801 : (a0.size : Int) > 4096
  · rw [if_pos c6801] at h
    obtain rfl : b6800 = true := hb6800.symm.trans (decide_eq_true c6801)
    refine VC.cond_t rfl ?_
    refine VC.seq ?_
    refine VC.region ?_
    refine VL.va (op_assign rfl (ltn rfl)) rfl ?_
    refine VL.va (op_assign rfl (ltn rfl)) rfl ?_
    refine VL.done ?_
    refine VN.then ?_
    refine VC.ret ?_
    refine VR.then ?_
    simp only [Option.some.injEq, Prod.mk.injEq] at h
    obtain ⟨rfl, rfl⟩ := h
    exact VR.fn (rs := [.tmp 2, .tmp 3]) [] [] [] rfl (.tmp rfl (.tmp rfl .nil)) ⟨rfl, rfl, rfl⟩ trivial rfl (by decide)
  · rw [if_neg c6801] at h
    obtain rfl : b6800 = false := hb6800.symm.trans (decide_eq_false c6801)
    refine VC.cond_f rfl ?_
    refine VC.skip ?_
    refine VN.then ?_
    refine VC.seq ?_
    refine VC.region ?_
    refine VL.va (op_move rfl (ltn rfl)) rfl ?_
    refine VL.va (op_lens Try.underlying9 rfl (ltn rfl)) rfl ?_
    replace h := Option.bind_eq_some_iff.1 h
    obtain ⟨⟨t6970, t6971⟩, hA6972, h⟩ := h
    dsimp only at h
    refine VL.sC (o_call0 FO94 (pack_Number.ok k (a0.size : Int) t6970 t6971 hA6972) rfl rfl (ltn rfl) (All_of .nil)) rfl ?_
    rintro _ _ _ ⟨rfl, rfl, rfl⟩
    refine VL.va (op_move rfl (ltn rfl)) rfl ?_
    refine VL.va (op_extract rfl rfl (ltn rfl)) rfl ?_
    refine VL.va (op_extract rfl rfl (ltn rfl)) rfl ?_
    refine VL.va (op_assign rfl (ltn rfl)) rfl ?_
    refine VL.va (op_assign rfl (ltn rfl)) rfl ?_
    refine VL.done ?_
    refine VN.then ?_
    refine VC.seq ?_
    refine VC.region ?_
    refine VL.va (op_move rfl (ltn rfl)) rfl ?_
    refine VL.va (op_move rfl (ltn rfl)) rfl ?_
    by_cases c6973 : t6970.size + a0.size ≤ 9223372036854775807
    · rw [if_pos c6973] at h
      refine VL.va (op_adds rfl rfl rfl c6973 (ltn rfl)) rfl ?_
      refine VL.va (op_move rfl (ltn rfl)) rfl ?_
      replace h := Option.bind_eq_some_iff.1 h
      obtain ⟨t6974, hA6975, h⟩ := h
      refine VL.sC (o_call0 FO90 (check_Of.ok k a0 t6974 hA6975) rfl rfl (ltn rfl) (All_of .nil)) rfl ?_
      rintro _ _ _ ⟨rfl, rfl, rfl⟩
      replace h := Option.bind_eq_some_iff.1 h
      obtain ⟨t6976, hA6977, h⟩ := h
      refine VL.sC (o_call0 FO89 (check_Bytes.ok k t6974 t6976 hA6977) rfl rfl (ltn rfl) (All_of .nil)) rfl ?_
      rintro _ _ _ ⟨rfl, rfl, rfl⟩
      by_cases c6978 : (t6970 ++ a0).size + t6976.size ≤ 9223372036854775807
      · rw [if_pos c6978] at h
        refine VL.va (op_adds rfl rfl rfl c6978 (ltn rfl)) rfl ?_
        refine VL.va (op_assign rfl (ltn rfl)) rfl ?_
        refine VL.va (op_assign rfl (ltn rfl)) rfl ?_
        refine VL.done ?_
        refine VN.then ?_
        refine VC.ret ?_
        simp only [Option.some.injEq, Prod.mk.injEq] at h
        obtain ⟨rfl, rfl⟩ := h
        exact VR.fn (rs := [.tmp 2, .tmp 3]) [] [] [] rfl (.tmp rfl (.tmp rfl .nil)) ⟨rfl, rfl, rfl⟩ trivial rfl (by decide)
      · rw [if_neg c6978] at h; cases h
    · rw [if_neg c6973] at h; cases h
def lay_58_ren : Go.Shelf.Ren := ⟨fun | 166 => 58 | 240 => 77 | 276 => 91 | n => n, fun | 70 => 94 | 9 => 9 | 3 => 3 | 75 => 99 | 0 => 0 | 72 => 96 | 37 => 41 | 4 => 4 | 164 => 133 | 80 => 76 | 5 => 5 | n => n, fun | n => n⟩
theorem lay_58 : Go.Proofs.Lays.n166 Try.prog lay_58_ren where
  mixed := by kernel_rfl
  f166 := Try.func58.trans (congrArg some (by kernel_rfl))
  f240 := Try.func77.trans (congrArg some (by kernel_rfl))
  f276 := Try.func91.trans (congrArg some (by kernel_rfl))
  t0 := Try.underlying0
  a0 := Try.isAgg0
  z0 := Try.sizeOf0
  v0 := Try.zeroValue0
  t3 := Try.underlying3
  a3 := Try.isAgg3
  z3 := Try.sizeOf3
  v3 := Try.zeroValue3
  t4 := Try.underlying4
  a4 := Try.isAgg4
  z4 := Try.sizeOf4
  v4 := Try.zeroValue4
  t9 := Try.underlying9
  a9 := Try.isAgg9
  z9 := Try.sizeOf9
  v9 := Try.zeroValue9
  t20 := Try.underlying20
  a20 := Try.isAgg20
  z20 := Try.sizeOf20
  v20 := Try.zeroValue20
  t37 := Try.underlying41
  a37 := Try.isAgg41
  z37 := Try.sizeOf41
  v37 := Try.zeroValue41
  t70 := Try.underlying94
  a70 := Try.isAgg94
  z70 := Try.sizeOf94
  v70 := Try.zeroValue94
  t72 := Try.underlying96
  a72 := Try.isAgg96
  z72 := Try.sizeOf96
  v72 := Try.zeroValue96
  t75 := Try.underlying99
  a75 := Try.isAgg99
  z75 := Try.sizeOf99
  v75 := Try.zeroValue99
  t164 := Try.underlying133
  a164 := Try.isAgg133
  z164 := Try.sizeOf133
  v164 := Try.zeroValue133
theorem lay_58x : Go.Proofs.Builder.Extra Try.prog lay_58_ren where
  sizeBuilder := by kernel_rfl
  liesBuilder := by kernel_rfl
  t5 := Try.underlying5
  a5 := Try.isAgg5
  z5 := Try.sizeOf5
  v5 := Try.zeroValue5
  infoByte := by kernel_rfl
  cellsByte := by kernel_rfl
  sizeByte := by kernel_rfl
  neB5 := by decide

def lay_59_ren : Go.Shelf.Ren := ⟨fun | 169 => 59 | n => n, fun | 70 => 94 | 9 => 9 | 0 => 0 | 72 => 96 | 37 => 41 | 127 => 119 | 3 => 3 | 5 => 5 | n => n, fun | n => n⟩
theorem lay_59 : Go.Proofs.Lays.n169 Try.prog lay_59_ren where
  mixed := by kernel_rfl
  f169 := Try.func59.trans (congrArg some (by kernel_rfl))
  t0 := Try.underlying0
  a0 := Try.isAgg0
  z0 := Try.sizeOf0
  v0 := Try.zeroValue0
  t3 := Try.underlying3
  a3 := Try.isAgg3
  z3 := Try.sizeOf3
  v3 := Try.zeroValue3
  t9 := Try.underlying9
  a9 := Try.isAgg9
  z9 := Try.sizeOf9
  v9 := Try.zeroValue9
  t37 := Try.underlying41
  a37 := Try.isAgg41
  z37 := Try.sizeOf41
  v37 := Try.zeroValue41
  t70 := Try.underlying94
  a70 := Try.isAgg94
  z70 := Try.sizeOf94
  v70 := Try.zeroValue94
  t72 := Try.underlying96
  a72 := Try.isAgg96
  z72 := Try.sizeOf96
  v72 := Try.zeroValue96
  t127 := Try.underlying119
  a127 := Try.isAgg119
  z127 := Try.sizeOf119
  v127 := Try.zeroValue119
theorem lay_59x : Go.Proofs.Builder.Extra Try.prog lay_59_ren where
  sizeBuilder := by kernel_rfl
  liesBuilder := by kernel_rfl
  t5 := Try.underlying5
  a5 := Try.isAgg5
  z5 := Try.sizeOf5
  v5 := Try.zeroValue5
  infoByte := by kernel_rfl
  cellsByte := by kernel_rfl
  sizeByte := by kernel_rfl
  neB5 := by decide

theorem journal_frames.zb : (Try.prog.info? 96).bind (·.zero) = some (.agg #[.pointer none, .slice none 0 0]) := by kernel_rfl
theorem journal_frames.grows : ∀ (m : List ByteArray) (x : ByteArray), x.size ≤ (m.foldl (fun r s => r ++ s) x).size
  | [], x => Nat.le_refl _
  | s :: m, x => by
    have := journal_frames.grows m (x ++ s)
    rw [ByteArray.size_append] at this
    exact Nat.le_trans (Nat.le_add_right _ _) this
theorem journal_frames.ok (k : Nat) (l0 : List ByteArray) (v0 : Value) (r1 : ByteArray) (h : journal_frames.f k l0 = some r1) :
    VCalls Try.prog 68 [v0] [.row v0 1 (l0.map enc_str)] (fun v G own => v = .string r1 ∧ G = [] ∧ own = []) := by
  refine VCalls.introF Try.func68 rfl (len rfl) fun E hE hC hW hD hU => ?_
  unfold journal_frames.f at h
  by_cases ca : ¬ (l0.length ≤ 140737488355328 ∧ l0.all (fun s => (frame_Frame.f k s).isSome) = true ∧ ((l0.map (journal_frames.q k)).foldl (fun r s => r ++ s) (⟨#[]⟩ : ByteArray)).size ≤ 140737488355328)
  · rw [if_neg ca] at h; cases h
  replace ca := Decidable.not_not.1 ca
  rw [if_pos ca] at h
  obtain ⟨hlen, cb, cc⟩ := ca
  have h5 := Option.some.inj h
  clear h
  rw [h5] at cc
  rw [List.all_eq_true] at cb
  refine VC.seq (VC.region ?_)
  refine VL.va (op_assign rfl (ltn rfl)) rfl ?_
  refine VL.done (VN.then ?_)
  refine VC.seq (VC.region ?_)
  refine VL.sG (o_alloc journal_frames.zb rfl (ltn rfl)) rfl ?_
  intro b
  refine VL.done (VN.then ?_)
  refine VC.toBld (e := 5) 0 hU rfl fun hbB _ => ?_
  refine VC.seq ?_
  refine VC.seq (VC.region ?_)
  refine VL.va (op_move rfl (ltn rfl)) rfl ?_
  refine VL.va (op_len (m := l0.length) 1 lenm Try.underlying22 rfl rfl (ltn rfl)) rfl ?_
  refine VL.va (op_move rfl (ltn rfl)) rfl ?_
  refine VL.done (VN.then ?_)
  refine VC.block ?_
  refine VC.loop3 (fun (i : Nat) (g : Nat) (X : ByteArray) => ⟨23, [(3, .pointer (some ⟨b, 0, none⟩)), (8, v0), (9, .int .i64 (l0.length : Int)), (10, .int .i64 i)], [.bld 96 5 b g X, .row v0 1 (l0.map enc_str)], [], []⟩)
    (fun k' i g X => i + k' = l0.length + 1 ∧ i ≤ l0.length ∧ ((l0.drop i).map (journal_frames.q k)).foldl (fun r s => r ++ s) X = r1)
    (l0.length + 1) 0 b ⟨#[]⟩ [] [] ⟨by omega, by omega, h5⟩ ⟨rfl, ⟨rfl, rfl, rfl, rfl, trivial⟩, ⟨⟨0, rfl⟩, ⟨1, rfl⟩, trivial⟩, rfl, by decide, rfl, by decide⟩ (by rintro i g X ⟨h1, h2, _⟩; omega) ?_
  clear h5
  rintro k' ih i g X ⟨hk, hil, h5⟩
  refine VC.seq (VC.region ?_)
  refine VL.letter (decide ((i : Int) < (l0.length : Int))) fun b1 hb1 => ?_
  refine VL.va (op_cmp rfl rfl (congrArg some hb1) (ltn rfl)) rfl ?_
  refine VL.done (VN.then ?_)
  refine VC.seq ?_
  by_cases c1 : i < l0.length
  · obtain rfl : b1 = true := hb1.symm.trans (decide_eq_true (by omega))
    clear hb1
    refine VC.cond_t rfl (VC.skip (VN.then ?_))
    have hx : l0[i]? = some l0[i] := List.getElem?_eq_getElem c1
    have hsm : l0[i] ∈ l0 := List.getElem_mem c1
    have hdr : l0.drop i = l0[i] :: l0.drop (i + 1) := List.drop_eq_getElem_cons c1
    generalize l0[i] = s at hx hsm hdr
    rw [hdr, List.map_cons, List.foldl_cons] at h5
    obtain ⟨⟨nn, ee⟩, hn⟩ := Option.isSome_iff_exists.1 (cb s hsm)
    have hq : journal_frames.q k s = nn := by unfold journal_frames.q; rw [hn]; rfl
    rw [hq] at h5
    have hsz := journal_frames.grows ((l0.drop (i + 1)).map (journal_frames.q k)) (X ++ nn)
    rw [h5, ByteArray.size_append] at hsz
    refine VC.seq (VC.block ?_)
    refine VC.seq (VC.region ?_)
    refine VL.open (m := l0.length) 1 lenm rfl (by omega) ?_
    rintro ad n rfl
    refine VL.va (op_indexAddr Try.underlying22 TI9 rfl rfl (Int.natCast_nonneg i) (by omega) rfl (ltn rfl)) rfl ?_
    refine VL.va (op_load_row (sz := 1) (o := 0) 1 i 1 rfl rfl (get_map hx) TI9 rfl (by decide) (ltn rfl)) rfl ?_
    refine VL.va (op_assign rfl (ltn rfl)) rfl ?_
    refine VL.done (VN.then ?_)
    refine VC.seq (VC.region ?_)
    refine VL.va (op_move rfl (ltn rfl)) rfl ?_
    refine VL.sC (o_call0 FO82 (frame_Frame.ok k s nn ee hn) rfl rfl (ltn rfl) (All_of .nil)) rfl ?_
    rintro _ _ _ ⟨rfl, rfl, rfl⟩
    refine VL.va (op_move rfl (ltn rfl)) rfl ?_
    refine VL.va (op_extract (vs := [.string nn, .int .i64 ee]) rfl rfl (ltn rfl)) rfl ?_
    refine VL.va (op_extract (vs := [.string nn, .int .i64 ee]) rfl rfl (ltn rfl)) rfl ?_
    refine VL.va (op_assign rfl (ltn rfl)) rfl ?_
    refine VL.va (op_assign rfl (ltn rfl)) rfl ?_
    refine VL.done (VN.then ?_)
    refine VC.region ?_
    refine VL.va (op_move rfl (ltn rfl)) rfl ?_
    refine VL.step (o_write [] [.row (.slice (some ad) l0.length n) 1 (l0.map enc_str)] FO58 lay_58 lay_58x rfl rfl rfl hbB (List.mem_cons_self ..) (fun _ h => by cases h) hE hC rfl rfl rfl (by omega) (ltn rfl)) rfl ?_
    rintro _ ⟨g2, -, rfl⟩
    refine VL.done (VN.block (VN.then ?_))
    refine VC.region ?_
    refine VL.va (op_ari64 (q := ((i + 1 : Nat) : Int)) rfl rfl (congrArg some (by show wrap64 ((i : Int) + 1) = _; unfold wrap64; omega)) (ltn rfl)) rfl ?_
    refine VL.va (op_move rfl (ltn rfl)) rfl ?_
    refine VL.done ?_
    exact VN.again [] [] (ih (i + 1) g2 (X ++ nn) ⟨by omega, by omega, h5⟩) ⟨rfl, ⟨rfl, rfl, rfl, rfl, trivial⟩, ⟨⟨0, rfl⟩, ⟨1, rfl⟩, trivial⟩, rfl, by decide, rfl, by decide⟩
  obtain rfl : b1 = false := hb1.symm.trans (decide_eq_false (by omega))
  clear hb1 ih
  obtain rfl : i = l0.length := by omega
  rw [List.drop_length] at h5
  obtain rfl := h5
  refine VC.cond_f rfl ?_
  refine VC.exit (VX.then (VX.then (VX.hit (VN.then ?_))))
  refine VC.seq (VC.region ?_)
  refine VL.step1 (o_bstring FO59 lay_59 lay_59x rfl rfl rfl hbB (List.mem_cons_self ..) rfl rfl (ltn rfl)) rfl ?_
  refine VL.va (op_assign rfl (ltn rfl)) rfl ?_
  refine VL.done (VN.then ?_)
  refine VC.ret ?_
  exact VR.fn (rs := [.tmp 2]) [] [] [] rfl (.tmp rfl .nil) ⟨rfl, rfl, rfl⟩ trivial rfl (by decide)
set_option maxHeartbeats 4000000 in
set_option maxRecDepth 100000 in
theorem journal_waits.ok (k : Nat) (l0_0 : List ByteArray) (l0_1 : List S55) (a0_2 : Int) (a0_3 : Int) (a0_4 : Int) (l0_5 : List ByteArray) (l0_6 : List ByteArray) (l1 : List ByteArray) (v0_0 : Value) (v0_1 : Value) (v0_5 : Value) (v0_6 : Value) (v1 : Value) (r1 : Int) (h : journal_waits.f k l0_0 l0_1 a0_2 a0_3 a0_4 l0_5 l0_6 l1 = some r1) :
    VCalls Try.prog 35 [.agg #[v0_0, v0_1, .int .i64 a0_2, .int .i64 a0_3, .int .i64 a0_4, v0_5, v0_6], v1] [.row v0_0 1 (l0_0.map enc_str), .row v0_1 2 (l0_1.map enc55), .row v0_5 1 (l0_5.map enc_str), .row v0_6 1 (l0_6.map enc_str), .row v1 1 (l1.map enc_str)] (fun v G own => v = .int .i64 r1 ∧ G = [] ∧ own = []) := by
  refine VCalls.intro Try.func35 rfl (len rfl) fun E hC hW hD hU => ?_
  unfold journal_waits.f at h
  refine VC.seq ?_
  refine VC.region ?_
  refine VL.sG (o_box rfl (.agg (.f 0 rfl (.f 1 rfl (.c rfl (.c rfl (.c rfl (.f 2 rfl (.f 3 rfl .nil)))))))) (ltn rfl)) rfl ?_
  intro g6685
  refine VL.va (op_assign rfl (ltn rfl)) rfl ?_
  refine VL.done ?_
  refine VN.then ?_
  refine VC.seq ?_
  refine VC.seq ?_
  refine VC.region ?_
  refine VL.va (op_move rfl (ltn rfl)) rfl ?_
  replace h := Option.bind_eq_some_iff.1 h
  obtain ⟨t6795, hA6796, h⟩ := h
  refine VL.sC (o_call0 FO53 (slices_ContainsFunc_string_string_s25.ok k l1 v1 t6795 hA6796) rfl rfl (ltn rfl) (All_of (.cons (List.mem_of_getElem? (i := 4) rfl) .nil))) rfl ?_
  rintro _ _ _ ⟨rfl, rfl, rfl⟩
  refine VL.done ?_
  refine VN.then ?_
  by_cases c6797 : t6795 = true
  · rw [if_pos c6797] at h
    obtain rfl := c6797
    refine VC.cond_t rfl ?_
    refine VC.seq ?_
    refine VC.region ?_
    refine VL.va (op_assign rfl (ltn rfl)) rfl ?_
    refine VL.done ?_
    refine VN.then ?_
    refine VC.ret ?_
    refine VR.then ?_
    obtain rfl := Option.some.inj h
    exact VR.fn (rs := [.tmp 4]) [] [] [] rfl (.tmp rfl .nil) ⟨rfl, rfl, rfl⟩ trivial rfl (by decide)
  · rw [if_neg c6797] at h
    obtain rfl := Bool.eq_false_iff.2 c6797
    refine VC.cond_f rfl ?_
    refine VC.skip ?_
    refine VN.then ?_
    refine VC.seq ?_
    refine VC.seq ?_
    refine VC.region ?_
    refine VL.va (op_move rfl (ltn rfl)) rfl ?_
    replace h := Option.bind_eq_some_iff.1 h
    obtain ⟨t6989, hA6990, h⟩ := h
    refine VL.sC (o_call0 FO68 (journal_frames.ok k l1 v1 t6989 hA6990) rfl rfl (ltn rfl) (All_of (.cons (List.mem_of_getElem? (i := 4) rfl) .nil))) rfl ?_
    rintro _ _ _ ⟨rfl, rfl, rfl⟩
    refine VL.va (op_lens Try.underlying9 rfl (ltn rfl)) rfl ?_
    refine VL.va (op_assign rfl (ltn rfl)) rfl ?_
    refine VL.done ?_
    refine VN.then ?_
    refine VC.letter (decide ((l1.length : Int) > 16)) fun b6991 hb6991 => ?_
    by_cases c6992 : (l1.length : Int) > 16
    · rw [if_pos c6992] at h
      obtain rfl : b6991 = true := hb6991.symm.trans (decide_eq_true c6992)
      refine VC.join0 (⟨30, [(4, .int .i64 0), (29, .bool true)], [], [], []⟩) (True) ?_ ?_
      · refine VC.draw ⟨0, [], [.row v1 1 (l1.map enc_str)], [], []⟩ (by kernel_rfl) rfl (by kernel_rfl) (n := 19) (listed := LB 19 0) ?_
        refine VA.va (i := 0) (listed' := LB 19 1) rfl (op_move rfl (ltn rfl)) rfl (by kernel_rfl) (by kernel_rfl) (by kernel_rfl) (by kernel_rfl) ⟨⟨⟨4, rfl⟩, trivial⟩, trivial, trivial⟩ (fun _ _ _ h => h) ?_
        refine VA.va (i := 1) (listed' := LB 19 3) rfl (op_len (m := l1.length) 0 lenm Try.underlying22 rfl rfl (ltn rfl)) rfl (by kernel_rfl) (by kernel_rfl) (by kernel_rfl) (by kernel_rfl) ⟨⟨⟨4, rfl⟩, trivial⟩, trivial, trivial⟩ (fun _ _ _ h => h) ?_
        refine VA.va (i := 2) (listed' := LB 19 7) rfl (op_cmp rfl rfl (congrArg some hb6991) (ltn rfl)) rfl (by kernel_rfl) (by kernel_rfl) (by kernel_rfl) (by kernel_rfl) ⟨⟨⟨4, rfl⟩, trivial⟩, trivial, trivial⟩ (fun _ _ _ h => h) ?_
        refine VA.va (i := 3) (listed' := LB 19 15) rfl (op_move rfl (ltn rfl)) rfl (by kernel_rfl) (by kernel_rfl) (by kernel_rfl) (by kernel_rfl) ⟨⟨⟨4, rfl⟩, trivial⟩, trivial, trivial⟩ (fun _ _ _ h => h) ?_
        refine VA.un (i := 4) (listed' := LB 19 31) rfl rfl rfl (ltn rfl) (by kernel_rfl) (by kernel_rfl) (by kernel_rfl) (by kernel_rfl) ⟨⟨⟨4, rfl⟩, trivial⟩, trivial, trivial⟩ (fun _ _ _ h => h) ?_
        refine VA.un (i := 5) (listed' := LB 19 63) rfl rfl rfl (ltn rfl) (by kernel_rfl) (by kernel_rfl) (by kernel_rfl) (by kernel_rfl) ⟨⟨⟨4, rfl⟩, trivial⟩, trivial, trivial⟩ (fun _ _ _ h => h) ?_
        refine VA.va (i := 6) (listed' := LB 19 127) rfl (op_pick rfl rfl (ltn rfl)) rfl (by kernel_rfl) (by kernel_rfl) (by kernel_rfl) (by kernel_rfl) ⟨⟨⟨4, rfl⟩, trivial⟩, trivial, trivial⟩ (fun _ _ _ h => h) ?_
        refine VA.va (i := 7) (listed' := LB 19 255) rfl (op_move rfl (ltn rfl)) rfl (by kernel_rfl) (by kernel_rfl) (by kernel_rfl) (by kernel_rfl) ⟨⟨⟨4, rfl⟩, trivial⟩, trivial, trivial⟩ (fun _ _ _ h => h) ?_
        refine VA.un (i := 8) (listed' := LB 19 511) rfl rfl rfl (ltn rfl) (by kernel_rfl) (by kernel_rfl) (by kernel_rfl) (by kernel_rfl) ⟨⟨⟨4, rfl⟩, trivial⟩, trivial, trivial⟩ (fun _ _ _ h => h) ?_
        refine VA.un (i := 9) (listed' := LB 19 1023) rfl rfl rfl (ltn rfl) (by kernel_rfl) (by kernel_rfl) (by kernel_rfl) (by kernel_rfl) ⟨⟨⟨4, rfl⟩, trivial⟩, trivial, trivial⟩ (fun _ _ _ h => h) ?_
        refine VA.un (i := 10) (listed' := LB 19 2047) rfl rfl rfl (ltn rfl) (by kernel_rfl) (by kernel_rfl) (by kernel_rfl) (by kernel_rfl) ⟨⟨⟨4, rfl⟩, trivial⟩, trivial, trivial⟩ (fun _ _ _ h => h) ?_
        refine VA.un (i := 11) (listed' := LB 19 4095) rfl rfl rfl (ltn rfl) (by kernel_rfl) (by kernel_rfl) (by kernel_rfl) (by kernel_rfl) ⟨⟨⟨4, rfl⟩, trivial⟩, trivial, trivial⟩ (fun _ _ _ h => h) ?_
        refine VA.un (i := 12) (listed' := LB 19 8191) rfl rfl rfl (ltn rfl) (by kernel_rfl) (by kernel_rfl) (by kernel_rfl) (by kernel_rfl) ⟨⟨⟨4, rfl⟩, trivial⟩, trivial, trivial⟩ (fun _ _ _ h => h) ?_
        refine VA.un (i := 13) (listed' := LB 19 16383) rfl rfl rfl (ltn rfl) (by kernel_rfl) (by kernel_rfl) (by kernel_rfl) (by kernel_rfl) ⟨⟨⟨4, rfl⟩, trivial⟩, trivial, trivial⟩ (fun _ _ _ h => h) ?_
        refine VA.un (i := 14) (listed' := LB 19 32767) rfl rfl rfl (ltn rfl) (by kernel_rfl) (by kernel_rfl) (by kernel_rfl) (by kernel_rfl) ⟨⟨⟨4, rfl⟩, trivial⟩, trivial, trivial⟩ (fun _ _ _ h => h) ?_
        refine VA.un (i := 15) (listed' := LB 19 65535) rfl rfl rfl (ltn rfl) (by kernel_rfl) (by kernel_rfl) (by kernel_rfl) (by kernel_rfl) ⟨⟨⟨4, rfl⟩, trivial⟩, trivial, trivial⟩ (fun _ _ _ h => h) ?_
        refine VA.un (i := 16) (listed' := LB 19 131071) rfl rfl rfl (ltn rfl) (by kernel_rfl) (by kernel_rfl) (by kernel_rfl) (by kernel_rfl) ⟨⟨⟨4, rfl⟩, trivial⟩, trivial, trivial⟩ (fun _ _ _ h => h) ?_
        refine VA.un (i := 17) (listed' := LB 19 262143) rfl rfl rfl (ltn rfl) (by kernel_rfl) (by kernel_rfl) (by kernel_rfl) (by kernel_rfl) ⟨⟨⟨4, rfl⟩, trivial⟩, trivial, trivial⟩ (fun _ _ _ h => h) ?_
        refine VA.va (i := 18) (listed' := LB 19 524287) rfl (op_pick rfl rfl (ltn rfl)) rfl (by kernel_rfl) (by kernel_rfl) (by kernel_rfl) (by kernel_rfl) ⟨⟨⟨4, rfl⟩, trivial⟩, trivial, trivial⟩ (fun _ _ _ h => h) ?_
        refine VA.done (by kernel_rfl) ?_
        exact VN.meet0  [] [] trivial ⟨rfl, ⟨rfl, rfl, trivial⟩, trivial, rfl, by decide, rfl, by decide⟩
      intro _
      refine VC.cond_t rfl ?_
      refine VC.seq ?_
      refine VC.region ?_
      refine VL.va (op_assign rfl (ltn rfl)) rfl ?_
      refine VL.done ?_
      refine VN.then ?_
      refine VC.ret ?_
      refine VR.then ?_
      obtain rfl := Option.some.inj h
      exact VR.fn (rs := [.tmp 4]) [] [] [] rfl (.tmp rfl .nil) ⟨rfl, rfl, rfl⟩ trivial rfl (by decide)
    · rw [if_neg c6992] at h
      obtain rfl : b6991 = false := hb6991.symm.trans (decide_eq_false c6992)
      refine VC.letter (decide ((t6989.size : Int) > 3000)) fun b6993 hb6993 => ?_
      by_cases c6994 : (t6989.size : Int) > 3000
      · rw [if_pos c6994] at h
        obtain rfl : b6993 = true := hb6993.symm.trans (decide_eq_true c6994)
        refine VC.join0 (⟨30, [(4, .int .i64 0), (29, .bool true)], [], [], []⟩) (True) ?_ ?_
        · refine VC.draw ⟨0, [], [.row v1 1 (l1.map enc_str)], [], []⟩ (by kernel_rfl) rfl (by kernel_rfl) (n := 19) (listed := LB 19 0) ?_
          refine VA.va (i := 0) (listed' := LB 19 1) rfl (op_move rfl (ltn rfl)) rfl (by kernel_rfl) (by kernel_rfl) (by kernel_rfl) (by kernel_rfl) ⟨⟨⟨4, rfl⟩, trivial⟩, trivial, trivial⟩ (fun _ _ _ h => h) ?_
          refine VA.va (i := 1) (listed' := LB 19 3) rfl (op_len (m := l1.length) 0 lenm Try.underlying22 rfl rfl (ltn rfl)) rfl (by kernel_rfl) (by kernel_rfl) (by kernel_rfl) (by kernel_rfl) ⟨⟨⟨4, rfl⟩, trivial⟩, trivial, trivial⟩ (fun _ _ _ h => h) ?_
          refine VA.va (i := 2) (listed' := LB 19 7) rfl (op_cmp rfl rfl (congrArg some hb6991) (ltn rfl)) rfl (by kernel_rfl) (by kernel_rfl) (by kernel_rfl) (by kernel_rfl) ⟨⟨⟨4, rfl⟩, trivial⟩, trivial, trivial⟩ (fun _ _ _ h => h) ?_
          refine VA.va (i := 3) (listed' := LB 19 15) rfl (op_move rfl (ltn rfl)) rfl (by kernel_rfl) (by kernel_rfl) (by kernel_rfl) (by kernel_rfl) ⟨⟨⟨4, rfl⟩, trivial⟩, trivial, trivial⟩ (fun _ _ _ h => h) ?_
          refine VA.va (i := 4) (listed' := LB 19 31) rfl (op_move rfl (ltn rfl)) rfl (by kernel_rfl) (by kernel_rfl) (by kernel_rfl) (by kernel_rfl) ⟨⟨⟨4, rfl⟩, trivial⟩, trivial, trivial⟩ (fun _ _ _ h => h) ?_
          refine VA.va (i := 5) (listed' := LB 19 63) rfl (op_cmp rfl rfl (congrArg some hb6993) (ltn rfl)) rfl (by kernel_rfl) (by kernel_rfl) (by kernel_rfl) (by kernel_rfl) ⟨⟨⟨4, rfl⟩, trivial⟩, trivial, trivial⟩ (fun _ _ _ h => h) ?_
          refine VA.va (i := 6) (listed' := LB 19 127) rfl (op_pick rfl rfl (ltn rfl)) rfl (by kernel_rfl) (by kernel_rfl) (by kernel_rfl) (by kernel_rfl) ⟨⟨⟨4, rfl⟩, trivial⟩, trivial, trivial⟩ (fun _ _ _ h => h) ?_
          refine VA.va (i := 7) (listed' := LB 19 255) rfl (op_move rfl (ltn rfl)) rfl (by kernel_rfl) (by kernel_rfl) (by kernel_rfl) (by kernel_rfl) ⟨⟨⟨4, rfl⟩, trivial⟩, trivial, trivial⟩ (fun _ _ _ h => h) ?_
          refine VA.un (i := 8) (listed' := LB 19 511) rfl rfl rfl (ltn rfl) (by kernel_rfl) (by kernel_rfl) (by kernel_rfl) (by kernel_rfl) ⟨⟨⟨4, rfl⟩, trivial⟩, trivial, trivial⟩ (fun _ _ _ h => h) ?_
          refine VA.un (i := 9) (listed' := LB 19 1023) rfl rfl rfl (ltn rfl) (by kernel_rfl) (by kernel_rfl) (by kernel_rfl) (by kernel_rfl) ⟨⟨⟨4, rfl⟩, trivial⟩, trivial, trivial⟩ (fun _ _ _ h => h) ?_
          refine VA.un (i := 10) (listed' := LB 19 2047) rfl rfl rfl (ltn rfl) (by kernel_rfl) (by kernel_rfl) (by kernel_rfl) (by kernel_rfl) ⟨⟨⟨4, rfl⟩, trivial⟩, trivial, trivial⟩ (fun _ _ _ h => h) ?_
          refine VA.un (i := 11) (listed' := LB 19 4095) rfl rfl rfl (ltn rfl) (by kernel_rfl) (by kernel_rfl) (by kernel_rfl) (by kernel_rfl) ⟨⟨⟨4, rfl⟩, trivial⟩, trivial, trivial⟩ (fun _ _ _ h => h) ?_
          refine VA.un (i := 12) (listed' := LB 19 8191) rfl rfl rfl (ltn rfl) (by kernel_rfl) (by kernel_rfl) (by kernel_rfl) (by kernel_rfl) ⟨⟨⟨4, rfl⟩, trivial⟩, trivial, trivial⟩ (fun _ _ _ h => h) ?_
          refine VA.un (i := 13) (listed' := LB 19 16383) rfl rfl rfl (ltn rfl) (by kernel_rfl) (by kernel_rfl) (by kernel_rfl) (by kernel_rfl) ⟨⟨⟨4, rfl⟩, trivial⟩, trivial, trivial⟩ (fun _ _ _ h => h) ?_
          refine VA.un (i := 14) (listed' := LB 19 32767) rfl rfl rfl (ltn rfl) (by kernel_rfl) (by kernel_rfl) (by kernel_rfl) (by kernel_rfl) ⟨⟨⟨4, rfl⟩, trivial⟩, trivial, trivial⟩ (fun _ _ _ h => h) ?_
          refine VA.un (i := 15) (listed' := LB 19 65535) rfl rfl rfl (ltn rfl) (by kernel_rfl) (by kernel_rfl) (by kernel_rfl) (by kernel_rfl) ⟨⟨⟨4, rfl⟩, trivial⟩, trivial, trivial⟩ (fun _ _ _ h => h) ?_
          refine VA.un (i := 16) (listed' := LB 19 131071) rfl rfl rfl (ltn rfl) (by kernel_rfl) (by kernel_rfl) (by kernel_rfl) (by kernel_rfl) ⟨⟨⟨4, rfl⟩, trivial⟩, trivial, trivial⟩ (fun _ _ _ h => h) ?_
          refine VA.un (i := 17) (listed' := LB 19 262143) rfl rfl rfl (ltn rfl) (by kernel_rfl) (by kernel_rfl) (by kernel_rfl) (by kernel_rfl) ⟨⟨⟨4, rfl⟩, trivial⟩, trivial, trivial⟩ (fun _ _ _ h => h) ?_
          refine VA.va (i := 18) (listed' := LB 19 524287) rfl (op_pick rfl rfl (ltn rfl)) rfl (by kernel_rfl) (by kernel_rfl) (by kernel_rfl) (by kernel_rfl) ⟨⟨⟨4, rfl⟩, trivial⟩, trivial, trivial⟩ (fun _ _ _ h => h) ?_
          refine VA.done (by kernel_rfl) ?_
          exact VN.meet0  [] [] trivial ⟨rfl, ⟨rfl, rfl, trivial⟩, trivial, rfl, by decide, rfl, by decide⟩
        intro _
        refine VC.cond_t rfl ?_
        refine VC.seq ?_
        refine VC.region ?_
        refine VL.va (op_assign rfl (ltn rfl)) rfl ?_
        refine VL.done ?_
        refine VN.then ?_
        refine VC.ret ?_
        refine VR.then ?_
        obtain rfl := Option.some.inj h
        exact VR.fn (rs := [.tmp 4]) [] [] [] rfl (.tmp rfl .nil) ⟨rfl, rfl, rfl⟩ trivial rfl (by decide)
      · rw [if_neg c6994] at h
        obtain rfl : b6993 = false := hb6993.symm.trans (decide_eq_false c6994)
        replace h := Option.bind_eq_some_iff.1 h
        obtain ⟨t6995, hA6996, h⟩ := h
        refine VC.letter (decide ((wrap64 (a0_4 + (t6989.size : Int))) > t6995)) fun b6997 hb6997 => ?_
        refine VC.join0 (⟨30, [(4, .int .i64 0), (29, .bool b6997)], [], [], []⟩) (True) ?_ ?_
        · refine VC.draw ⟨0, [], [.row v0_0 1 (l0_0.map enc_str), .row v1 1 (l1.map enc_str)], [(g6685, 27, [v0_0, v0_1, .int .i64 a0_2, .int .i64 a0_3, .int .i64 a0_4, v0_5, v0_6])], []⟩ (by kernel_rfl) rfl (by kernel_rfl) (n := 19) (listed := LB 19 0) ?_
          refine VA.va (i := 0) (listed' := LB 19 1) rfl (op_move rfl (ltn rfl)) rfl (by kernel_rfl) (by kernel_rfl) (by kernel_rfl) (by kernel_rfl) ⟨⟨⟨0, rfl⟩, ⟨4, rfl⟩, trivial⟩, ⟨⟨0, rfl⟩, trivial⟩, trivial⟩ (fun _ _ _ h => h) ?_
          refine VA.va (i := 1) (listed' := LB 19 3) rfl (op_len (m := l1.length) 1 lenm Try.underlying22 rfl rfl (ltn rfl)) rfl (by kernel_rfl) (by kernel_rfl) (by kernel_rfl) (by kernel_rfl) ⟨⟨⟨0, rfl⟩, ⟨4, rfl⟩, trivial⟩, ⟨⟨0, rfl⟩, trivial⟩, trivial⟩ (fun _ _ _ h => h) ?_
          refine VA.va (i := 2) (listed' := LB 19 7) rfl (op_cmp rfl rfl (congrArg some hb6991) (ltn rfl)) rfl (by kernel_rfl) (by kernel_rfl) (by kernel_rfl) (by kernel_rfl) ⟨⟨⟨0, rfl⟩, ⟨4, rfl⟩, trivial⟩, ⟨⟨0, rfl⟩, trivial⟩, trivial⟩ (fun _ _ _ h => h) ?_
          refine VA.va (i := 3) (listed' := LB 19 15) rfl (op_move rfl (ltn rfl)) rfl (by kernel_rfl) (by kernel_rfl) (by kernel_rfl) (by kernel_rfl) ⟨⟨⟨0, rfl⟩, ⟨4, rfl⟩, trivial⟩, ⟨⟨0, rfl⟩, trivial⟩, trivial⟩ (fun _ _ _ h => h) ?_
          refine VA.va (i := 4) (listed' := LB 19 31) rfl (op_move rfl (ltn rfl)) rfl (by kernel_rfl) (by kernel_rfl) (by kernel_rfl) (by kernel_rfl) ⟨⟨⟨0, rfl⟩, ⟨4, rfl⟩, trivial⟩, ⟨⟨0, rfl⟩, trivial⟩, trivial⟩ (fun _ _ _ h => h) ?_
          refine VA.va (i := 5) (listed' := LB 19 63) rfl (op_cmp rfl rfl (congrArg some hb6993) (ltn rfl)) rfl (by kernel_rfl) (by kernel_rfl) (by kernel_rfl) (by kernel_rfl) ⟨⟨⟨0, rfl⟩, ⟨4, rfl⟩, trivial⟩, ⟨⟨0, rfl⟩, trivial⟩, trivial⟩ (fun _ _ _ h => h) ?_
          refine VA.va (i := 6) (listed' := LB 19 127) rfl (op_pick rfl rfl (ltn rfl)) rfl (by kernel_rfl) (by kernel_rfl) (by kernel_rfl) (by kernel_rfl) ⟨⟨⟨0, rfl⟩, ⟨4, rfl⟩, trivial⟩, ⟨⟨0, rfl⟩, trivial⟩, trivial⟩ (fun _ _ _ h => h) ?_
          refine VA.va (i := 7) (listed' := LB 19 255) rfl (op_move rfl (ltn rfl)) rfl (by kernel_rfl) (by kernel_rfl) (by kernel_rfl) (by kernel_rfl) ⟨⟨⟨0, rfl⟩, ⟨4, rfl⟩, trivial⟩, ⟨⟨0, rfl⟩, trivial⟩, trivial⟩ (fun _ _ _ h => h) ?_
          refine VA.va (i := 8) (listed' := LB 19 511) rfl (op_fieldAddr FI27_3 rfl (add_at _ _ _) (ltn rfl)) rfl (by kernel_rfl) (by kernel_rfl) (by kernel_rfl) (by kernel_rfl) ⟨⟨⟨0, rfl⟩, ⟨4, rfl⟩, trivial⟩, ⟨⟨0, rfl⟩, trivial⟩, trivial⟩ (fun _ _ _ h => h) ?_
          refine VA.va (i := 9) (listed' := LB 19 1023) rfl (op_load 0 1 rfl rfl TI3 rfl (by decide) (ltn rfl)) rfl (by kernel_rfl) (by kernel_rfl) (by kernel_rfl) (by kernel_rfl) ⟨⟨⟨0, rfl⟩, ⟨4, rfl⟩, trivial⟩, ⟨⟨0, rfl⟩, trivial⟩, trivial⟩ (fun _ _ _ h => h) ?_
          refine VA.va (i := 10) (listed' := LB 19 2047) rfl (op_move rfl (ltn rfl)) rfl (by kernel_rfl) (by kernel_rfl) (by kernel_rfl) (by kernel_rfl) ⟨⟨⟨0, rfl⟩, ⟨4, rfl⟩, trivial⟩, ⟨⟨0, rfl⟩, trivial⟩, trivial⟩ (fun _ _ _ h => h) ?_
          refine VA.va (i := 11) (listed' := LB 19 4095) rfl (op_ari64 rfl rfl rfl (ltn rfl)) rfl (by kernel_rfl) (by kernel_rfl) (by kernel_rfl) (by kernel_rfl) ⟨⟨⟨0, rfl⟩, ⟨4, rfl⟩, trivial⟩, ⟨⟨0, rfl⟩, trivial⟩, trivial⟩ (fun _ _ _ h => h) ?_
          refine VA.va (i := 12) (listed' := LB 19 8191) rfl (op_fieldAddr FI27_0 rfl (add_at _ _ _) (ltn rfl)) rfl (by kernel_rfl) (by kernel_rfl) (by kernel_rfl) (by kernel_rfl) ⟨⟨⟨0, rfl⟩, ⟨4, rfl⟩, trivial⟩, ⟨⟨0, rfl⟩, trivial⟩, trivial⟩ (fun _ _ _ h => h) ?_
          refine VA.va (i := 13) (listed' := LB 19 16383) rfl (op_fieldAddr FI25_0 rfl (add_at _ _ _) (ltn rfl)) rfl (by kernel_rfl) (by kernel_rfl) (by kernel_rfl) (by kernel_rfl) ⟨⟨⟨0, rfl⟩, ⟨4, rfl⟩, trivial⟩, ⟨⟨0, rfl⟩, trivial⟩, trivial⟩ (fun _ _ _ h => h) ?_
          refine VA.va (i := 14) (listed' := LB 19 32767) rfl (op_load 0 1 rfl rfl TI22 rfl (by decide) (ltn rfl)) rfl (by kernel_rfl) (by kernel_rfl) (by kernel_rfl) (by kernel_rfl) ⟨⟨⟨0, rfl⟩, ⟨4, rfl⟩, trivial⟩, ⟨⟨0, rfl⟩, trivial⟩, trivial⟩ (fun _ _ _ h => h) ?_
          refine VA.va (i := 15) (listed' := LB 19 65535) rfl (op_len (m := l0_0.length) 0 lenm Try.underlying22 rfl rfl (ltn rfl)) rfl (by kernel_rfl) (by kernel_rfl) (by kernel_rfl) (by kernel_rfl) ⟨⟨⟨0, rfl⟩, ⟨4, rfl⟩, trivial⟩, ⟨⟨0, rfl⟩, trivial⟩, trivial⟩ (fun _ _ _ h => h) ?_
          refine VA.oneC (i := 16) (listed' := LB 19 131071) (by kernel_rfl) rfl (o_call0 FO55 (journal_room.ok (l0_0.length : Int) t6995 hA6996) rfl rfl (ltn rfl) (All_of .nil)) rfl (by kernel_rfl) ?_
          rintro _ _ _ ⟨rfl, rfl, rfl⟩
          refine ⟨⟨⟨⟨0, rfl⟩, ⟨4, rfl⟩, trivial⟩, ⟨⟨0, rfl⟩, trivial⟩, trivial⟩, ?_⟩
          refine VA.va (i := 17) (listed' := LB 19 262143) rfl (op_cmp rfl rfl (congrArg some hb6997) (ltn rfl)) rfl (by kernel_rfl) (by kernel_rfl) (by kernel_rfl) (by kernel_rfl) ⟨⟨⟨0, rfl⟩, ⟨4, rfl⟩, trivial⟩, ⟨⟨0, rfl⟩, trivial⟩, trivial⟩ (fun _ _ _ h => h) ?_
          refine VA.va (i := 18) (listed' := LB 19 524287) rfl (op_pick rfl rfl (ltn rfl)) rfl (by kernel_rfl) (by kernel_rfl) (by kernel_rfl) (by kernel_rfl) ⟨⟨⟨0, rfl⟩, ⟨4, rfl⟩, trivial⟩, ⟨⟨0, rfl⟩, trivial⟩, trivial⟩ (fun _ _ _ h => h) ?_
          refine VA.done (by kernel_rfl) ?_
          exact VN.meet0  [] [] trivial ⟨rfl, ⟨rfl, rfl, trivial⟩, trivial, rfl, by decide, rfl, by decide⟩
        intro _
        by_cases c6998 : (wrap64 (a0_4 + (t6989.size : Int))) > t6995
        · rw [if_pos c6998] at h
          obtain rfl : b6997 = true := hb6997.symm.trans (decide_eq_true c6998)
          refine VC.cond_t rfl ?_
          refine VC.seq ?_
          refine VC.region ?_
          refine VL.va (op_assign rfl (ltn rfl)) rfl ?_
          refine VL.done ?_
          refine VN.then ?_
          refine VC.ret ?_
          refine VR.then ?_
          obtain rfl := Option.some.inj h
          exact VR.fn (rs := [.tmp 4]) [] [] [] rfl (.tmp rfl .nil) ⟨rfl, rfl, rfl⟩ trivial rfl (by decide)
        · rw [if_neg c6998] at h
          obtain rfl : b6997 = false := hb6997.symm.trans (decide_eq_false c6998)
          refine VC.cond_f rfl ?_
          refine VC.skip ?_
          refine VN.then ?_
          refine VC.seq ?_
          refine VC.region ?_
          refine VL.va (op_assign rfl (ltn rfl)) rfl ?_
          refine VL.done ?_
          refine VN.then ?_
          refine VC.ret ?_
          obtain rfl := Option.some.inj h
          exact VR.fn (rs := [.tmp 4]) [] [] [] rfl (.tmp rfl .nil) ⟨rfl, rfl, rfl⟩ trivial rfl (by decide)

end Go.Proofs.Ytipeglbeongfmaa.PJournalUnused
