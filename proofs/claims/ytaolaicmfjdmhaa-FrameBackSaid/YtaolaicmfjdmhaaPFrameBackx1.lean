/- Written by a program of this repo: what the program's functions do, each as a Lean function, shown of the loaded code; or a statement's row over that; no condition of its own. -/
import Derived.Test.YtaolaicmfjdmhaaPFrameBackx0
namespace Go.Proofs.Ytaolaicmfjdmhaa.PFrameBack
open Go Go.RowKit Go.Proofs.YtaolaicmfjdmhaaV
set_option linter.unusedVariables false
set_option linter.unusedSimpArgs false

set_option maxHeartbeats 4000000 in
set_option maxRecDepth 100000 in
theorem tarrylaw04_few.ok (k : Nat) (l0 : List ByteArray) (v0 : Value) (r1 : List ByteArray) (h : tarrylaw04_few.f k l0 = some r1) :
    VCalls Try.prog 6 [v0] [.row v0 1 (l0.map enc_str)] (fun v G own => ∃ w0 : Value, v = w0 ∧ G = [] ∧ own = [(w0, 9, 1, r1.map enc_str)]) := by
  refine VCalls.intro Try.func6 rfl (len rfl) fun E hC hW hD => ?_
  unfold tarrylaw04_few.f at h
  refine VC.seq ?_
  refine VC.region ?_
  refine VL.va (op_assign rfl (ltn rfl)) rfl ?_
  refine VL.done ?_
  refine VN.then ?_
  refine VC.seq ?_
  refine VC.region ?_
  refine VL.va (op_assign rfl (ltn rfl)) rfl ?_
  refine VL.done ?_
  refine VN.then ?_
  refine VC.seq ?_
  refine VC.seq ?_
  refine VC.region ?_
  refine VL.va (op_move rfl (ltn rfl)) rfl ?_
  refine VL.va (op_move rfl (ltn rfl)) rfl ?_
  refine VL.va (op_len (m := l0.length) 0 lenm Try.underlying22 rfl rfl (ltn rfl)) rfl ?_
  refine VL.va (op_min rfl rfl (ltn rfl)) rfl ?_
  by_cases c54 : 0 ≤ mn (l0.length : Int) 8
  · rw [if_pos c54] at h
    by_cases c55 : (mn (l0.length : Int) 8) ≤ (l0.length : Int)
    · rw [if_pos c55] at h
      refine VL.sG (o_slice (m := l0.length) 0 0 ((mn (l0.length : Int) 8).toNat) lenm cutm Try.underlying22 TI9 rfl rfl ⟨rfl, ⟨_, _, rfl, c54, rfl⟩, by omega, by omega⟩ (ltn rfl)) rfl ?_
      intro v57
      refine VL.va (op_len (m := ((l0.take ((mn (l0.length : Int) 8).toNat)).drop 0).length) 0 lenm Try.underlying22 rfl rfl (ltn rfl)) rfl ?_
      refine VL.va (op_move rfl (ltn rfl)) rfl ?_
      refine VL.done ?_
      refine VN.then ?_
      refine VC.block ?_
      refine VC.nilRow' 9 1 ?_
      refine VC.loop3 (fun (v73 : Value) (l74 : List ByteArray) (i76 : Int) => ⟨26, [(2, .slice none 0 0), (3, v73), (10, v57), (11, .int .i64 (((l0.take ((mn (l0.length : Int) 8).toNat)).drop 0).length : Int)), (12, .int .i64 i76)], [.row v57 1 (((l0.take ((mn (l0.length : Int) 8).toNat)).drop 0).map enc_str)], [], [(v73, 9, 1, l74.map enc_str)]⟩) (fun (ml1 : Nat) (v73 : Value) (l74 : List ByteArray) (i76 : Int) => tarrylaw04_few.l1 k l0 ml1 l74 i76 = some r1) k (.slice none 0 0) ([] : List ByteArray) 0 [] [0] h ⟨rfl, ⟨rfl, rfl, rfl, rfl, rfl, trivial⟩, ⟨⟨0, rfl⟩, trivial⟩, rfl, by decide, rfl, by decide⟩ (by intros; simp [tarrylaw04_few.l1]) ?_
      clear h
      intro ml1 ihl1 v73 l74 i76 h
      simp only [tarrylaw04_few.l1] at h
      refine VC.seq ?_
      refine VC.region ?_
      refine VL.letter (decide (i76 < (((l0.take ((mn (l0.length : Int) 8).toNat)).drop 0).length : Int))) fun b91 hb91 => ?_
      refine VL.va (op_cmp rfl rfl (congrArg some hb91) (ltn rfl)) rfl ?_
      refine VL.done ?_
      refine VN.then ?_
      refine VC.seq ?_
      by_cases c93 : i76 < (((l0.take ((mn (l0.length : Int) 8).toNat)).drop 0).length : Int)
      · rw [if_pos c93] at h
        obtain rfl : b91 = true := hb91.symm.trans (decide_eq_true c93)
        refine VC.cond_t rfl ?_
        refine VC.skip ?_
        refine VN.then ?_
        refine VC.seq ?_
        refine VC.block ?_
        refine VC.seq ?_
        refine VC.region ?_
        by_cases c94 : 0 ≤ i76
        · rw [if_pos c94] at h
          replace h := Option.bind_eq_some_iff.1 h
          obtain ⟨x95, hx95, h⟩ := h
          refine VL.open (m := ((l0.take ((mn (l0.length : Int) 8).toNat)).drop 0).length) 0 lenm rfl (pos_get hx95) ?_
          rintro ad96 n97 rfl
          refine VL.va (op_indexAddr Try.underlying22 TI9 rfl rfl c94 (lt_get c94 hx95) rfl (ltn rfl)) rfl ?_
          refine VL.va (op_load_row (sz := 1) (o := 0) 0 i76.toNat 1 rfl rfl (get_map hx95) TI9 rfl (by decide) (ltn rfl)) rfl ?_
          refine VL.va (op_assign rfl (ltn rfl)) rfl ?_
          refine VL.done ?_
          refine VN.then ?_
          refine VC.region ?_
          refine VL.va (op_move rfl (ltn rfl)) rfl ?_
          refine VL.va (op_move rfl (ltn rfl)) rfl ?_
          refine VL.va (op_move rfl (ltn rfl)) rfl ?_
          refine VL.va (op_lens Try.underlying9 rfl (ltn rfl)) rfl ?_
          refine VL.va (op_min rfl rfl (ltn rfl)) rfl ?_
          by_cases c98 : 0 ≤ mn (x95.size : Int) 100
          · rw [if_pos c98] at h
            by_cases c99 : (mn (x95.size : Int) 100) ≤ (x95.size : Int)
            · rw [if_pos c99] at h
              refine VL.va (op_sliceS 0 ((mn (x95.size : Int) 100).toNat) Try.underlying9 rfl ⟨rfl, ⟨_, _, rfl, c98, rfl⟩, by omega, by omega⟩ rfl (ltn rfl)) rfl ?_
              refine VL.sG (o_buildSlice (vals := [(0, .string (x95.extract 0 ((mn (x95.size : Int) 100).toNat)))]) (cells := #[.string (x95.extract 0 ((mn (x95.size : Int) 100).toNat))]) (es := List.map enc_str ([x95.extract 0 ((mn (x95.size : Int) 100).toNat)] : List ByteArray)) Try.underlying22 TI9 Z9 rfl (by decide) (by decide) (by kernel_rfl) (by kernel_rfl) rfl (flat_map enc_str_ok _) (ltn rfl)) rfl ?_
              intro v101
              by_cases c102 : (l74.length + ([x95.extract 0 ((mn (x95.size : Int) 100).toNat)] : List ByteArray).length) * 16 ≤ 140737488355328
              · rw [if_pos c102] at h
                refine VL.sG (o_append 1 appm Try.underlying22 EI9 rfl rfl rfl (.inr ⟨0, _, rfl⟩) (bndm c102) (ltn rfl)) rfl ?_
                intro v103
                refine VL.va (op_assign rfl (ltn rfl)) rfl ?_
                refine VL.done ?_
                refine VN.block ?_
                refine VN.then ?_
                refine VC.region ?_
                refine VL.va (op_ari64 rfl rfl rfl (ltn rfl)) rfl ?_
                refine VL.va (op_move rfl (ltn rfl)) rfl ?_
                refine VL.done ?_
                refine VN.again [] [1] (ihl1 v103 (l74 ++ ([x95.extract 0 ((mn (x95.size : Int) 100).toNat)] : List ByteArray)) (wrap64 (i76 + 1)) h) ⟨rfl, ⟨rfl, rfl, rfl, rfl, rfl, trivial⟩, ⟨⟨0, rfl⟩, trivial⟩, rfl, by decide, rfl, by decide⟩
              · rw [if_neg c102] at h; cases h
            · rw [if_neg c99] at h; cases h
          · rw [if_neg c98] at h; cases h
        · rw [if_neg c94] at h; cases h
      · rw [if_neg c93] at h
        obtain rfl : b91 = false := hb91.symm.trans (decide_eq_false c93)
        refine VC.cond_f rfl ?_
        refine VC.exit ?_
        refine VX.then ?_
        refine VX.then ?_
        refine VX.hit ?_
        refine VN.then ?_
        refine VC.seq ?_
        refine VC.region ?_
        refine VL.va (op_move rfl (ltn rfl)) rfl ?_
        refine VL.va (op_assign rfl (ltn rfl)) rfl ?_
        refine VL.done ?_
        refine VN.then ?_
        refine VC.ret ?_
        obtain rfl := Option.some.inj h
        exact VR.fn (rs := [.tmp 2]) [] [(v73, 9, 1, l74.map enc_str)] [0] rfl (.tmp rfl .nil) ⟨v73, rfl, rfl, rfl⟩ trivial rfl (by decide)
    · rw [if_neg c55] at h; cases h
  · rw [if_neg c54] at h; cases h
set_option maxHeartbeats 4000000 in
set_option maxRecDepth 100000 in
theorem pack_may.ok (a0 : Int)  (r1 : Bool) (h : pack_may.f a0 = some r1) :
    VCalls Try.prog 25 [.int .i64 a0] [] (fun v G own => v = .bool r1 ∧ G = [] ∧ own = []) := by
  refine VCalls.intro Try.func25 rfl (len rfl) fun E hC hW hD => ?_
  unfold pack_may.f at h
  refine VC.seq ?_
  refine VC.region ?_
  refine VL.va (op_assign rfl (ltn rfl)) rfl ?_
  refine VL.done ?_
  refine VN.then ?_
  refine VC.seq ?_
  refine VC.region ?_
  refine VL.va (op_move rfl (ltn rfl)) rfl ?_
  refine VL.letter (decide (a0 ≥ (-1152921504606846976))) fun b124 hb124 => ?_
  refine VL.va (op_cmp rfl rfl (congrArg some hb124) (ltn rfl)) rfl ?_
  refine VL.va (op_move rfl (ltn rfl)) rfl ?_
  by_cases c125 : a0 ≥ (-1152921504606846976)
  · rw [if_pos c125] at h
    obtain rfl : b124 = true := hb124.symm.trans (decide_eq_true c125)
    refine VL.va (op_move rfl (ltn rfl)) rfl ?_
    refine VL.letter (decide (a0 ≤ 1152921504606846976)) fun b126 hb126 => ?_
    refine VL.va (op_cmp rfl rfl (congrArg some hb126) (ltn rfl)) rfl ?_
    refine VL.va (op_pick rfl rfl (ltn rfl)) rfl ?_
    refine VL.va (op_assign rfl (ltn rfl)) rfl ?_
    refine VL.done ?_
    refine VN.then ?_
    refine VC.ret ?_
    obtain rfl := Option.some.inj h
    subst hb126
    exact VR.fn (rs := [.tmp 2]) [] [] [] rfl (.tmp rfl .nil) ⟨rfl, rfl, rfl⟩ trivial rfl (by decide)
  · rw [if_neg c125] at h
    obtain rfl : b124 = false := hb124.symm.trans (decide_eq_false c125)
    refine VL.un rfl rfl (ltn rfl) ?_
    refine VL.un rfl rfl (ltn rfl) ?_
    refine VL.va (op_pick rfl rfl (ltn rfl)) rfl ?_
    refine VL.va (op_assign rfl (ltn rfl)) rfl ?_
    refine VL.done ?_
    refine VN.then ?_
    refine VC.ret ?_
    obtain rfl := Option.some.inj h
    exact VR.fn (rs := [.tmp 2]) [] [] [] rfl (.tmp rfl .nil) ⟨rfl, rfl, rfl⟩ trivial rfl (by decide)
set_option maxHeartbeats 4000000 in
set_option maxRecDepth 100000 in
theorem pack_Number.ok (k : Nat) (a0 : Int)  (r1 : ByteArray) (r2 : Int) (h : pack_Number.f k a0 = some (r1, r2)) :
    VCalls Try.prog 16 [.int .i64 a0] [] (fun v G own => v = .tuple #[.string r1, .int .i64 r2] ∧ G = [] ∧ own = []) := by
  refine VCalls.intro Try.func16 rfl (len rfl) fun E hC hW hD => ?_
  unfold pack_Number.f at h
  refine VC.seq ?_
  refine VC.region ?_
  refine VL.va (op_assign rfl (ltn rfl)) rfl ?_
  refine VL.va (op_assign rfl (ltn rfl)) rfl ?_
  refine VL.done ?_
  refine VN.then ?_
  refine VC.seq ?_
  refine VC.seq ?_
  refine VC.region ?_
  refine VL.va (op_move rfl (ltn rfl)) rfl ?_
  replace h := Option.bind_eq_some_iff.1 h
  obtain ⟨t136, hA137, h⟩ := h
  refine VL.sC (o_call0 FO25 (pack_may.ok a0 t136 hA137) rfl rfl (ltn rfl) (All_of .nil)) rfl ?_
  rintro _ _ _ ⟨rfl, rfl, rfl⟩
  by_cases c138 : t136 = true
  · rw [if_pos c138] at h
    obtain rfl := c138
    refine VL.va (op_not rfl rfl (ltn rfl)) rfl ?_
    refine VL.done ?_
    refine VN.then ?_
    refine VC.cond_f rfl ?_
    refine VC.skip ?_
    refine VN.then ?_
    refine VC.seq ?_
    refine VC.region ?_
    refine VL.va (op_move rfl (ltn rfl)) rfl ?_
    refine VL.va (op_ari64 rfl rfl rfl (ltn rfl)) rfl ?_
    refine VL.va (op_assign rfl (ltn rfl)) rfl ?_
    refine VL.done ?_
    refine VN.then ?_
    refine VC.seq ?_
    refine VC.seq ?_
    refine VC.region ?_
    refine VL.va (op_move rfl (ltn rfl)) rfl ?_
    refine VL.letter (decide (a0 < 0)) fun b141 hb141 => ?_
    refine VL.va (op_cmp rfl rfl (congrArg some hb141) (ltn rfl)) rfl ?_
    refine VL.done ?_
    refine VN.then ?_
    by_cases c142 : a0 < 0
    · rw [if_pos c142] at h
      obtain rfl : b141 = true := hb141.symm.trans (decide_eq_true c142)
      refine VC.cond_t rfl ?_
      refine VC.region ?_
      refine VL.va (op_move rfl (ltn rfl)) rfl ?_
      refine VL.va (op_ari64 rfl rfl rfl (ltn rfl)) rfl ?_
      refine VL.va (op_ari64 rfl rfl rfl (ltn rfl)) rfl ?_
      refine VL.va (op_assign rfl (ltn rfl)) rfl ?_
      refine VL.done ?_
      refine VN.then ?_
      refine VC.seq ?_
      refine VC.region ?_
      refine VL.va (op_assign rfl (ltn rfl)) rfl ?_
      refine VL.done ?_
      refine VN.then ?_
      refine VC.seq ?_
      refine VC.block ?_
      refine VC.nilRow' 5 1 ?_
      refine VC.loop3 (fun (i186 : Int) (v188 : Value) (l189 : List Int) => ⟨33, [(2, .string (⟨#[]⟩ : ByteArray)), (3, .int .i64 0), (4, .int .i64 i186), (5, v188)], [], [], [(v188, 5, 1, l189.map enc_intu8)]⟩) (fun (ml1 : Nat) (i186 : Int) (v188 : Value) (l189 : List Int) => pack_Number.l1 k ml1 i186 l189 = some (r1, r2)) k (wrap64 ((wrap64 ((-2) * a0)) - 1)) (.slice none 0 0) ([] : List Int) [] [0] h ⟨rfl, ⟨rfl, rfl, rfl, rfl, trivial⟩, trivial, rfl, by decide, rfl, by decide⟩ (by intros; simp [pack_Number.l1]) ?_
      clear h
      intro ml1 ihl1 i186 v188 l189 h
      simp only [pack_Number.l1] at h
      refine VC.seq ?_
      refine VC.seq ?_
      refine VC.region ?_
      refine VL.va (op_move rfl (ltn rfl)) rfl ?_
      refine VL.letter (decide (i186 ≥ 128)) fun b207 hb207 => ?_
      refine VL.va (op_cmp rfl rfl (congrArg some hb207) (ltn rfl)) rfl ?_
      refine VL.done ?_
      refine VN.then ?_
      by_cases c208 : i186 ≥ 128
      · rw [if_pos c208] at h
        obtain rfl : b207 = true := hb207.symm.trans (decide_eq_true c208)
        refine VC.cond_t rfl ?_
        refine VC.skip ?_
        refine VN.then ?_
        refine VC.seq ?_
        refine VC.block ?_
        refine VC.region ?_
        refine VL.va (op_move rfl (ltn rfl)) rfl ?_
        refine VL.va (op_move rfl (ltn rfl)) rfl ?_
        refine VL.va (op_rem rfl rfl (by decide) rfl (ltn rfl)) rfl ?_
        refine VL.va (op_ari64 rfl rfl rfl (ltn rfl)) rfl ?_
        refine VL.va (op_conv Try.underlying3 Try.underlying5 rfl rfl (ltn rfl)) rfl ?_
        refine VL.sG (o_buildSlice (vals := [(0, .int .u8 (IntKind.u8.wrap (wrap64 ((i186.tmod 128) + 128))))]) (cells := #[.int .u8 (IntKind.u8.wrap (wrap64 ((i186.tmod 128) + 128)))]) (es := List.map enc_intu8 ([IntKind.u8.wrap (wrap64 ((i186.tmod 128) + 128))] : List Int)) Try.underlying29 TI5 Z5 rfl (by decide) (by decide) (by kernel_rfl) (by kernel_rfl) rfl (flat_map enc_intu8_ok _) (ltn rfl)) rfl ?_
        intro v210
        by_cases c211 : (l189.length + ([IntKind.u8.wrap (wrap64 ((i186.tmod 128) + 128))] : List Int).length) * 1 ≤ 140737488355328
        · rw [if_pos c211] at h
          refine VL.sG (o_append 1 appm Try.underlying29 EI5 rfl rfl rfl (.inr ⟨0, _, rfl⟩) (bndm c211) (ltn rfl)) rfl ?_
          intro v212
          refine VL.va (op_assign rfl (ltn rfl)) rfl ?_
          refine VL.done ?_
          refine VN.block ?_
          refine VN.then ?_
          refine VC.region ?_
          refine VL.va (op_move rfl (ltn rfl)) rfl ?_
          refine VL.va (op_quo rfl rfl (by decide) rfl (ltn rfl)) rfl ?_
          refine VL.va (op_assign rfl (ltn rfl)) rfl ?_
          refine VL.done ?_
          refine VN.again [] [1] (ihl1 (IntKind.i64.wrap (i186.tdiv 128)) v212 (l189 ++ ([IntKind.u8.wrap (wrap64 ((i186.tmod 128) + 128))] : List Int)) h) ⟨rfl, ⟨rfl, rfl, rfl, rfl, trivial⟩, trivial, rfl, by decide, rfl, by decide⟩
        · rw [if_neg c211] at h; cases h
      · rw [if_neg c208] at h
        obtain rfl : b207 = false := hb207.symm.trans (decide_eq_false c208)
        refine VC.cond_f rfl ?_
        refine VC.exit ?_
        refine VX.then ?_
        refine VX.then ?_
        refine VX.hit ?_
        refine VN.then ?_
        refine VC.seq ?_
        refine VC.region ?_
        refine VL.va (op_move rfl (ltn rfl)) rfl ?_
        refine VL.va (op_move rfl (ltn rfl)) rfl ?_
        refine VL.va (op_conv Try.underlying3 Try.underlying5 rfl rfl (ltn rfl)) rfl ?_
        refine VL.sG (o_buildSlice (vals := [(0, .int .u8 (IntKind.u8.wrap i186))]) (cells := #[.int .u8 (IntKind.u8.wrap i186)]) (es := List.map enc_intu8 ([IntKind.u8.wrap i186] : List Int)) Try.underlying29 TI5 Z5 rfl (by decide) (by decide) (by kernel_rfl) (by kernel_rfl) rfl (flat_map enc_intu8_ok _) (ltn rfl)) rfl ?_
        intro v215
        by_cases c216 : (l189.length + ([IntKind.u8.wrap i186] : List Int).length) * 1 ≤ 140737488355328
        · rw [if_pos c216] at h
          refine VL.sG (o_append 1 appm Try.underlying29 EI5 rfl rfl rfl (.inr ⟨0, _, rfl⟩) (bndm c216) (ltn rfl)) rfl ?_
          intro v217
          refine VL.va (op_bytesStr_own (xs := (l189 ++ ([IntKind.u8.wrap i186] : List Int))) 1 rfl rfl Try.underlying29 Try.underlying9 Try.underlying5 rfl rfl (ltn rfl)) rfl ?_
          refine VL.va (op_assign rfl (ltn rfl)) rfl ?_
          refine VL.va (op_assign rfl (ltn rfl)) rfl ?_
          refine VL.done ?_
          refine VN.then ?_
          refine VC.ret ?_
          simp only [Option.some.injEq, Prod.mk.injEq] at h
          obtain ⟨rfl, rfl⟩ := h
          exact VR.fn (rs := [.tmp 2, .tmp 3]) [] [] [] rfl (.tmp rfl (.tmp rfl .nil)) ⟨rfl, rfl, rfl⟩ trivial rfl (by decide)
        · rw [if_neg c216] at h; cases h
    · rw [if_neg c142] at h
      obtain rfl : b141 = false := hb141.symm.trans (decide_eq_false c142)
      refine VC.cond_f rfl ?_
      refine VC.skip ?_
      refine VN.then ?_
      refine VC.seq ?_
      refine VC.region ?_
      refine VL.va (op_assign rfl (ltn rfl)) rfl ?_
      refine VL.done ?_
      refine VN.then ?_
      refine VC.seq ?_
      refine VC.block ?_
      refine VC.nilRow' 5 1 ?_
      refine VC.loop3 (fun (i262 : Int) (v264 : Value) (l265 : List Int) => ⟨33, [(2, .string (⟨#[]⟩ : ByteArray)), (3, .int .i64 0), (4, .int .i64 i262), (5, v264)], [], [], [(v264, 5, 1, l265.map enc_intu8)]⟩) (fun (ml3 : Nat) (i262 : Int) (v264 : Value) (l265 : List Int) => pack_Number.l3 k ml3 i262 l265 = some (r1, r2)) k (wrap64 (2 * a0)) (.slice none 0 0) ([] : List Int) [] [0] h ⟨rfl, ⟨rfl, rfl, rfl, rfl, trivial⟩, trivial, rfl, by decide, rfl, by decide⟩ (by intros; simp [pack_Number.l3]) ?_
      clear h
      intro ml3 ihl3 i262 v264 l265 h
      simp only [pack_Number.l3] at h
      refine VC.seq ?_
      refine VC.seq ?_
      refine VC.region ?_
      refine VL.va (op_move rfl (ltn rfl)) rfl ?_
      refine VL.letter (decide (i262 ≥ 128)) fun b283 hb283 => ?_
      refine VL.va (op_cmp rfl rfl (congrArg some hb283) (ltn rfl)) rfl ?_
      refine VL.done ?_
      refine VN.then ?_
      by_cases c284 : i262 ≥ 128
      · rw [if_pos c284] at h
        obtain rfl : b283 = true := hb283.symm.trans (decide_eq_true c284)
        refine VC.cond_t rfl ?_
        refine VC.skip ?_
        refine VN.then ?_
        refine VC.seq ?_
        refine VC.block ?_
        refine VC.region ?_
        refine VL.va (op_move rfl (ltn rfl)) rfl ?_
        refine VL.va (op_move rfl (ltn rfl)) rfl ?_
        refine VL.va (op_rem rfl rfl (by decide) rfl (ltn rfl)) rfl ?_
        refine VL.va (op_ari64 rfl rfl rfl (ltn rfl)) rfl ?_
        refine VL.va (op_conv Try.underlying3 Try.underlying5 rfl rfl (ltn rfl)) rfl ?_
        refine VL.sG (o_buildSlice (vals := [(0, .int .u8 (IntKind.u8.wrap (wrap64 ((i262.tmod 128) + 128))))]) (cells := #[.int .u8 (IntKind.u8.wrap (wrap64 ((i262.tmod 128) + 128)))]) (es := List.map enc_intu8 ([IntKind.u8.wrap (wrap64 ((i262.tmod 128) + 128))] : List Int)) Try.underlying29 TI5 Z5 rfl (by decide) (by decide) (by kernel_rfl) (by kernel_rfl) rfl (flat_map enc_intu8_ok _) (ltn rfl)) rfl ?_
        intro v286
        by_cases c287 : (l265.length + ([IntKind.u8.wrap (wrap64 ((i262.tmod 128) + 128))] : List Int).length) * 1 ≤ 140737488355328
        · rw [if_pos c287] at h
          refine VL.sG (o_append 1 appm Try.underlying29 EI5 rfl rfl rfl (.inr ⟨0, _, rfl⟩) (bndm c287) (ltn rfl)) rfl ?_
          intro v288
          refine VL.va (op_assign rfl (ltn rfl)) rfl ?_
          refine VL.done ?_
          refine VN.block ?_
          refine VN.then ?_
          refine VC.region ?_
          refine VL.va (op_move rfl (ltn rfl)) rfl ?_
          refine VL.va (op_quo rfl rfl (by decide) rfl (ltn rfl)) rfl ?_
          refine VL.va (op_assign rfl (ltn rfl)) rfl ?_
          refine VL.done ?_
          refine VN.again [] [1] (ihl3 (IntKind.i64.wrap (i262.tdiv 128)) v288 (l265 ++ ([IntKind.u8.wrap (wrap64 ((i262.tmod 128) + 128))] : List Int)) h) ⟨rfl, ⟨rfl, rfl, rfl, rfl, trivial⟩, trivial, rfl, by decide, rfl, by decide⟩
        · rw [if_neg c287] at h; cases h
      · rw [if_neg c284] at h
        obtain rfl : b283 = false := hb283.symm.trans (decide_eq_false c284)
        refine VC.cond_f rfl ?_
        refine VC.exit ?_
        refine VX.then ?_
        refine VX.then ?_
        refine VX.hit ?_
        refine VN.then ?_
        refine VC.seq ?_
        refine VC.region ?_
        refine VL.va (op_move rfl (ltn rfl)) rfl ?_
        refine VL.va (op_move rfl (ltn rfl)) rfl ?_
        refine VL.va (op_conv Try.underlying3 Try.underlying5 rfl rfl (ltn rfl)) rfl ?_
        refine VL.sG (o_buildSlice (vals := [(0, .int .u8 (IntKind.u8.wrap i262))]) (cells := #[.int .u8 (IntKind.u8.wrap i262)]) (es := List.map enc_intu8 ([IntKind.u8.wrap i262] : List Int)) Try.underlying29 TI5 Z5 rfl (by decide) (by decide) (by kernel_rfl) (by kernel_rfl) rfl (flat_map enc_intu8_ok _) (ltn rfl)) rfl ?_
        intro v291
        by_cases c292 : (l265.length + ([IntKind.u8.wrap i262] : List Int).length) * 1 ≤ 140737488355328
        · rw [if_pos c292] at h
          refine VL.sG (o_append 1 appm Try.underlying29 EI5 rfl rfl rfl (.inr ⟨0, _, rfl⟩) (bndm c292) (ltn rfl)) rfl ?_
          intro v293
          refine VL.va (op_bytesStr_own (xs := (l265 ++ ([IntKind.u8.wrap i262] : List Int))) 1 rfl rfl Try.underlying29 Try.underlying9 Try.underlying5 rfl rfl (ltn rfl)) rfl ?_
          refine VL.va (op_assign rfl (ltn rfl)) rfl ?_
          refine VL.va (op_assign rfl (ltn rfl)) rfl ?_
          refine VL.done ?_
          refine VN.then ?_
          refine VC.ret ?_
          simp only [Option.some.injEq, Prod.mk.injEq] at h
          obtain ⟨rfl, rfl⟩ := h
          exact VR.fn (rs := [.tmp 2, .tmp 3]) [] [] [] rfl (.tmp rfl (.tmp rfl .nil)) ⟨rfl, rfl, rfl⟩ trivial rfl (by decide)
        · rw [if_neg c292] at h; cases h
  · rw [if_neg c138] at h
    obtain rfl := Bool.eq_false_iff.2 c138
    refine VL.va (op_not rfl rfl (ltn rfl)) rfl ?_
    refine VL.done ?_
    refine VN.then ?_
    refine VC.cond_t rfl ?_
    refine VC.seq ?_
    refine VC.region ?_
    refine VL.va (op_assign rfl (ltn rfl)) rfl ?_
    refine VL.va (op_assign rfl (ltn rfl)) rfl ?_
    refine VL.done ?_
    refine VN.then ?_
    refine VC.ret ?_
    refine VR.then ?_
    simp only [Option.some.injEq, Prod.mk.injEq] at h
    obtain ⟨rfl, rfl⟩ := h
    exact VR.fn (rs := [.tmp 2, .tmp 3]) [] [] [] rfl (.tmp rfl (.tmp rfl .nil)) ⟨rfl, rfl, rfl⟩ trivial rfl (by decide)
set_option maxHeartbeats 4000000 in
set_option maxRecDepth 100000 in
theorem check_Table.ok (k : Nat)   (r1 : List Int) (h : check_Table.f k = some r1) :
    VCalls Try.prog 31 [] [] (fun v G own => v = .agg (ints .u32 r1).toArray ∧ G = [] ∧ own = []) := by
  refine VCalls.intro Try.func31 rfl (len rfl) fun E hC hW hD => ?_
  unfold check_Table.f at h
  refine VC.seq ?_
  refine VC.region ?_
  refine VL.sG (o_alloc Z56 ZL56 (ltn rfl)) rfl ?_
  intro g299
  refine VL.done ?_
  refine VN.then ?_
  refine VC.seq ?_
  refine VC.region ?_
  refine VL.sG (o_alloc Z56 ZL56 (ltn rfl)) rfl ?_
  intro g300
  refine VL.done ?_
  refine VN.then ?_
  refine VC.seq ?_
  refine VC.seq ?_
  refine VC.region ?_
  refine VL.va (op_move rfl (ltn rfl)) rfl ?_
  refine VL.done ?_
  refine VN.then ?_
  refine VC.block ?_
  refine VC.loop2 (fun (i669 : Int) (l670 : List Int) => ⟨25, [(0, .pointer (some ⟨g299, 0, none⟩)), (1, .pointer (some ⟨g300, 0, none⟩)), (5, .int .u32 i669)], [], [(g300, 56, ints .u32 l670), (g299, 56, ints .u32 (List.replicate 256 (0 : Int)))], []⟩) (fun (ml5 : Nat) (i669 : Int) (l670 : List Int) => check_Table.l5 k ml5 i669 l670 = some r1) k 0 (List.replicate 256 (0 : Int)) [0, 1] [] h ⟨rfl, ⟨rfl, rfl, rfl, trivial⟩, trivial, rfl, by decide, rfl, by decide⟩ (by intros; simp [check_Table.l5]) ?_
  clear h
  intro ml5 ihl5 i669 l670 h
  simp only [check_Table.l5] at h
  refine VC.seq ?_
  refine VC.region ?_
  refine VL.letter (decide (i669 < 256)) fun b766 hb766 => ?_
  refine VL.va (op_cmp rfl rfl (congrArg some hb766) (ltn rfl)) rfl ?_
  refine VL.done ?_
  refine VN.then ?_
  refine VC.seq ?_
  by_cases c770 : i669 < 256
  · rw [if_pos c770] at h
    obtain rfl : b766 = true := hb766.symm.trans (decide_eq_true c770)
    refine VC.cond_t rfl ?_
    refine VC.skip ?_
    refine VN.then ?_
    refine VC.seq ?_
    refine VC.block ?_
    refine VC.seq ?_
    refine VC.region ?_
    refine VL.va (op_move rfl (ltn rfl)) rfl ?_
    refine VL.va (op_assign rfl (ltn rfl)) rfl ?_
    refine VL.done ?_
    refine VN.then ?_
    refine VC.seq ?_
    refine VC.region ?_
    refine VL.va (op_move rfl (ltn rfl)) rfl ?_
    refine VL.va (op_assign rfl (ltn rfl)) rfl ?_
    refine VL.done ?_
    refine VN.then ?_
    refine VC.seq ?_
    refine VC.seq ?_
    refine VC.region ?_
    refine VL.va (op_move rfl (ltn rfl)) rfl ?_
    refine VL.done ?_
    refine VN.then ?_
    refine VC.block ?_
    refine VC.loop2 (fun (i841 : Int) (i842 : Int) => ⟨25, [(0, .pointer (some ⟨g299, 0, none⟩)), (1, .pointer (some ⟨g300, 0, none⟩)), (2, .int .u32 i669), (3, .int .u32 i841), (5, .int .u32 i669), (6, .bool true), (7, .int .u32 i669), (8, .int .u32 i669), (9, .int .i64 i842)], [], [(g300, 56, ints .u32 l670), (g299, 56, ints .u32 (List.replicate 256 (0 : Int)))], []⟩) (fun (ml9 : Nat) (i841 : Int) (i842 : Int) => check_Table.l9 k (check_Table.l5 k ml5) i669 l670 ml9 i841 i842 = some r1) k i669 0 [0, 1] [] h ⟨rfl, ⟨rfl, rfl, rfl, rfl, rfl, rfl, rfl, rfl, rfl, trivial⟩, trivial, rfl, by decide, rfl, by decide⟩ (by intros; simp [check_Table.l9]) ?_
    clear h
    intro ml9 ihl9 i841 i842 h
    simp only [check_Table.l9] at h
    refine VC.seq ?_
    refine VC.region ?_
    refine VL.letter (decide (i842 < 8)) fun b850 hb850 => ?_
    refine VL.va (op_cmp rfl rfl (congrArg some hb850) (ltn rfl)) rfl ?_
    refine VL.done ?_
    refine VN.then ?_
    refine VC.seq ?_
    by_cases c855 : i842 < 8
    · rw [if_pos c855] at h
      obtain rfl : b850 = true := hb850.symm.trans (decide_eq_true c855)
      refine VC.cond_t rfl ?_
      refine VC.skip ?_
      refine VN.then ?_
      refine VC.seq ?_
      refine VC.block ?_
      refine VC.seq ?_
      refine VC.region ?_
      refine VL.va (op_move rfl (ltn rfl)) rfl ?_
      refine VL.va (op_bits rfl rfl rfl (ltn rfl)) rfl ?_
      refine VL.va (op_assign rfl (ltn rfl)) rfl ?_
      refine VL.done ?_
      refine VN.then ?_
      refine VC.seq ?_
      refine VC.region ?_
      refine VL.va (op_move rfl (ltn rfl)) rfl ?_
      refine VL.va (op_shr rfl rfl (by decide) rfl (ltn rfl)) rfl ?_
      refine VL.va (op_assign rfl (ltn rfl)) rfl ?_
      refine VL.done ?_
      refine VN.then ?_
      refine VC.seq ?_
      refine VC.region ?_
      refine VL.va (op_move rfl (ltn rfl)) rfl ?_
      refine VL.letter (((Go.bits .and .u32 i841 1) == 1)) fun b858 hb858 => ?_
      refine VL.va (op_cmp rfl rfl (congrArg some hb858) (ltn rfl)) rfl ?_
      refine VL.done ?_
      refine VN.then ?_
      by_cases c859 : (Go.bits .and .u32 i841 1) = 1
      · rw [if_pos c859] at h
        obtain rfl : b858 = true := hb858.symm.trans (beq_iff_eq.2 c859)
        refine VC.cond_t rfl ?_
        refine VC.region ?_
        refine VL.va (op_move rfl (ltn rfl)) rfl ?_
        refine VL.va (op_bits rfl rfl rfl (ltn rfl)) rfl ?_
        refine VL.va (op_assign rfl (ltn rfl)) rfl ?_
        refine VL.done ?_
        refine VN.block ?_
        refine VN.then ?_
        refine VC.region ?_
        refine VL.va (op_ari64 rfl rfl rfl (ltn rfl)) rfl ?_
        refine VL.va (op_move rfl (ltn rfl)) rfl ?_
        refine VL.done ?_
        refine VN.again [0, 1] [] (ihl9 (Go.bits .xor .u32 (i841.fdiv (2 ^ min (1 : Int).toNat IntKind.u32.bits)) 2197175160) (wrap64 (i842 + 1)) h) ⟨rfl, ⟨rfl, rfl, rfl, rfl, rfl, rfl, rfl, rfl, rfl, trivial⟩, trivial, rfl, by decide, rfl, by decide⟩
      · rw [if_neg c859] at h
        obtain rfl : b858 = false := hb858.symm.trans (beq_eq_false_iff_ne.2 c859)
        refine VC.cond_f rfl ?_
        refine VC.skip ?_
        refine VN.block ?_
        refine VN.then ?_
        refine VC.region ?_
        refine VL.va (op_ari64 rfl rfl rfl (ltn rfl)) rfl ?_
        refine VL.va (op_move rfl (ltn rfl)) rfl ?_
        refine VL.done ?_
        refine VN.again [0, 1] [] (ihl9 (i841.fdiv (2 ^ min (1 : Int).toNat IntKind.u32.bits)) (wrap64 (i842 + 1)) h) ⟨rfl, ⟨rfl, rfl, rfl, rfl, rfl, rfl, rfl, rfl, rfl, trivial⟩, trivial, rfl, by decide, rfl, by decide⟩
    · rw [if_neg c855] at h
      obtain rfl : b850 = false := hb850.symm.trans (decide_eq_false c855)
      refine VC.cond_f rfl ?_
      refine VC.exit ?_
      refine VX.then ?_
      refine VX.then ?_
      refine VX.hit ?_
      refine VN.then ?_
      refine VC.region ?_
      refine VL.va (op_move rfl (ltn rfl)) rfl ?_
      refine VL.va (op_move rfl (ltn rfl)) rfl ?_
      by_cases c860 : 0 ≤ i669
      · rw [if_pos c860] at h
        by_cases c861 : i669 < 256
        · rw [if_pos c861] at h
          refine VL.va (op_indexAddrA Try.underlying56 TI23 rfl rfl c860 c861 (ltn rfl)) rfl ?_
          by_cases c862 : i669.toNat < l670.length
          · rw [if_pos c862] at h
            refine VL.step1 (o_storeE 0 rfl rfl rfl TI23 c862) rfl ?_
            refine VL.done ?_
            refine VN.block ?_
            refine VN.then ?_
            refine VC.region ?_
            refine VL.va (op_ari rfl rfl rfl (ltn rfl)) rfl ?_
            refine VL.va (op_move rfl (ltn rfl)) rfl ?_
            refine VL.done ?_
            refine VN.again [0, 1] [] (ihl5 (IntKind.u32.wrap (i669 + 1)) (l670.set i669.toNat i841) h) ⟨rfl, ⟨rfl, rfl, rfl, trivial⟩, trivial, rfl, by decide, rfl, by decide⟩
          · rw [if_neg c862] at h; cases h
        · rw [if_neg c861] at h; cases h
      · rw [if_neg c860] at h; cases h
  · rw [if_neg c770] at h
    obtain rfl : b766 = false := hb766.symm.trans (decide_eq_false c770)
    refine VC.cond_f rfl ?_
    refine VC.exit ?_
    refine VX.then ?_
    refine VX.then ?_
    refine VX.hit ?_
    refine VN.then ?_
    refine VC.seq ?_
    refine VC.region ?_
    by_cases c863 : l670.length = 256
    · rw [if_pos c863] at h
      refine VL.va (op_loadA 0 rfl rfl TI56 c863 (ltn rfl)) rfl ?_
      by_cases c864 : (List.replicate 256 (0 : Int)).length = 256
      · rw [if_pos c864] at h
        refine VL.step1 (o_storeA 1 rfl rfl rfl TI56 c863 c864) rfl ?_
        refine VL.done ?_
        refine VN.then ?_
        refine VC.ret ?_
        obtain rfl := Option.some.inj h
        exact VR.fn (rs := [.cell 0 56]) [] [] [] rfl (.cellA 1 rfl rfl TI56 c863 .nil) ⟨rfl, rfl, rfl⟩ trivial rfl (by decide)
      · rw [if_neg c864] at h; cases h
    · rw [if_neg c863] at h; cases h
set_option maxHeartbeats 4000000 in
set_option maxRecDepth 100000 in
theorem check_On.ok (k : Nat) (a0 : Int) (a1 : ByteArray)  (r1 : Int) (h : check_On.f k a0 a1 = some r1) :
    VCalls Try.prog 26 [.int .u32 a0, .string a1] [] (fun v G own => v = .int .u32 r1 ∧ G = [] ∧ own = []) := by
  refine VCalls.intro Try.func26 rfl (len rfl) fun E hC hW hD => ?_
  unfold check_On.f at h
  refine VC.seq ?_
  refine VC.region ?_
  refine VL.va (op_assign rfl (ltn rfl)) rfl ?_
  refine VL.done ?_
  refine VN.then ?_
  refine VC.seq ?_
  refine VC.region ?_
  replace h := Option.bind_eq_some_iff.1 h
  obtain ⟨r865, hA866, h⟩ := h
  refine VL.sC (o_call0 FO31 (check_Table.ok k r865 hA866) rfl rfl (ltn rfl) (All_of .nil)) rfl ?_
  rintro _ _ _ ⟨rfl, rfl, rfl⟩
  refine VL.sG (o_alloc Z56 ZL56 (ltn rfl)) rfl ?_
  intro g867
  by_cases c868 : r865.length = 256
  · rw [if_pos c868] at h
    by_cases c869 : (List.replicate 256 (0 : Int)).length = 256
    · rw [if_pos c869] at h
      refine VL.step1 (o_storeA 0 rfl rfl rfl TI56 c868 c869) rfl ?_
      refine VL.done ?_
      refine VN.then ?_
      refine VC.seq ?_
      refine VC.region ?_
      refine VL.va (op_move rfl (ltn rfl)) rfl ?_
      refine VL.va (op_bits rfl rfl rfl (ltn rfl)) rfl ?_
      refine VL.va (op_assign rfl (ltn rfl)) rfl ?_
      refine VL.done ?_
      refine VN.then ?_
      refine VC.seq ?_
      refine VC.seq ?_
      refine VC.region ?_
      refine VL.va (op_move rfl (ltn rfl)) rfl ?_
      refine VL.va (op_lens Try.underlying9 rfl (ltn rfl)) rfl ?_
      refine VL.va (op_move rfl (ltn rfl)) rfl ?_
      refine VL.done ?_
      refine VN.then ?_
      refine VC.block ?_
      refine VC.loop2 (fun (i902 : Int) (i903 : Int) => ⟨29, [(0, .int .u32 i902), (1, .string a1), (4, .int .u32 0), (5, .pointer (some ⟨g867, 0, none⟩)), (11, .int .i64 (a1.size : Int)), (12, .int .i64 i903)], [], [(g867, 56, ints .u32 r865)], []⟩) (fun (ml1 : Nat) (i902 : Int) (i903 : Int) => check_On.l1 k a1 r865 ml1 i902 i903 = some r1) k (Go.bits .xor .u32 a0 4294967295) 0 [0] [] h ⟨rfl, ⟨rfl, rfl, rfl, rfl, rfl, rfl, trivial⟩, trivial, rfl, by decide, rfl, by decide⟩ (by intros; simp [check_On.l1]) ?_
      clear h
      intro ml1 ihl1 i902 i903 h
      simp only [check_On.l1] at h
      refine VC.seq ?_
      refine VC.region ?_
      refine VL.letter (decide (i903 < (a1.size : Int))) fun b912 hb912 => ?_
      refine VL.va (op_cmp rfl rfl (congrArg some hb912) (ltn rfl)) rfl ?_
      refine VL.done ?_
      refine VN.then ?_
      refine VC.seq ?_
      by_cases c914 : i903 < (a1.size : Int)
      · rw [if_pos c914] at h
        obtain rfl : b912 = true := hb912.symm.trans (decide_eq_true c914)
        refine VC.cond_t rfl ?_
        refine VC.skip ?_
        refine VN.then ?_
        refine VC.seq ?_
        refine VC.block ?_
        refine VC.seq ?_
        refine VC.region ?_
        refine VL.va (op_move rfl (ltn rfl)) rfl ?_
        refine VL.va (op_assign rfl (ltn rfl)) rfl ?_
        refine VL.done ?_
        refine VN.then ?_
        refine VC.region ?_
        refine VL.va (op_move rfl (ltn rfl)) rfl ?_
        refine VL.va (op_shr rfl rfl (by decide) rfl (ltn rfl)) rfl ?_
        refine VL.va (op_move rfl (ltn rfl)) rfl ?_
        refine VL.va (op_conv Try.underlying23 Try.underlying5 rfl rfl (ltn rfl)) rfl ?_
        refine VL.va (op_move rfl (ltn rfl)) rfl ?_
        refine VL.va (op_move rfl (ltn rfl)) rfl ?_
        by_cases c915 : 0 ≤ i903
        · rw [if_pos c915] at h
          by_cases c916 : i903 < (a1.size : Int)
          · rw [if_pos c916] at h
            refine VL.va (op_indexS Try.underlying9 rfl rfl c915 c916 rfl (ltn rfl)) rfl ?_
            refine VL.va (op_bits rfl rfl rfl (ltn rfl)) rfl ?_
            by_cases c917 : 0 ≤ Go.bits .xor .u8 (IntKind.u8.wrap i902) (bt a1 i903)
            · rw [if_pos c917] at h
              by_cases c918 : (Go.bits .xor .u8 (IntKind.u8.wrap i902) (bt a1 i903)) < 256
              · rw [if_pos c918] at h
                refine VL.va (op_indexAddrA Try.underlying56 TI23 rfl rfl c917 c918 (ltn rfl)) rfl ?_
                replace h := Option.bind_eq_some_iff.1 h
                obtain ⟨t919, ht919, h⟩ := h
                refine VL.va (op_loadE 0 rfl rfl TI23 ht919 (ltn rfl)) rfl ?_
                refine VL.va (op_bits rfl rfl rfl (ltn rfl)) rfl ?_
                refine VL.va (op_assign rfl (ltn rfl)) rfl ?_
                refine VL.done ?_
                refine VN.block ?_
                refine VN.then ?_
                refine VC.region ?_
                refine VL.va (op_ari64 rfl rfl rfl (ltn rfl)) rfl ?_
                refine VL.va (op_move rfl (ltn rfl)) rfl ?_
                refine VL.done ?_
                refine VN.again [0] [] (ihl1 (Go.bits .xor .u32 (i902.fdiv (2 ^ min (8 : Int).toNat IntKind.u32.bits)) t919) (wrap64 (i903 + 1)) h) ⟨rfl, ⟨rfl, rfl, rfl, rfl, rfl, rfl, trivial⟩, trivial, rfl, by decide, rfl, by decide⟩
              · rw [if_neg c918] at h; cases h
            · rw [if_neg c917] at h; cases h
          · rw [if_neg c916] at h; cases h
        · rw [if_neg c915] at h; cases h
      · rw [if_neg c914] at h
        obtain rfl : b912 = false := hb912.symm.trans (decide_eq_false c914)
        refine VC.cond_f rfl ?_
        refine VC.exit ?_
        refine VX.then ?_
        refine VX.then ?_
        refine VX.hit ?_
        refine VN.then ?_
        refine VC.seq ?_
        refine VC.region ?_
        refine VL.va (op_move rfl (ltn rfl)) rfl ?_
        refine VL.va (op_bits rfl rfl rfl (ltn rfl)) rfl ?_
        refine VL.va (op_assign rfl (ltn rfl)) rfl ?_
        refine VL.done ?_
        refine VN.then ?_
        refine VC.ret ?_
        obtain rfl := Option.some.inj h
        exact VR.fn (rs := [.tmp 4]) [] [] [] rfl (.tmp rfl .nil) ⟨rfl, rfl, rfl⟩ trivial rfl (by decide)
    · rw [if_neg c869] at h; cases h
  · rw [if_neg c868] at h; cases h
set_option maxHeartbeats 4000000 in
set_option maxRecDepth 100000 in
theorem check_Of.ok (k : Nat) (a0 : ByteArray)  (r1 : Int) (h : check_Of.f k a0 = some r1) :
    VCalls Try.prog 18 [.string a0] [] (fun v G own => v = .int .u32 r1 ∧ G = [] ∧ own = []) := by
  refine VCalls.intro Try.func18 rfl (len rfl) fun E hC hW hD => ?_
  unfold check_Of.f at h
  refine VC.seq ?_
  refine VC.region ?_
  refine VL.va (op_assign rfl (ltn rfl)) rfl ?_
  refine VL.done ?_
  refine VN.then ?_
  refine VC.seq ?_
  refine VC.region ?_
  refine VL.va (op_move rfl (ltn rfl)) rfl ?_
  replace h := Option.bind_eq_some_iff.1 h
  obtain ⟨t920, hA921, h⟩ := h
  refine VL.sC (o_call0 FO26 (check_On.ok k 0 a0 t920 hA921) rfl rfl (ltn rfl) (All_of .nil)) rfl ?_
  rintro _ _ _ ⟨rfl, rfl, rfl⟩
  refine VL.va (op_assign rfl (ltn rfl)) rfl ?_
  refine VL.done ?_
  refine VN.then ?_
  refine VC.ret ?_
  obtain rfl := Option.some.inj h
  exact VR.fn (rs := [.tmp 2]) [] [] [] rfl (.tmp rfl .nil) ⟨rfl, rfl, rfl⟩ trivial rfl (by decide)
set_option maxHeartbeats 4000000 in
set_option maxRecDepth 100000 in
theorem check_Bytes.ok (k : Nat) (a0 : Int)  (r1 : ByteArray) (h : check_Bytes.f k a0 = some r1) :
    VCalls Try.prog 17 [.int .u32 a0] [] (fun v G own => v = .string r1 ∧ G = [] ∧ own = []) := by
  refine VCalls.intro Try.func17 rfl (len rfl) fun E hC hW hD => ?_
  unfold check_Bytes.f at h
  refine VC.seq ?_
  refine VC.region ?_
  refine VL.va (op_assign rfl (ltn rfl)) rfl ?_
  refine VL.done ?_
  refine VN.then ?_
  refine VC.seq ?_
  refine VC.region ?_
  refine VL.sG (o_alloc Z52 ZL52 (ltn rfl)) rfl ?_
  intro g924
  refine VL.done ?_
  refine VN.then ?_
  refine VC.seq ?_
  refine VC.seq ?_
  refine VC.region ?_
  refine VL.va (op_move rfl (ltn rfl)) rfl ?_
  refine VL.done ?_
  refine VN.then ?_
  refine VC.block ?_
  refine VC.loop2 (fun (i947 : Int) (l948 : List Int) => ⟨18, [(0, .int .u32 a0), (2, .string (⟨#[]⟩ : ByteArray)), (3, .pointer (some ⟨g924, 0, none⟩)), (5, .int .i64 i947)], [], [(g924, 52, ints .u8 l948)], []⟩) (fun (ml1 : Nat) (i947 : Int) (l948 : List Int) => check_Bytes.l1 k a0 ml1 i947 l948 = some r1) k 0 (List.replicate 4 (0 : Int)) [0] [] h ⟨rfl, ⟨rfl, rfl, rfl, rfl, trivial⟩, trivial, rfl, by decide, rfl, by decide⟩ (by intros; simp [check_Bytes.l1]) ?_
  clear h
  intro ml1 ihl1 i947 l948 h
  simp only [check_Bytes.l1] at h
  refine VC.seq ?_
  refine VC.region ?_
  refine VL.letter (decide (i947 < 4)) fun b956 hb956 => ?_
  refine VL.va (op_cmp rfl rfl (congrArg some hb956) (ltn rfl)) rfl ?_
  refine VL.done ?_
  refine VN.then ?_
  refine VC.seq ?_
  by_cases c961 : i947 < 4
  · rw [if_pos c961] at h
    obtain rfl : b956 = true := hb956.symm.trans (decide_eq_true c961)
    refine VC.cond_t rfl ?_
    refine VC.skip ?_
    refine VN.then ?_
    refine VC.seq ?_
    refine VC.block ?_
    refine VC.seq ?_
    refine VC.region ?_
    refine VL.va (op_move rfl (ltn rfl)) rfl ?_
    refine VL.va (op_assign rfl (ltn rfl)) rfl ?_
    refine VL.done ?_
    refine VN.then ?_
    refine VC.region ?_
    refine VL.va (op_move rfl (ltn rfl)) rfl ?_
    refine VL.va (op_move rfl (ltn rfl)) rfl ?_
    refine VL.va (op_move rfl (ltn rfl)) rfl ?_
    refine VL.va (op_ari64 rfl rfl rfl (ltn rfl)) rfl ?_
    by_cases c962 : 0 ≤ wrap64 (8 * i947)
    · rw [if_pos c962] at h
      refine VL.va (op_shr rfl rfl c962 rfl (ltn rfl)) rfl ?_
      refine VL.va (op_conv Try.underlying23 Try.underlying5 rfl rfl (ltn rfl)) rfl ?_
      by_cases c963 : 0 ≤ i947
      · rw [if_pos c963] at h
        by_cases c964 : i947 < 4
        · rw [if_pos c964] at h
          refine VL.va (op_indexAddrA Try.underlying52 TI5 rfl rfl c963 c964 (ltn rfl)) rfl ?_
          by_cases c965 : i947.toNat < l948.length
          · rw [if_pos c965] at h
            refine VL.step1 (o_storeE 0 rfl rfl rfl TI5 c965) rfl ?_
            refine VL.done ?_
            refine VN.block ?_
            refine VN.then ?_
            refine VC.region ?_
            refine VL.va (op_ari64 rfl rfl rfl (ltn rfl)) rfl ?_
            refine VL.va (op_move rfl (ltn rfl)) rfl ?_
            refine VL.done ?_
            refine VN.again [0] [] (ihl1 (wrap64 (i947 + 1)) (l948.set i947.toNat (IntKind.u8.wrap (a0.fdiv (2 ^ min (wrap64 (8 * i947)).toNat IntKind.u32.bits)))) h) ⟨rfl, ⟨rfl, rfl, rfl, rfl, trivial⟩, trivial, rfl, by decide, rfl, by decide⟩
          · rw [if_neg c965] at h; cases h
        · rw [if_neg c964] at h; cases h
      · rw [if_neg c963] at h; cases h
    · rw [if_neg c962] at h; cases h
  · rw [if_neg c961] at h
    obtain rfl : b956 = false := hb956.symm.trans (decide_eq_false c961)
    refine VC.cond_f rfl ?_
    refine VC.exit ?_
    refine VX.then ?_
    refine VX.then ?_
    refine VX.hit ?_
    refine VN.then ?_
    refine VC.seq ?_
    refine VC.region ?_
    refine VL.freeze' 0 rfl ?_
    by_cases c966 : l948.length = 4
    · rw [if_pos c966] at h
      refine VL.sG (o_sliceA (es := List.map enc_intu8 l948) 0 Try.underlying52 TI5 rfl rfl c966 rfl (by decide) (ltn rfl)) rfl ?_
      intro v968
      refine VL.va (op_bytesStr (xs := l948) 0 rfl rfl Try.underlying29 Try.underlying9 Try.underlying5 rfl rfl (ltn rfl)) rfl ?_
      refine VL.va (op_assign rfl (ltn rfl)) rfl ?_
      refine VL.done ?_
      refine VN.then ?_
      refine VC.ret ?_
      obtain rfl := Option.some.inj h
      exact VR.fn (rs := [.tmp 2]) [] [] [] rfl (.tmp rfl .nil) ⟨rfl, rfl, rfl⟩ trivial rfl (by decide)
    · rw [if_neg c966] at h; cases h
set_option maxHeartbeats 4000000 in
set_option maxRecDepth 100000 in
theorem frame_Frame.ok (k : Nat) (a0 : ByteArray)  (r1 : ByteArray) (r2 : Int) (h : frame_Frame.f k a0 = some (r1, r2)) :
    VCalls Try.prog 8 [.string a0] [] (fun v G own => v = .tuple #[.string r1, .int .i64 r2] ∧ G = [] ∧ own = []) := by
  refine VCalls.intro Try.func8 rfl (len rfl) fun E hC hW hD => ?_
  unfold frame_Frame.f at h
  refine VC.seq ?_
  refine VC.region ?_
  refine VL.va (op_assign rfl (ltn rfl)) rfl ?_
  refine VL.va (op_assign rfl (ltn rfl)) rfl ?_
  refine VL.done ?_
  refine VN.then ?_
  refine VC.seq ?_
  refine VC.seq ?_
  refine VC.region ?_
  refine VL.va (op_move rfl (ltn rfl)) rfl ?_
  refine VL.va (op_lens Try.underlying9 rfl (ltn rfl)) rfl ?_
  refine VL.letter (decide ((a0.size : Int) > 4096)) fun b119 hb119 => ?_
  refine VL.va (op_cmp rfl rfl (congrArg some hb119) (ltn rfl)) rfl ?_
  refine VL.done ?_
  refine VN.then ?_
  by_cases c120 : (a0.size : Int) > 4096
  · rw [if_pos c120] at h
    obtain rfl : b119 = true := hb119.symm.trans (decide_eq_true c120)
    refine VC.cond_t rfl ?_
    refine VC.seq ?_
    refine VC.region ?_
    refine VL.va (op_assign rfl (ltn rfl)) rfl ?_
    refine VL.va (op_assign rfl (ltn rfl)) rfl ?_
    refine VL.done ?_
    refine VN.then ?_
    refine VC.ret ?_
    refine VR.then ?_
    simp only [Option.some.injEq, Prod.mk.injEq] at h
    obtain ⟨rfl, rfl⟩ := h
    exact VR.fn (rs := [.tmp 2, .tmp 3]) [] [] [] rfl (.tmp rfl (.tmp rfl .nil)) ⟨rfl, rfl, rfl⟩ trivial rfl (by decide)
  · rw [if_neg c120] at h
    obtain rfl : b119 = false := hb119.symm.trans (decide_eq_false c120)
    refine VC.cond_f rfl ?_
    refine VC.skip ?_
    refine VN.then ?_
    refine VC.seq ?_
    refine VC.region ?_
    refine VL.va (op_move rfl (ltn rfl)) rfl ?_
    refine VL.va (op_lens Try.underlying9 rfl (ltn rfl)) rfl ?_
    replace h := Option.bind_eq_some_iff.1 h
    obtain ⟨⟨t295, t296⟩, hA297, h⟩ := h
    dsimp only at h
    refine VL.sC (o_call0 FO16 (pack_Number.ok k (a0.size : Int) t295 t296 hA297) rfl rfl (ltn rfl) (All_of .nil)) rfl ?_
    rintro _ _ _ ⟨rfl, rfl, rfl⟩
    refine VL.va (op_move rfl (ltn rfl)) rfl ?_
    refine VL.va (op_extract rfl rfl (ltn rfl)) rfl ?_
    refine VL.va (op_extract rfl rfl (ltn rfl)) rfl ?_
    refine VL.va (op_assign rfl (ltn rfl)) rfl ?_
    refine VL.va (op_assign rfl (ltn rfl)) rfl ?_
    refine VL.done ?_
    refine VN.then ?_
    refine VC.seq ?_
    refine VC.region ?_
    refine VL.va (op_move rfl (ltn rfl)) rfl ?_
    refine VL.va (op_move rfl (ltn rfl)) rfl ?_
    by_cases c298 : t295.size + a0.size ≤ 9223372036854775807
    · rw [if_pos c298] at h
      refine VL.va (op_adds rfl rfl rfl c298 (ltn rfl)) rfl ?_
      refine VL.va (op_move rfl (ltn rfl)) rfl ?_
      replace h := Option.bind_eq_some_iff.1 h
      obtain ⟨t922, hA923, h⟩ := h
      refine VL.sC (o_call0 FO18 (check_Of.ok k a0 t922 hA923) rfl rfl (ltn rfl) (All_of .nil)) rfl ?_
      rintro _ _ _ ⟨rfl, rfl, rfl⟩
      replace h := Option.bind_eq_some_iff.1 h
      obtain ⟨t969, hA970, h⟩ := h
      refine VL.sC (o_call0 FO17 (check_Bytes.ok k t922 t969 hA970) rfl rfl (ltn rfl) (All_of .nil)) rfl ?_
      rintro _ _ _ ⟨rfl, rfl, rfl⟩
      by_cases c971 : (t295 ++ a0).size + t969.size ≤ 9223372036854775807
      · rw [if_pos c971] at h
        refine VL.va (op_adds rfl rfl rfl c971 (ltn rfl)) rfl ?_
        refine VL.va (op_assign rfl (ltn rfl)) rfl ?_
        refine VL.va (op_assign rfl (ltn rfl)) rfl ?_
        refine VL.done ?_
        refine VN.then ?_
        refine VC.ret ?_
        simp only [Option.some.injEq, Prod.mk.injEq] at h
        obtain ⟨rfl, rfl⟩ := h
        exact VR.fn (rs := [.tmp 2, .tmp 3]) [] [] [] rfl (.tmp rfl (.tmp rfl .nil)) ⟨rfl, rfl, rfl⟩ trivial rfl (by decide)
      · rw [if_neg c971] at h; cases h
    · rw [if_neg c298] at h; cases h

end Go.Proofs.Ytaolaicmfjdmhaa.PFrameBack
