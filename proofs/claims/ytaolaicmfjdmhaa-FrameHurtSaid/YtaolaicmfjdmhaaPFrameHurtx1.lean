/- Written by a program of this repo: what the program's functions do, each as a Lean function, shown of the loaded code; or a statement's row over that; no condition of its own. -/
import Derived.Test.YtaolaicmfjdmhaaPFrameHurtx0
namespace Go.Proofs.Ytaolaicmfjdmhaa.PFrameHurt
open Go Go.RowKit Go.Proofs.YtaolaicmfjdmhaaV
set_option linter.unusedVariables false
set_option linter.unusedSimpArgs false

set_option maxHeartbeats 4000000 in
set_option maxRecDepth 100000 in
theorem tarrylaw04_few.ok (k : Nat) (l0 : List ByteArray) (v0 : Value) (r1 : List ByteArray) (h : tarrylaw04_few.f k l0 = some r1) :
    VCalls Try.prog 6 [v0] [.row v0 1 (l0.map enc_str)] (fun v G own => ∃ w0 : Value, v = w0 ∧ G = [] ∧ own = [(w0, 9, 1, r1.map enc_str)]) := by
  refine VCalls.intro Try.func6 rfl (len rfl) fun E hC hW hD hU => ?_
  unfold tarrylaw04_few.f at h
  refine VC.seq ?_
  refine VC.region ?_
  refine VL.va (op_assign rfl (ltn rfl)) rfl ?_
  refine VL.done ?_
  refine VN.then ?_
  refine VC.seq ?_
  refine VC.region ?_
  refine VL.va (op_assign rfl (ltn rfl)) rfl ?_
  refine VL.done ?_
  refine VN.then ?_
  refine VC.seq ?_
  refine VC.seq ?_
  refine VC.region ?_
  refine VL.va (op_move rfl (ltn rfl)) rfl ?_
  refine VL.va (op_move rfl (ltn rfl)) rfl ?_
  refine VL.va (op_len (m := l0.length) 0 lenm Try.underlying22 rfl rfl (ltn rfl)) rfl ?_
  refine VL.va (op_min rfl rfl (ltn rfl)) rfl ?_
  by_cases c54 : 0 ≤ mn (l0.length : Int) 8
  · rw [if_pos c54] at h
    by_cases c55 : (mn (l0.length : Int) 8) ≤ (l0.length : Int)
    · rw [if_pos c55] at h
      refine VL.sG (o_slice (m := l0.length) 0 0 ((mn (l0.length : Int) 8).toNat) lenm cutm Try.underlying22 TI9 rfl rfl ⟨rfl, ⟨_, _, rfl, c54, rfl⟩, by omega, by omega⟩ (ltn rfl)) rfl ?_
      intro v57
      refine VL.va (op_len (m := ((l0.take ((mn (l0.length : Int) 8).toNat)).drop 0).length) 0 lenm Try.underlying22 rfl rfl (ltn rfl)) rfl ?_
      refine VL.va (op_move rfl (ltn rfl)) rfl ?_
      refine VL.done ?_
      refine VN.then ?_
      refine VC.block ?_
      refine VC.nilRow' 9 1 ?_
      refine VC.loop3 (fun (v73 : Value) (l74 : List ByteArray) (i76 : Int) => ⟨26, [(2, .slice none 0 0), (3, v73), (10, v57), (11, .int .i64 (((l0.take ((mn (l0.length : Int) 8).toNat)).drop 0).length : Int)), (12, .int .i64 i76)], [.row v57 1 (((l0.take ((mn (l0.length : Int) 8).toNat)).drop 0).map enc_str)], [], [(v73, 9, 1, l74.map enc_str)]⟩) (fun (ml1 : Nat) (v73 : Value) (l74 : List ByteArray) (i76 : Int) => tarrylaw04_few.l1 k l0 ml1 l74 i76 = some r1) k (.slice none 0 0) ([] : List ByteArray) 0 [] [0] h ⟨rfl, ⟨rfl, rfl, rfl, rfl, rfl, trivial⟩, ⟨⟨0, rfl⟩, trivial⟩, rfl, by decide, rfl, by decide⟩ (by intros; simp [tarrylaw04_few.l1]) ?_
      clear h
      intro ml1 ihl1 v73 l74 i76 h
      simp only [tarrylaw04_few.l1] at h
      refine VC.seq ?_
      refine VC.region ?_
      refine VL.letter (decide (i76 < (((l0.take ((mn (l0.length : Int) 8).toNat)).drop 0).length : Int))) fun b91 hb91 => ?_
      refine VL.va (op_cmp rfl rfl (congrArg some hb91) (ltn rfl)) rfl ?_
      refine VL.done ?_
      refine VN.then ?_
      refine VC.seq ?_
      by_cases c93 : i76 < (((l0.take ((mn (l0.length : Int) 8).toNat)).drop 0).length : Int)
      · rw [if_pos c93] at h
        obtain rfl : b91 = true := hb91.symm.trans (decide_eq_true c93)
        refine VC.cond_t rfl ?_
        refine VC.skip ?_
        refine VN.then ?_
        refine VC.seq ?_
        refine VC.block ?_
        refine VC.seq ?_
        refine VC.region ?_
        by_cases c94 : 0 ≤ i76
        · rw [if_pos c94] at h
          replace h := Option.bind_eq_some_iff.1 h
          obtain ⟨x95, hx95, h⟩ := h
          refine VL.open (m := ((l0.take ((mn (l0.length : Int) 8).toNat)).drop 0).length) 0 lenm rfl (pos_get hx95) ?_
          rintro ad96 n97 rfl
          refine VL.va (op_indexAddr Try.underlying22 TI9 rfl rfl c94 (lt_get c94 hx95) rfl (ltn rfl)) rfl ?_
          refine VL.va (op_load_row (sz := 1) (o := 0) 0 i76.toNat 1 rfl rfl (get_map hx95) TI9 rfl (by decide) (ltn rfl)) rfl ?_
          refine VL.va (op_assign rfl (ltn rfl)) rfl ?_
          refine VL.done ?_
          refine VN.then ?_
          refine VC.region ?_
          refine VL.va (op_move rfl (ltn rfl)) rfl ?_
          refine VL.va (op_move rfl (ltn rfl)) rfl ?_
          refine VL.va (op_move rfl (ltn rfl)) rfl ?_
          refine VL.va (op_lens Try.underlying9 rfl (ltn rfl)) rfl ?_
          refine VL.va (op_min rfl rfl (ltn rfl)) rfl ?_
          by_cases c98 : 0 ≤ mn (x95.size : Int) 100
          · rw [if_pos c98] at h
            by_cases c99 : (mn (x95.size : Int) 100) ≤ (x95.size : Int)
            · rw [if_pos c99] at h
              refine VL.va (op_sliceS 0 ((mn (x95.size : Int) 100).toNat) Try.underlying9 rfl ⟨rfl, ⟨_, _, rfl, c98, rfl⟩, by omega, by omega⟩ rfl (ltn rfl)) rfl ?_
              refine VL.sG (o_buildSlice (vals := [(0, .string (x95.extract 0 ((mn (x95.size : Int) 100).toNat)))]) (cells := #[.string (x95.extract 0 ((mn (x95.size : Int) 100).toNat))]) (es := List.map enc_str ([x95.extract 0 ((mn (x95.size : Int) 100).toNat)] : List ByteArray)) Try.underlying22 TI9 Z9 rfl (by decide) (by decide) (by kernel_rfl) (by kernel_rfl) rfl (flat_map enc_str_ok _) (ltn rfl)) rfl ?_
              intro v101
              by_cases c102 : (l74.length + ([x95.extract 0 ((mn (x95.size : Int) 100).toNat)] : List ByteArray).length) * 16 ≤ 140737488355328
              · rw [if_pos c102] at h
                refine VL.sG (o_append 1 appm Try.underlying22 EI9 rfl rfl rfl (.inr ⟨0, _, rfl⟩) (bndm c102) (ltn rfl)) rfl ?_
                intro v103
                refine VL.va (op_assign rfl (ltn rfl)) rfl ?_
                refine VL.done ?_
                refine VN.block ?_
                refine VN.then ?_
                refine VC.region ?_
                refine VL.va (op_ari64 rfl rfl rfl (ltn rfl)) rfl ?_
                refine VL.va (op_move rfl (ltn rfl)) rfl ?_
                refine VL.done ?_
                refine VN.again [] [1] (ihl1 v103 (l74 ++ ([x95.extract 0 ((mn (x95.size : Int) 100).toNat)] : List ByteArray)) (wrap64 (i76 + 1)) h) ⟨rfl, ⟨rfl, rfl, rfl, rfl, rfl, trivial⟩, ⟨⟨0, rfl⟩, trivial⟩, rfl, by decide, rfl, by decide⟩
              · rw [if_neg c102] at h; cases h
            · rw [if_neg c99] at h; cases h
          · rw [if_neg c98] at h; cases h
        · rw [if_neg c94] at h; cases h
      · rw [if_neg c93] at h
        obtain rfl : b91 = false := hb91.symm.trans (decide_eq_false c93)
        refine VC.cond_f rfl ?_
        refine VC.exit ?_
        refine VX.then ?_
        refine VX.then ?_
        refine VX.hit ?_
        refine VN.then ?_
        refine VC.seq ?_
        refine VC.region ?_
        refine VL.va (op_move rfl (ltn rfl)) rfl ?_
        refine VL.va (op_assign rfl (ltn rfl)) rfl ?_
        refine VL.done ?_
        refine VN.then ?_
        refine VC.ret ?_
        obtain rfl := Option.some.inj h
        exact VR.fn (rs := [.tmp 2]) [] [(v73, 9, 1, l74.map enc_str)] [0] rfl (.tmp rfl .nil) ⟨v73, rfl, rfl, rfl⟩ trivial rfl (by decide)
    · rw [if_neg c55] at h; cases h
  · rw [if_neg c54] at h; cases h
set_option maxHeartbeats 4000000 in
set_option maxRecDepth 100000 in
theorem pack_may.ok (a0 : Int)  (r1 : Bool) (h : pack_may.f a0 = some r1) :
    VCalls Try.prog 25 [.int .i64 a0] [] (fun v G own => v = .bool r1 ∧ G = [] ∧ own = []) := by
  refine VCalls.intro Try.func25 rfl (len rfl) fun E hC hW hD hU => ?_
  unfold pack_may.f at h
  refine VC.seq ?_
  refine VC.region ?_
  refine VL.va (op_assign rfl (ltn rfl)) rfl ?_
  refine VL.done ?_
  refine VN.then ?_
  refine VC.seq ?_
  refine VC.region ?_
  refine VL.va (op_move rfl (ltn rfl)) rfl ?_
  refine VL.letter (decide (a0 ≥ (-1152921504606846976))) fun b121 hb121 => ?_
  refine VL.va (op_cmp rfl rfl (congrArg some hb121) (ltn rfl)) rfl ?_
  refine VL.va (op_move rfl (ltn rfl)) rfl ?_
  by_cases c122 : a0 ≥ (-1152921504606846976)
  · rw [if_pos c122] at h
    obtain rfl : b121 = true := hb121.symm.trans (decide_eq_true c122)
    refine VL.va (op_move rfl (ltn rfl)) rfl ?_
    refine VL.letter (decide (a0 ≤ 1152921504606846976)) fun b123 hb123 => ?_
    refine VL.va (op_cmp rfl rfl (congrArg some hb123) (ltn rfl)) rfl ?_
    refine VL.va (op_pick rfl rfl (ltn rfl)) rfl ?_
    refine VL.va (op_assign rfl (ltn rfl)) rfl ?_
    refine VL.done ?_
    refine VN.then ?_
    refine VC.ret ?_
    obtain rfl := Option.some.inj h
    subst hb123
    exact VR.fn (rs := [.tmp 2]) [] [] [] rfl (.tmp rfl .nil) ⟨rfl, rfl, rfl⟩ trivial rfl (by decide)
  · rw [if_neg c122] at h
    obtain rfl : b121 = false := hb121.symm.trans (decide_eq_false c122)
    refine VL.un rfl rfl (ltn rfl) ?_
    refine VL.un rfl rfl (ltn rfl) ?_
    refine VL.va (op_pick rfl rfl (ltn rfl)) rfl ?_
    refine VL.va (op_assign rfl (ltn rfl)) rfl ?_
    refine VL.done ?_
    refine VN.then ?_
    refine VC.ret ?_
    obtain rfl := Option.some.inj h
    exact VR.fn (rs := [.tmp 2]) [] [] [] rfl (.tmp rfl .nil) ⟨rfl, rfl, rfl⟩ trivial rfl (by decide)
set_option maxHeartbeats 4000000 in
set_option maxRecDepth 100000 in
theorem pack_Number.ok (k : Nat) (a0 : Int)  (r1 : ByteArray) (r2 : Int) (h : pack_Number.f k a0 = some (r1, r2)) :
    VCalls Try.prog 16 [.int .i64 a0] [] (fun v G own => v = .tuple #[.string r1, .int .i64 r2] ∧ G = [] ∧ own = []) := by
  refine VCalls.intro Try.func16 rfl (len rfl) fun E hC hW hD hU => ?_
  unfold pack_Number.f at h
  refine VC.seq ?_
  refine VC.region ?_
  refine VL.va (op_assign rfl (ltn rfl)) rfl ?_
  refine VL.va (op_assign rfl (ltn rfl)) rfl ?_
  refine VL.done ?_
  refine VN.then ?_
  refine VC.seq ?_
  refine VC.seq ?_
  refine VC.region ?_
  refine VL.va (op_move rfl (ltn rfl)) rfl ?_
  replace h := Option.bind_eq_some_iff.1 h
  obtain ⟨t133, hA134, h⟩ := h
  refine VL.sC (o_call0 FO25 (pack_may.ok a0 t133 hA134) rfl rfl (ltn rfl) (All_of .nil)) rfl ?_
  rintro _ _ _ ⟨rfl, rfl, rfl⟩
  by_cases c135 : t133 = true
  · rw [if_pos c135] at h
    obtain rfl := c135
    refine VL.va (op_not rfl rfl (ltn rfl)) rfl ?_
    refine VL.done ?_
    refine VN.then ?_
    refine VC.cond_f rfl ?_
    refine VC.skip ?_
    refine VN.then ?_
    refine VC.seq ?_
    refine VC.region ?_
    refine VL.va (op_move rfl (ltn rfl)) rfl ?_
    refine VL.va (op_ari64 rfl rfl rfl (ltn rfl)) rfl ?_
    refine VL.va (op_assign rfl (ltn rfl)) rfl ?_
    refine VL.done ?_
    refine VN.then ?_
    refine VC.seq ?_
    refine VC.seq ?_
    refine VC.region ?_
    refine VL.va (op_move rfl (ltn rfl)) rfl ?_
    refine VL.letter (decide (a0 < 0)) fun b138 hb138 => ?_
    refine VL.va (op_cmp rfl rfl (congrArg some hb138) (ltn rfl)) rfl ?_
    refine VL.done ?_
    refine VN.then ?_
    by_cases c139 : a0 < 0
    · rw [if_pos c139] at h
      obtain rfl : b138 = true := hb138.symm.trans (decide_eq_true c139)
      refine VC.cond_t rfl ?_
      refine VC.region ?_
      refine VL.va (op_move rfl (ltn rfl)) rfl ?_
      refine VL.va (op_ari64 rfl rfl rfl (ltn rfl)) rfl ?_
      refine VL.va (op_ari64 rfl rfl rfl (ltn rfl)) rfl ?_
      refine VL.va (op_assign rfl (ltn rfl)) rfl ?_
      refine VL.done ?_
      refine VN.then ?_
      refine VC.seq ?_
      refine VC.region ?_
      refine VL.va (op_assign rfl (ltn rfl)) rfl ?_
      refine VL.done ?_
      refine VN.then ?_
      refine VC.seq ?_
      refine VC.block ?_
      refine VC.nilRow' 5 1 ?_
      refine VC.loop3 (fun (i183 : Int) (v185 : Value) (l186 : List Int) => ⟨33, [(2, .string (⟨#[]⟩ : ByteArray)), (3, .int .i64 0), (4, .int .i64 i183), (5, v185)], [], [], [(v185, 5, 1, l186.map enc_intu8)]⟩) (fun (ml1 : Nat) (i183 : Int) (v185 : Value) (l186 : List Int) => pack_Number.l1 k ml1 i183 l186 = some (r1, r2)) k (wrap64 ((wrap64 ((-2) * a0)) - 1)) (.slice none 0 0) ([] : List Int) [] [0] h ⟨rfl, ⟨rfl, rfl, rfl, rfl, trivial⟩, trivial, rfl, by decide, rfl, by decide⟩ (by intros; simp [pack_Number.l1]) ?_
      clear h
      intro ml1 ihl1 i183 v185 l186 h
      simp only [pack_Number.l1] at h
      refine VC.seq ?_
      refine VC.seq ?_
      refine VC.region ?_
      refine VL.va (op_move rfl (ltn rfl)) rfl ?_
      refine VL.letter (decide (i183 ≥ 128)) fun b204 hb204 => ?_
      refine VL.va (op_cmp rfl rfl (congrArg some hb204) (ltn rfl)) rfl ?_
      refine VL.done ?_
      refine VN.then ?_
      by_cases c205 : i183 ≥ 128
      · rw [if_pos c205] at h
        obtain rfl : b204 = true := hb204.symm.trans (decide_eq_true c205)
        refine VC.cond_t rfl ?_
        refine VC.skip ?_
        refine VN.then ?_
        refine VC.seq ?_
        refine VC.block ?_
        refine VC.region ?_
        refine VL.va (op_move rfl (ltn rfl)) rfl ?_
        refine VL.va (op_move rfl (ltn rfl)) rfl ?_
        refine VL.va (op_rem rfl rfl (by decide) rfl (ltn rfl)) rfl ?_
        refine VL.va (op_ari64 rfl rfl rfl (ltn rfl)) rfl ?_
        refine VL.va (op_conv Try.underlying3 Try.underlying5 rfl rfl (ltn rfl)) rfl ?_
        refine VL.sG (o_buildSlice (vals := [(0, .int .u8 (IntKind.u8.wrap (wrap64 ((i183.tmod 128) + 128))))]) (cells := #[.int .u8 (IntKind.u8.wrap (wrap64 ((i183.tmod 128) + 128)))]) (es := List.map enc_intu8 ([IntKind.u8.wrap (wrap64 ((i183.tmod 128) + 128))] : List Int)) Try.underlying29 TI5 Z5 rfl (by decide) (by decide) (by kernel_rfl) (by kernel_rfl) rfl (flat_map enc_intu8_ok _) (ltn rfl)) rfl ?_
        intro v207
        by_cases c208 : (l186.length + ([IntKind.u8.wrap (wrap64 ((i183.tmod 128) + 128))] : List Int).length) * 1 ≤ 140737488355328
        · rw [if_pos c208] at h
          refine VL.sG (o_append 1 appm Try.underlying29 EI5 rfl rfl rfl (.inr ⟨0, _, rfl⟩) (bndm c208) (ltn rfl)) rfl ?_
          intro v209
          refine VL.va (op_assign rfl (ltn rfl)) rfl ?_
          refine VL.done ?_
          refine VN.block ?_
          refine VN.then ?_
          refine VC.region ?_
          refine VL.va (op_move rfl (ltn rfl)) rfl ?_
          refine VL.va (op_quo rfl rfl (by decide) rfl (ltn rfl)) rfl ?_
          refine VL.va (op_assign rfl (ltn rfl)) rfl ?_
          refine VL.done ?_
          refine VN.again [] [1] (ihl1 (IntKind.i64.wrap (i183.tdiv 128)) v209 (l186 ++ ([IntKind.u8.wrap (wrap64 ((i183.tmod 128) + 128))] : List Int)) h) ⟨rfl, ⟨rfl, rfl, rfl, rfl, trivial⟩, trivial, rfl, by decide, rfl, by decide⟩
        · rw [if_neg c208] at h; cases h
      · rw [if_neg c205] at h
        obtain rfl : b204 = false := hb204.symm.trans (decide_eq_false c205)
        refine VC.cond_f rfl ?_
        refine VC.exit ?_
        refine VX.then ?_
        refine VX.then ?_
        refine VX.hit ?_
        refine VN.then ?_
        refine VC.seq ?_
        refine VC.region ?_
        refine VL.va (op_move rfl (ltn rfl)) rfl ?_
        refine VL.va (op_move rfl (ltn rfl)) rfl ?_
        refine VL.va (op_conv Try.underlying3 Try.underlying5 rfl rfl (ltn rfl)) rfl ?_
        refine VL.sG (o_buildSlice (vals := [(0, .int .u8 (IntKind.u8.wrap i183))]) (cells := #[.int .u8 (IntKind.u8.wrap i183)]) (es := List.map enc_intu8 ([IntKind.u8.wrap i183] : List Int)) Try.underlying29 TI5 Z5 rfl (by decide) (by decide) (by kernel_rfl) (by kernel_rfl) rfl (flat_map enc_intu8_ok _) (ltn rfl)) rfl ?_
        intro v212
        by_cases c213 : (l186.length + ([IntKind.u8.wrap i183] : List Int).length) * 1 ≤ 140737488355328
        · rw [if_pos c213] at h
          refine VL.sG (o_append 1 appm Try.underlying29 EI5 rfl rfl rfl (.inr ⟨0, _, rfl⟩) (bndm c213) (ltn rfl)) rfl ?_
          intro v214
          refine VL.va (op_bytesStr_own (xs := (l186 ++ ([IntKind.u8.wrap i183] : List Int))) 1 rfl rfl Try.underlying29 Try.underlying9 Try.underlying5 rfl rfl (ltn rfl)) rfl ?_
          refine VL.va (op_assign rfl (ltn rfl)) rfl ?_
          refine VL.va (op_assign rfl (ltn rfl)) rfl ?_
          refine VL.done ?_
          refine VN.then ?_
          refine VC.ret ?_
          simp only [Option.some.injEq, Prod.mk.injEq] at h
          obtain ⟨rfl, rfl⟩ := h
          exact VR.fn (rs := [.tmp 2, .tmp 3]) [] [] [] rfl (.tmp rfl (.tmp rfl .nil)) ⟨rfl, rfl, rfl⟩ trivial rfl (by decide)
        · rw [if_neg c213] at h; cases h
    · rw [if_neg c139] at h
      obtain rfl : b138 = false := hb138.symm.trans (decide_eq_false c139)
      refine VC.cond_f rfl ?_
      refine VC.skip ?_
      refine VN.then ?_
      refine VC.seq ?_
      refine VC.region ?_
      refine VL.va (op_assign rfl (ltn rfl)) rfl ?_
      refine VL.done ?_
      refine VN.then ?_
      refine VC.seq ?_
      refine VC.block ?_
      refine VC.nilRow' 5 1 ?_
      refine VC.loop3 (fun (i259 : Int) (v261 : Value) (l262 : List Int) => ⟨33, [(2, .string (⟨#[]⟩ : ByteArray)), (3, .int .i64 0), (4, .int .i64 i259), (5, v261)], [], [], [(v261, 5, 1, l262.map enc_intu8)]⟩) (fun (ml3 : Nat) (i259 : Int) (v261 : Value) (l262 : List Int) => pack_Number.l3 k ml3 i259 l262 = some (r1, r2)) k (wrap64 (2 * a0)) (.slice none 0 0) ([] : List Int) [] [0] h ⟨rfl, ⟨rfl, rfl, rfl, rfl, trivial⟩, trivial, rfl, by decide, rfl, by decide⟩ (by intros; simp [pack_Number.l3]) ?_
      clear h
      intro ml3 ihl3 i259 v261 l262 h
      simp only [pack_Number.l3] at h
      refine VC.seq ?_
      refine VC.seq ?_
      refine VC.region ?_
      refine VL.va (op_move rfl (ltn rfl)) rfl ?_
      refine VL.letter (decide (i259 ≥ 128)) fun b280 hb280 => ?_
      refine VL.va (op_cmp rfl rfl (congrArg some hb280) (ltn rfl)) rfl ?_
      refine VL.done ?_
      refine VN.then ?_
      by_cases c281 : i259 ≥ 128
      · rw [if_pos c281] at h
        obtain rfl : b280 = true := hb280.symm.trans (decide_eq_true c281)
        refine VC.cond_t rfl ?_
        refine VC.skip ?_
        refine VN.then ?_
        refine VC.seq ?_
        refine VC.block ?_
        refine VC.region ?_
        refine VL.va (op_move rfl (ltn rfl)) rfl ?_
        refine VL.va (op_move rfl (ltn rfl)) rfl ?_
        refine VL.va (op_rem rfl rfl (by decide) rfl (ltn rfl)) rfl ?_
        refine VL.va (op_ari64 rfl rfl rfl (ltn rfl)) rfl ?_
        refine VL.va (op_conv Try.underlying3 Try.underlying5 rfl rfl (ltn rfl)) rfl ?_
        refine VL.sG (o_buildSlice (vals := [(0, .int .u8 (IntKind.u8.wrap (wrap64 ((i259.tmod 128) + 128))))]) (cells := #[.int .u8 (IntKind.u8.wrap (wrap64 ((i259.tmod 128) + 128)))]) (es := List.map enc_intu8 ([IntKind.u8.wrap (wrap64 ((i259.tmod 128) + 128))] : List Int)) Try.underlying29 TI5 Z5 rfl (by decide) (by decide) (by kernel_rfl) (by kernel_rfl) rfl (flat_map enc_intu8_ok _) (ltn rfl)) rfl ?_
        intro v283
        by_cases c284 : (l262.length + ([IntKind.u8.wrap (wrap64 ((i259.tmod 128) + 128))] : List Int).length) * 1 ≤ 140737488355328
        · rw [if_pos c284] at h
          refine VL.sG (o_append 1 appm Try.underlying29 EI5 rfl rfl rfl (.inr ⟨0, _, rfl⟩) (bndm c284) (ltn rfl)) rfl ?_
          intro v285
          refine VL.va (op_assign rfl (ltn rfl)) rfl ?_
          refine VL.done ?_
          refine VN.block ?_
          refine VN.then ?_
          refine VC.region ?_
          refine VL.va (op_move rfl (ltn rfl)) rfl ?_
          refine VL.va (op_quo rfl rfl (by decide) rfl (ltn rfl)) rfl ?_
          refine VL.va (op_assign rfl (ltn rfl)) rfl ?_
          refine VL.done ?_
          refine VN.again [] [1] (ihl3 (IntKind.i64.wrap (i259.tdiv 128)) v285 (l262 ++ ([IntKind.u8.wrap (wrap64 ((i259.tmod 128) + 128))] : List Int)) h) ⟨rfl, ⟨rfl, rfl, rfl, rfl, trivial⟩, trivial, rfl, by decide, rfl, by decide⟩
        · rw [if_neg c284] at h; cases h
      · rw [if_neg c281] at h
        obtain rfl : b280 = false := hb280.symm.trans (decide_eq_false c281)
        refine VC.cond_f rfl ?_
        refine VC.exit ?_
        refine VX.then ?_
        refine VX.then ?_
        refine VX.hit ?_
        refine VN.then ?_
        refine VC.seq ?_
        refine VC.region ?_
        refine VL.va (op_move rfl (ltn rfl)) rfl ?_
        refine VL.va (op_move rfl (ltn rfl)) rfl ?_
        refine VL.va (op_conv Try.underlying3 Try.underlying5 rfl rfl (ltn rfl)) rfl ?_
        refine VL.sG (o_buildSlice (vals := [(0, .int .u8 (IntKind.u8.wrap i259))]) (cells := #[.int .u8 (IntKind.u8.wrap i259)]) (es := List.map enc_intu8 ([IntKind.u8.wrap i259] : List Int)) Try.underlying29 TI5 Z5 rfl (by decide) (by decide) (by kernel_rfl) (by kernel_rfl) rfl (flat_map enc_intu8_ok _) (ltn rfl)) rfl ?_
        intro v288
        by_cases c289 : (l262.length + ([IntKind.u8.wrap i259] : List Int).length) * 1 ≤ 140737488355328
        · rw [if_pos c289] at h
          refine VL.sG (o_append 1 appm Try.underlying29 EI5 rfl rfl rfl (.inr ⟨0, _, rfl⟩) (bndm c289) (ltn rfl)) rfl ?_
          intro v290
          refine VL.va (op_bytesStr_own (xs := (l262 ++ ([IntKind.u8.wrap i259] : List Int))) 1 rfl rfl Try.underlying29 Try.underlying9 Try.underlying5 rfl rfl (ltn rfl)) rfl ?_
          refine VL.va (op_assign rfl (ltn rfl)) rfl ?_
          refine VL.va (op_assign rfl (ltn rfl)) rfl ?_
          refine VL.done ?_
          refine VN.then ?_
          refine VC.ret ?_
          simp only [Option.some.injEq, Prod.mk.injEq] at h
          obtain ⟨rfl, rfl⟩ := h
          exact VR.fn (rs := [.tmp 2, .tmp 3]) [] [] [] rfl (.tmp rfl (.tmp rfl .nil)) ⟨rfl, rfl, rfl⟩ trivial rfl (by decide)
        · rw [if_neg c289] at h; cases h
  · rw [if_neg c135] at h
    obtain rfl := Bool.eq_false_iff.2 c135
    refine VL.va (op_not rfl rfl (ltn rfl)) rfl ?_
    refine VL.done ?_
    refine VN.then ?_
    refine VC.cond_t rfl ?_
    refine VC.seq ?_
    refine VC.region ?_
    refine VL.va (op_assign rfl (ltn rfl)) rfl ?_
    refine VL.va (op_assign rfl (ltn rfl)) rfl ?_
    refine VL.done ?_
    refine VN.then ?_
    refine VC.ret ?_
    refine VR.then ?_
    simp only [Option.some.injEq, Prod.mk.injEq] at h
    obtain ⟨rfl, rfl⟩ := h
    exact VR.fn (rs := [.tmp 2, .tmp 3]) [] [] [] rfl (.tmp rfl (.tmp rfl .nil)) ⟨rfl, rfl, rfl⟩ trivial rfl (by decide)
set_option maxHeartbeats 4000000 in
set_option maxRecDepth 100000 in
theorem check_Table.ok (k : Nat)   (r1 : List Int) (h : check_Table.f k = some r1) :
    VCalls Try.prog 31 [] [] (fun v G own => v = .agg (ints .u32 r1).toArray ∧ G = [] ∧ own = []) := by
  refine VCalls.intro Try.func31 rfl (len rfl) fun E hC hW hD hU => ?_
  unfold check_Table.f at h
  refine VC.seq ?_
  refine VC.region ?_
  refine VL.sG (o_alloc Z56 ZL56 (ltn rfl)) rfl ?_
  intro g296
  refine VL.done ?_
  refine VN.then ?_
  refine VC.seq ?_
  refine VC.region ?_
  refine VL.sG (o_alloc Z56 ZL56 (ltn rfl)) rfl ?_
  intro g297
  refine VL.done ?_
  refine VN.then ?_
  refine VC.seq ?_
  refine VC.seq ?_
  refine VC.region ?_
  refine VL.va (op_move rfl (ltn rfl)) rfl ?_
  refine VL.done ?_
  refine VN.then ?_
  refine VC.block ?_
  refine VC.loop2 (fun (i666 : Int) (l667 : List Int) => ⟨25, [(0, .pointer (some ⟨g296, 0, none⟩)), (1, .pointer (some ⟨g297, 0, none⟩)), (5, .int .u32 i666)], [], [(g297, 56, ints .u32 l667), (g296, 56, ints .u32 (List.replicate 256 (0 : Int)))], []⟩) (fun (ml5 : Nat) (i666 : Int) (l667 : List Int) => check_Table.l5 k ml5 i666 l667 = some r1) k 0 (List.replicate 256 (0 : Int)) [0, 1] [] h ⟨rfl, ⟨rfl, rfl, rfl, trivial⟩, trivial, rfl, by decide, rfl, by decide⟩ (by intros; simp [check_Table.l5]) ?_
  clear h
  intro ml5 ihl5 i666 l667 h
  simp only [check_Table.l5] at h
  refine VC.seq ?_
  refine VC.region ?_
  refine VL.letter (decide (i666 < 256)) fun b763 hb763 => ?_
  refine VL.va (op_cmp rfl rfl (congrArg some hb763) (ltn rfl)) rfl ?_
  refine VL.done ?_
  refine VN.then ?_
  refine VC.seq ?_
  by_cases c767 : i666 < 256
  · rw [if_pos c767] at h
    obtain rfl : b763 = true := hb763.symm.trans (decide_eq_true c767)
    refine VC.cond_t rfl ?_
    refine VC.skip ?_
    refine VN.then ?_
    refine VC.seq ?_
    refine VC.block ?_
    refine VC.seq ?_
    refine VC.region ?_
    refine VL.va (op_move rfl (ltn rfl)) rfl ?_
    refine VL.va (op_assign rfl (ltn rfl)) rfl ?_
    refine VL.done ?_
    refine VN.then ?_
    refine VC.seq ?_
    refine VC.region ?_
    refine VL.va (op_move rfl (ltn rfl)) rfl ?_
    refine VL.va (op_assign rfl (ltn rfl)) rfl ?_
    refine VL.done ?_
    refine VN.then ?_
    refine VC.seq ?_
    refine VC.seq ?_
    refine VC.region ?_
    refine VL.va (op_move rfl (ltn rfl)) rfl ?_
    refine VL.done ?_
    refine VN.then ?_
    refine VC.block ?_
    refine VC.loop2 (fun (i838 : Int) (i839 : Int) => ⟨25, [(0, .pointer (some ⟨g296, 0, none⟩)), (1, .pointer (some ⟨g297, 0, none⟩)), (2, .int .u32 i666), (3, .int .u32 i838), (5, .int .u32 i666), (6, .bool true), (7, .int .u32 i666), (8, .int .u32 i666), (9, .int .i64 i839)], [], [(g297, 56, ints .u32 l667), (g296, 56, ints .u32 (List.replicate 256 (0 : Int)))], []⟩) (fun (ml9 : Nat) (i838 : Int) (i839 : Int) => check_Table.l9 k (check_Table.l5 k ml5) i666 l667 ml9 i838 i839 = some r1) k i666 0 [0, 1] [] h ⟨rfl, ⟨rfl, rfl, rfl, rfl, rfl, rfl, rfl, rfl, rfl, trivial⟩, trivial, rfl, by decide, rfl, by decide⟩ (by intros; simp [check_Table.l9]) ?_
    clear h
    intro ml9 ihl9 i838 i839 h
    simp only [check_Table.l9] at h
    refine VC.seq ?_
    refine VC.region ?_
    refine VL.letter (decide (i839 < 8)) fun b847 hb847 => ?_
    refine VL.va (op_cmp rfl rfl (congrArg some hb847) (ltn rfl)) rfl ?_
    refine VL.done ?_
    refine VN.then ?_
    refine VC.seq ?_
    by_cases c852 : i839 < 8
    · rw [if_pos c852] at h
      obtain rfl : b847 = true := hb847.symm.trans (decide_eq_true c852)
      refine VC.cond_t rfl ?_
      refine VC.skip ?_
      refine VN.then ?_
      refine VC.seq ?_
      refine VC.block ?_
      refine VC.seq ?_
      refine VC.region ?_
      refine VL.va (op_move rfl (ltn rfl)) rfl ?_
      refine VL.va (op_bits rfl rfl rfl (ltn rfl)) rfl ?_
      refine VL.va (op_assign rfl (ltn rfl)) rfl ?_
      refine VL.done ?_
      refine VN.then ?_
      refine VC.seq ?_
      refine VC.region ?_
      refine VL.va (op_move rfl (ltn rfl)) rfl ?_
      refine VL.va (op_shr rfl rfl (by decide) rfl (ltn rfl)) rfl ?_
      refine VL.va (op_assign rfl (ltn rfl)) rfl ?_
      refine VL.done ?_
      refine VN.then ?_
      refine VC.seq ?_
      refine VC.region ?_
      refine VL.va (op_move rfl (ltn rfl)) rfl ?_
      refine VL.letter (((Go.bits .and .u32 i838 1) == 1)) fun b855 hb855 => ?_
      refine VL.va (op_cmp rfl rfl (congrArg some hb855) (ltn rfl)) rfl ?_
      refine VL.done ?_
      refine VN.then ?_
      by_cases c856 : (Go.bits .and .u32 i838 1) = 1
      · rw [if_pos c856] at h
        obtain rfl : b855 = true := hb855.symm.trans (beq_iff_eq.2 c856)
        refine VC.cond_t rfl ?_
        refine VC.region ?_
        refine VL.va (op_move rfl (ltn rfl)) rfl ?_
        refine VL.va (op_bits rfl rfl rfl (ltn rfl)) rfl ?_
        refine VL.va (op_assign rfl (ltn rfl)) rfl ?_
        refine VL.done ?_
        refine VN.block ?_
        refine VN.then ?_
        refine VC.region ?_
        refine VL.va (op_ari64 rfl rfl rfl (ltn rfl)) rfl ?_
        refine VL.va (op_move rfl (ltn rfl)) rfl ?_
        refine VL.done ?_
        refine VN.again [0, 1] [] (ihl9 (Go.bits .xor .u32 (i838.fdiv (2 ^ min (1 : Int).toNat IntKind.u32.bits)) 2197175160) (wrap64 (i839 + 1)) h) ⟨rfl, ⟨rfl, rfl, rfl, rfl, rfl, rfl, rfl, rfl, rfl, trivial⟩, trivial, rfl, by decide, rfl, by decide⟩
      · rw [if_neg c856] at h
        obtain rfl : b855 = false := hb855.symm.trans (beq_eq_false_iff_ne.2 c856)
        refine VC.cond_f rfl ?_
        refine VC.skip ?_
        refine VN.block ?_
        refine VN.then ?_
        refine VC.region ?_
        refine VL.va (op_ari64 rfl rfl rfl (ltn rfl)) rfl ?_
        refine VL.va (op_move rfl (ltn rfl)) rfl ?_
        refine VL.done ?_
        refine VN.again [0, 1] [] (ihl9 (i838.fdiv (2 ^ min (1 : Int).toNat IntKind.u32.bits)) (wrap64 (i839 + 1)) h) ⟨rfl, ⟨rfl, rfl, rfl, rfl, rfl, rfl, rfl, rfl, rfl, trivial⟩, trivial, rfl, by decide, rfl, by decide⟩
    · rw [if_neg c852] at h
      obtain rfl : b847 = false := hb847.symm.trans (decide_eq_false c852)
      refine VC.cond_f rfl ?_
      refine VC.exit ?_
      refine VX.then ?_
      refine VX.then ?_
      refine VX.hit ?_
      refine VN.then ?_
      refine VC.region ?_
      refine VL.va (op_move rfl (ltn rfl)) rfl ?_
      refine VL.va (op_move rfl (ltn rfl)) rfl ?_
      by_cases c857 : 0 ≤ i666
      · rw [if_pos c857] at h
        by_cases c858 : i666 < 256
        · rw [if_pos c858] at h
          refine VL.va (op_indexAddrA Try.underlying56 TI23 rfl rfl c857 c858 (ltn rfl)) rfl ?_
          by_cases c859 : i666.toNat < l667.length
          · rw [if_pos c859] at h
            refine VL.step1 (o_storeE 0 rfl rfl rfl TI23 c859) rfl ?_
            refine VL.done ?_
            refine VN.block ?_
            refine VN.then ?_
            refine VC.region ?_
            refine VL.va (op_ari rfl rfl rfl (ltn rfl)) rfl ?_
            refine VL.va (op_move rfl (ltn rfl)) rfl ?_
            refine VL.done ?_
            refine VN.again [0, 1] [] (ihl5 (IntKind.u32.wrap (i666 + 1)) (l667.set i666.toNat i838) h) ⟨rfl, ⟨rfl, rfl, rfl, trivial⟩, trivial, rfl, by decide, rfl, by decide⟩
          · rw [if_neg c859] at h; cases h
        · rw [if_neg c858] at h; cases h
      · rw [if_neg c857] at h; cases h
  · rw [if_neg c767] at h
    obtain rfl : b763 = false := hb763.symm.trans (decide_eq_false c767)
    refine VC.cond_f rfl ?_
    refine VC.exit ?_
    refine VX.then ?_
    refine VX.then ?_
    refine VX.hit ?_
    refine VN.then ?_
    refine VC.seq ?_
    refine VC.region ?_
    by_cases c860 : l667.length = 256
    · rw [if_pos c860] at h
      refine VL.va (op_loadA 0 rfl rfl TI56 c860 (ltn rfl)) rfl ?_
      by_cases c861 : (List.replicate 256 (0 : Int)).length = 256
      · rw [if_pos c861] at h
        refine VL.step1 (o_storeA 1 rfl rfl rfl TI56 c860 c861) rfl ?_
        refine VL.done ?_
        refine VN.then ?_
        refine VC.ret ?_
        obtain rfl := Option.some.inj h
        exact VR.fn (rs := [.cell 0 56]) [] [] [] rfl (.cellA 1 rfl rfl TI56 c860 .nil) ⟨rfl, rfl, rfl⟩ trivial rfl (by decide)
      · rw [if_neg c861] at h; cases h
    · rw [if_neg c860] at h; cases h
set_option maxHeartbeats 4000000 in
set_option maxRecDepth 100000 in
theorem check_On.ok (k : Nat) (a0 : Int) (a1 : ByteArray)  (r1 : Int) (h : check_On.f k a0 a1 = some r1) :
    VCalls Try.prog 26 [.int .u32 a0, .string a1] [] (fun v G own => v = .int .u32 r1 ∧ G = [] ∧ own = []) := by
  refine VCalls.intro Try.func26 rfl (len rfl) fun E hC hW hD hU => ?_
  unfold check_On.f at h
  refine VC.seq ?_
  refine VC.region ?_
  refine VL.va (op_assign rfl (ltn rfl)) rfl ?_
  refine VL.done ?_
  refine VN.then ?_
  refine VC.seq ?_
  refine VC.region ?_
  replace h := Option.bind_eq_some_iff.1 h
  obtain ⟨r862, hA863, h⟩ := h
  refine VL.sC (o_call0 FO31 (check_Table.ok k r862 hA863) rfl rfl (ltn rfl) (All_of .nil)) rfl ?_
  rintro _ _ _ ⟨rfl, rfl, rfl⟩
  refine VL.sG (o_alloc Z56 ZL56 (ltn rfl)) rfl ?_
  intro g864
  by_cases c865 : r862.length = 256
  · rw [if_pos c865] at h
    by_cases c866 : (List.replicate 256 (0 : Int)).length = 256
    · rw [if_pos c866] at h
      refine VL.step1 (o_storeA 0 rfl rfl rfl TI56 c865 c866) rfl ?_
      refine VL.done ?_
      refine VN.then ?_
      refine VC.seq ?_
      refine VC.region ?_
      refine VL.va (op_move rfl (ltn rfl)) rfl ?_
      refine VL.va (op_bits rfl rfl rfl (ltn rfl)) rfl ?_
      refine VL.va (op_assign rfl (ltn rfl)) rfl ?_
      refine VL.done ?_
      refine VN.then ?_
      refine VC.seq ?_
      refine VC.seq ?_
      refine VC.region ?_
      refine VL.va (op_move rfl (ltn rfl)) rfl ?_
      refine VL.va (op_lens Try.underlying9 rfl (ltn rfl)) rfl ?_
      refine VL.va (op_move rfl (ltn rfl)) rfl ?_
      refine VL.done ?_
      refine VN.then ?_
      refine VC.block ?_
      refine VC.loop2 (fun (i899 : Int) (i900 : Int) => ⟨29, [(0, .int .u32 i899), (1, .string a1), (4, .int .u32 0), (5, .pointer (some ⟨g864, 0, none⟩)), (11, .int .i64 (a1.size : Int)), (12, .int .i64 i900)], [], [(g864, 56, ints .u32 r862)], []⟩) (fun (ml1 : Nat) (i899 : Int) (i900 : Int) => check_On.l1 k a1 r862 ml1 i899 i900 = some r1) k (Go.bits .xor .u32 a0 4294967295) 0 [0] [] h ⟨rfl, ⟨rfl, rfl, rfl, rfl, rfl, rfl, trivial⟩, trivial, rfl, by decide, rfl, by decide⟩ (by intros; simp [check_On.l1]) ?_
      clear h
      intro ml1 ihl1 i899 i900 h
      simp only [check_On.l1] at h
      refine VC.seq ?_
      refine VC.region ?_
      refine VL.letter (decide (i900 < (a1.size : Int))) fun b909 hb909 => ?_
      refine VL.va (op_cmp rfl rfl (congrArg some hb909) (ltn rfl)) rfl ?_
      refine VL.done ?_
      refine VN.then ?_
      refine VC.seq ?_
      by_cases c911 : i900 < (a1.size : Int)
      · rw [if_pos c911] at h
        obtain rfl : b909 = true := hb909.symm.trans (decide_eq_true c911)
        refine VC.cond_t rfl ?_
        refine VC.skip ?_
        refine VN.then ?_
        refine VC.seq ?_
        refine VC.block ?_
        refine VC.seq ?_
        refine VC.region ?_
        refine VL.va (op_move rfl (ltn rfl)) rfl ?_
        refine VL.va (op_assign rfl (ltn rfl)) rfl ?_
        refine VL.done ?_
        refine VN.then ?_
        refine VC.region ?_
        refine VL.va (op_move rfl (ltn rfl)) rfl ?_
        refine VL.va (op_shr rfl rfl (by decide) rfl (ltn rfl)) rfl ?_
        refine VL.va (op_move rfl (ltn rfl)) rfl ?_
        refine VL.va (op_conv Try.underlying23 Try.underlying5 rfl rfl (ltn rfl)) rfl ?_
        refine VL.va (op_move rfl (ltn rfl)) rfl ?_
        refine VL.va (op_move rfl (ltn rfl)) rfl ?_
        by_cases c912 : 0 ≤ i900
        · rw [if_pos c912] at h
          by_cases c913 : i900 < (a1.size : Int)
          · rw [if_pos c913] at h
            refine VL.va (op_indexS Try.underlying9 rfl rfl c912 c913 rfl (ltn rfl)) rfl ?_
            refine VL.va (op_bits rfl rfl rfl (ltn rfl)) rfl ?_
            by_cases c914 : 0 ≤ Go.bits .xor .u8 (IntKind.u8.wrap i899) (bt a1 i900)
            · rw [if_pos c914] at h
              by_cases c915 : (Go.bits .xor .u8 (IntKind.u8.wrap i899) (bt a1 i900)) < 256
              · rw [if_pos c915] at h
                refine VL.va (op_indexAddrA Try.underlying56 TI23 rfl rfl c914 c915 (ltn rfl)) rfl ?_
                replace h := Option.bind_eq_some_iff.1 h
                obtain ⟨t916, ht916, h⟩ := h
                refine VL.va (op_loadE 0 rfl rfl TI23 ht916 (ltn rfl)) rfl ?_
                refine VL.va (op_bits rfl rfl rfl (ltn rfl)) rfl ?_
                refine VL.va (op_assign rfl (ltn rfl)) rfl ?_
                refine VL.done ?_
                refine VN.block ?_
                refine VN.then ?_
                refine VC.region ?_
                refine VL.va (op_ari64 rfl rfl rfl (ltn rfl)) rfl ?_
                refine VL.va (op_move rfl (ltn rfl)) rfl ?_
                refine VL.done ?_
                refine VN.again [0] [] (ihl1 (Go.bits .xor .u32 (i899.fdiv (2 ^ min (8 : Int).toNat IntKind.u32.bits)) t916) (wrap64 (i900 + 1)) h) ⟨rfl, ⟨rfl, rfl, rfl, rfl, rfl, rfl, trivial⟩, trivial, rfl, by decide, rfl, by decide⟩
              · rw [if_neg c915] at h; cases h
            · rw [if_neg c914] at h; cases h
          · rw [if_neg c913] at h; cases h
        · rw [if_neg c912] at h; cases h
      · rw [if_neg c911] at h
        obtain rfl : b909 = false := hb909.symm.trans (decide_eq_false c911)
        refine VC.cond_f rfl ?_
        refine VC.exit ?_
        refine VX.then ?_
        refine VX.then ?_
        refine VX.hit ?_
        refine VN.then ?_
        refine VC.seq ?_
        refine VC.region ?_
        refine VL.va (op_move rfl (ltn rfl)) rfl ?_
        refine VL.va (op_bits rfl rfl rfl (ltn rfl)) rfl ?_
        refine VL.va (op_assign rfl (ltn rfl)) rfl ?_
        refine VL.done ?_
        refine VN.then ?_
        refine VC.ret ?_
        obtain rfl := Option.some.inj h
        exact VR.fn (rs := [.tmp 4]) [] [] [] rfl (.tmp rfl .nil) ⟨rfl, rfl, rfl⟩ trivial rfl (by decide)
    · rw [if_neg c866] at h; cases h
  · rw [if_neg c865] at h; cases h
set_option maxHeartbeats 4000000 in
set_option maxRecDepth 100000 in
theorem check_Of.ok (k : Nat) (a0 : ByteArray)  (r1 : Int) (h : check_Of.f k a0 = some r1) :
    VCalls Try.prog 18 [.string a0] [] (fun v G own => v = .int .u32 r1 ∧ G = [] ∧ own = []) := by
  refine VCalls.intro Try.func18 rfl (len rfl) fun E hC hW hD hU => ?_
  unfold check_Of.f at h
  refine VC.seq ?_
  refine VC.region ?_
  refine VL.va (op_assign rfl (ltn rfl)) rfl ?_
  refine VL.done ?_
  refine VN.then ?_
  refine VC.seq ?_
  refine VC.region ?_
  refine VL.va (op_move rfl (ltn rfl)) rfl ?_
  replace h := Option.bind_eq_some_iff.1 h
  obtain ⟨t917, hA918, h⟩ := h
  refine VL.sC (o_call0 FO26 (check_On.ok k 0 a0 t917 hA918) rfl rfl (ltn rfl) (All_of .nil)) rfl ?_
  rintro _ _ _ ⟨rfl, rfl, rfl⟩
  refine VL.va (op_assign rfl (ltn rfl)) rfl ?_
  refine VL.done ?_
  refine VN.then ?_
  refine VC.ret ?_
  obtain rfl := Option.some.inj h
  exact VR.fn (rs := [.tmp 2]) [] [] [] rfl (.tmp rfl .nil) ⟨rfl, rfl, rfl⟩ trivial rfl (by decide)
set_option maxHeartbeats 4000000 in
set_option maxRecDepth 100000 in
theorem check_Bytes.ok (k : Nat) (a0 : Int)  (r1 : ByteArray) (h : check_Bytes.f k a0 = some r1) :
    VCalls Try.prog 17 [.int .u32 a0] [] (fun v G own => v = .string r1 ∧ G = [] ∧ own = []) := by
  refine VCalls.intro Try.func17 rfl (len rfl) fun E hC hW hD hU => ?_
  unfold check_Bytes.f at h
  refine VC.seq ?_
  refine VC.region ?_
  refine VL.va (op_assign rfl (ltn rfl)) rfl ?_
  refine VL.done ?_
  refine VN.then ?_
  refine VC.seq ?_
  refine VC.region ?_
  refine VL.sG (o_alloc Z52 ZL52 (ltn rfl)) rfl ?_
  intro g921
  refine VL.done ?_
  refine VN.then ?_
  refine VC.seq ?_
  refine VC.seq ?_
  refine VC.region ?_
  refine VL.va (op_move rfl (ltn rfl)) rfl ?_
  refine VL.done ?_
  refine VN.then ?_
  refine VC.block ?_
  refine VC.loop2 (fun (i944 : Int) (l945 : List Int) => ⟨18, [(0, .int .u32 a0), (2, .string (⟨#[]⟩ : ByteArray)), (3, .pointer (some ⟨g921, 0, none⟩)), (5, .int .i64 i944)], [], [(g921, 52, ints .u8 l945)], []⟩) (fun (ml1 : Nat) (i944 : Int) (l945 : List Int) => check_Bytes.l1 k a0 ml1 i944 l945 = some r1) k 0 (List.replicate 4 (0 : Int)) [0] [] h ⟨rfl, ⟨rfl, rfl, rfl, rfl, trivial⟩, trivial, rfl, by decide, rfl, by decide⟩ (by intros; simp [check_Bytes.l1]) ?_
  clear h
  intro ml1 ihl1 i944 l945 h
  simp only [check_Bytes.l1] at h
  refine VC.seq ?_
  refine VC.region ?_
  refine VL.letter (decide (i944 < 4)) fun b953 hb953 => ?_
  refine VL.va (op_cmp rfl rfl (congrArg some hb953) (ltn rfl)) rfl ?_
  refine VL.done ?_
  refine VN.then ?_
  refine VC.seq ?_
  by_cases c956 : i944 < 4
  · rw [if_pos c956] at h
    obtain rfl : b953 = true := hb953.symm.trans (decide_eq_true c956)
    refine VC.cond_t rfl ?_
    refine VC.skip ?_
    refine VN.then ?_
    refine VC.seq ?_
    refine VC.block ?_
    refine VC.seq ?_
    refine VC.region ?_
    refine VL.va (op_move rfl (ltn rfl)) rfl ?_
    refine VL.va (op_assign rfl (ltn rfl)) rfl ?_
    refine VL.done ?_
    refine VN.then ?_
    refine VC.region ?_
    refine VL.va (op_move rfl (ltn rfl)) rfl ?_
    refine VL.va (op_move rfl (ltn rfl)) rfl ?_
    refine VL.va (op_move rfl (ltn rfl)) rfl ?_
    refine VL.va (op_ari64 rfl rfl rfl (ltn rfl)) rfl ?_
    by_cases c957 : 0 ≤ wrap64 (8 * i944)
    · rw [if_pos c957] at h
      refine VL.va (op_shr rfl rfl c957 rfl (ltn rfl)) rfl ?_
      refine VL.va (op_conv Try.underlying23 Try.underlying5 rfl rfl (ltn rfl)) rfl ?_
      by_cases c958 : 0 ≤ i944
      · rw [if_pos c958] at h
        by_cases c959 : i944 < 4
        · rw [if_pos c959] at h
          refine VL.va (op_indexAddrA Try.underlying52 TI5 rfl rfl c958 c959 (ltn rfl)) rfl ?_
          by_cases c960 : i944.toNat < l945.length
          · rw [if_pos c960] at h
            refine VL.step1 (o_storeE 0 rfl rfl rfl TI5 c960) rfl ?_
            refine VL.done ?_
            refine VN.block ?_
            refine VN.then ?_
            refine VC.region ?_
            refine VL.va (op_ari64 rfl rfl rfl (ltn rfl)) rfl ?_
            refine VL.va (op_move rfl (ltn rfl)) rfl ?_
            refine VL.done ?_
            refine VN.again [0] [] (ihl1 (wrap64 (i944 + 1)) (l945.set i944.toNat (IntKind.u8.wrap (a0.fdiv (2 ^ min (wrap64 (8 * i944)).toNat IntKind.u32.bits)))) h) ⟨rfl, ⟨rfl, rfl, rfl, rfl, trivial⟩, trivial, rfl, by decide, rfl, by decide⟩
          · rw [if_neg c960] at h; cases h
        · rw [if_neg c959] at h; cases h
      · rw [if_neg c958] at h; cases h
    · rw [if_neg c957] at h; cases h
  · rw [if_neg c956] at h
    obtain rfl : b953 = false := hb953.symm.trans (decide_eq_false c956)
    refine VC.cond_f rfl ?_
    refine VC.exit ?_
    refine VX.then ?_
    refine VX.then ?_
    refine VX.hit ?_
    refine VN.then ?_
    refine VC.seq ?_
    refine VC.region ?_
    refine VL.va (op_sliceB Try.underlying52 TI5 rfl (ltn rfl)) rfl ?_
    by_cases c961 : l945.length = 4
    · rw [if_pos c961] at h
      refine VL.va (op_bytesStrB0 0 Try.underlying29 Try.underlying9 Try.underlying5 rfl rfl c961 (ltn rfl)) rfl ?_
      refine VL.va (op_assign rfl (ltn rfl)) rfl ?_
      refine VL.done ?_
      refine VN.then ?_
      refine VC.ret ?_
      obtain rfl := Option.some.inj h
      exact VR.fn (rs := [.tmp 2]) [] [] [] rfl (.tmp rfl .nil) ⟨rfl, rfl, rfl⟩ trivial rfl (by decide)
    · rw [if_neg c961] at h; cases h
set_option maxHeartbeats 4000000 in
set_option maxRecDepth 100000 in
theorem frame_Frame.ok (k : Nat) (a0 : ByteArray)  (r1 : ByteArray) (r2 : Int) (h : frame_Frame.f k a0 = some (r1, r2)) :
    VCalls Try.prog 8 [.string a0] [] (fun v G own => v = .tuple #[.string r1, .int .i64 r2] ∧ G = [] ∧ own = []) := by
  refine VCalls.intro Try.func8 rfl (len rfl) fun E hC hW hD hU => ?_
  unfold frame_Frame.f at h
  refine VC.seq ?_
  refine VC.region ?_
  refine VL.va (op_assign rfl (ltn rfl)) rfl ?_
  refine VL.va (op_assign rfl (ltn rfl)) rfl ?_
  refine VL.done ?_
  refine VN.then ?_
  refine VC.seq ?_
  refine VC.seq ?_
  refine VC.region ?_
  refine VL.va (op_move rfl (ltn rfl)) rfl ?_
  refine VL.va (op_lens Try.underlying9 rfl (ltn rfl)) rfl ?_
  refine VL.letter (decide ((a0.size : Int) > 4096)) fun b116 hb116 => ?_
  refine VL.va (op_cmp rfl rfl (congrArg some hb116) (ltn rfl)) rfl ?_
  refine VL.done ?_
  refine VN.then ?_
  by_cases c117 : (a0.size : Int) > 4096
  · rw [if_pos c117] at h
    obtain rfl : b116 = true := hb116.symm.trans (decide_eq_true c117)
    refine VC.cond_t rfl ?_
    refine VC.seq ?_
    refine VC.region ?_
    refine VL.va (op_assign rfl (ltn rfl)) rfl ?_
    refine VL.va (op_assign rfl (ltn rfl)) rfl ?_
    refine VL.done ?_
    refine VN.then ?_
    refine VC.ret ?_
    refine VR.then ?_
    simp only [Option.some.injEq, Prod.mk.injEq] at h
    obtain ⟨rfl, rfl⟩ := h
    exact VR.fn (rs := [.tmp 2, .tmp 3]) [] [] [] rfl (.tmp rfl (.tmp rfl .nil)) ⟨rfl, rfl, rfl⟩ trivial rfl (by decide)
  · rw [if_neg c117] at h
    obtain rfl : b116 = false := hb116.symm.trans (decide_eq_false c117)
    refine VC.cond_f rfl ?_
    refine VC.skip ?_
    refine VN.then ?_
    refine VC.seq ?_
    refine VC.region ?_
    refine VL.va (op_move rfl (ltn rfl)) rfl ?_
    refine VL.va (op_lens Try.underlying9 rfl (ltn rfl)) rfl ?_
    replace h := Option.bind_eq_some_iff.1 h
    obtain ⟨⟨t292, t293⟩, hA294, h⟩ := h
    dsimp only at h
    refine VL.sC (o_call0 FO16 (pack_Number.ok k (a0.size : Int) t292 t293 hA294) rfl rfl (ltn rfl) (All_of .nil)) rfl ?_
    rintro _ _ _ ⟨rfl, rfl, rfl⟩
    refine VL.va (op_move rfl (ltn rfl)) rfl ?_
    refine VL.va (op_extract rfl rfl (ltn rfl)) rfl ?_
    refine VL.va (op_extract rfl rfl (ltn rfl)) rfl ?_
    refine VL.va (op_assign rfl (ltn rfl)) rfl ?_
    refine VL.va (op_assign rfl (ltn rfl)) rfl ?_
    refine VL.done ?_
    refine VN.then ?_
    refine VC.seq ?_
    refine VC.region ?_
    refine VL.va (op_move rfl (ltn rfl)) rfl ?_
    refine VL.va (op_move rfl (ltn rfl)) rfl ?_
    by_cases c295 : t292.size + a0.size ≤ 9223372036854775807
    · rw [if_pos c295] at h
      refine VL.va (op_adds rfl rfl rfl c295 (ltn rfl)) rfl ?_
      refine VL.va (op_move rfl (ltn rfl)) rfl ?_
      replace h := Option.bind_eq_some_iff.1 h
      obtain ⟨t919, hA920, h⟩ := h
      refine VL.sC (o_call0 FO18 (check_Of.ok k a0 t919 hA920) rfl rfl (ltn rfl) (All_of .nil)) rfl ?_
      rintro _ _ _ ⟨rfl, rfl, rfl⟩
      replace h := Option.bind_eq_some_iff.1 h
      obtain ⟨t962, hA963, h⟩ := h
      refine VL.sC (o_call0 FO17 (check_Bytes.ok k t919 t962 hA963) rfl rfl (ltn rfl) (All_of .nil)) rfl ?_
      rintro _ _ _ ⟨rfl, rfl, rfl⟩
      by_cases c964 : (t292 ++ a0).size + t962.size ≤ 9223372036854775807
      · rw [if_pos c964] at h
        refine VL.va (op_adds rfl rfl rfl c964 (ltn rfl)) rfl ?_
        refine VL.va (op_assign rfl (ltn rfl)) rfl ?_
        refine VL.va (op_assign rfl (ltn rfl)) rfl ?_
        refine VL.done ?_
        refine VN.then ?_
        refine VC.ret ?_
        simp only [Option.some.injEq, Prod.mk.injEq] at h
        obtain ⟨rfl, rfl⟩ := h
        exact VR.fn (rs := [.tmp 2, .tmp 3]) [] [] [] rfl (.tmp rfl (.tmp rfl .nil)) ⟨rfl, rfl, rfl⟩ trivial rfl (by decide)
      · rw [if_neg c964] at h; cases h
    · rw [if_neg c295] at h; cases h

end Go.Proofs.Ytaolaicmfjdmhaa.PFrameHurt
