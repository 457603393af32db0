/- Written by a program of this repo: what the program's functions do, each as a Lean function, shown of the loaded code; or a statement's row over that; no condition of its own. -/
import Derived.Test.YtacenfolbmdpoaaPPackRowsx0
namespace Go.Proofs.Ytacenfolbmdpoaa.PPackRows
open Go Go.RowKit Go.Proofs.YtacenfolbmdpoaaV
set_option linter.unusedVariables false
set_option linter.unusedSimpArgs false

set_option maxHeartbeats 4000000 in
set_option maxRecDepth 100000 in
theorem tarrylaw01_few.ok (k : Nat) (l0 : List ByteArray) (v0 : Value) (r1 : List ByteArray) (h : tarrylaw01_few.f k l0 = some r1) :
    VCalls Try.prog 17 [v0] [.row v0 1 (l0.map enc_str)] (fun v G own => ∃ w0 : Value, v = w0 ∧ G = [] ∧ own = [(w0, 9, 1, r1.map enc_str)]) := by
  refine VCalls.intro Try.func17 rfl (len rfl) fun E hC hW hD hU => ?_
  unfold tarrylaw01_few.f at h
  refine VC.seq ?_
  refine VC.region ?_
  refine VL.va (op_assign rfl (ltn rfl)) rfl ?_
  refine VL.done ?_
  refine VN.then ?_
  refine VC.seq ?_
  refine VC.region ?_
  refine VL.va (op_assign rfl (ltn rfl)) rfl ?_
  refine VL.done ?_
  refine VN.then ?_
  refine VC.seq ?_
  refine VC.seq ?_
  refine VC.region ?_
  refine VL.va (op_move rfl (ltn rfl)) rfl ?_
  refine VL.va (op_move rfl (ltn rfl)) rfl ?_
  refine VL.va (op_len (m := l0.length) 0 lenm Try.underlying39 rfl rfl (ltn rfl)) rfl ?_
  refine VL.va (op_min rfl rfl (ltn rfl)) rfl ?_
  by_cases c54 : 0 ≤ mn (l0.length : Int) 258
  · rw [if_pos c54] at h
    by_cases c55 : (mn (l0.length : Int) 258) ≤ (l0.length : Int)
    · rw [if_pos c55] at h
      refine VL.sG (o_slice (m := l0.length) 0 0 ((mn (l0.length : Int) 258).toNat) lenm cutm Try.underlying39 TI9 rfl rfl ⟨rfl, ⟨_, _, rfl, c54, rfl⟩, by omega, by omega⟩ (ltn rfl)) rfl ?_
      intro v57
      refine VL.va (op_len (m := ((l0.take ((mn (l0.length : Int) 258).toNat)).drop 0).length) 0 lenm Try.underlying39 rfl rfl (ltn rfl)) rfl ?_
      refine VL.va (op_move rfl (ltn rfl)) rfl ?_
      refine VL.done ?_
      refine VN.then ?_
      refine VC.block ?_
      refine VC.nilRow' 9 1 ?_
      refine VC.loop3 (fun (v73 : Value) (l74 : List ByteArray) (i76 : Int) => ⟨26, [(2, .slice none 0 0), (3, v73), (10, v57), (11, .int .i64 (((l0.take ((mn (l0.length : Int) 258).toNat)).drop 0).length : Int)), (12, .int .i64 i76)], [.row v57 1 (((l0.take ((mn (l0.length : Int) 258).toNat)).drop 0).map enc_str)], [], [(v73, 9, 1, l74.map enc_str)]⟩) (fun (ml1 : Nat) (v73 : Value) (l74 : List ByteArray) (i76 : Int) => tarrylaw01_few.l1 k l0 ml1 l74 i76 = some r1) k (.slice none 0 0) ([] : List ByteArray) 0 [] [0] h ⟨rfl, ⟨rfl, rfl, rfl, rfl, rfl, trivial⟩, ⟨⟨0, rfl⟩, trivial⟩, rfl, by decide, rfl, by decide⟩ (by intros; simp [tarrylaw01_few.l1]) ?_
      clear h
      intro ml1 ihl1 v73 l74 i76 h
      simp only [tarrylaw01_few.l1] at h
      refine VC.seq ?_
      refine VC.region ?_
      refine VL.letter (decide (i76 < (((l0.take ((mn (l0.length : Int) 258).toNat)).drop 0).length : Int))) fun b91 hb91 => ?_
      refine VL.va (op_cmp rfl rfl (congrArg some hb91) (ltn rfl)) rfl ?_
      refine VL.done ?_
      refine VN.then ?_
      refine VC.seq ?_
      by_cases c93 : i76 < (((l0.take ((mn (l0.length : Int) 258).toNat)).drop 0).length : Int)
      · rw [if_pos c93] at h
        obtain rfl : b91 = true := hb91.symm.trans (decide_eq_true c93)
        refine VC.cond_t rfl ?_
        refine VC.skip ?_
        refine VN.then ?_
        refine VC.seq ?_
        refine VC.block ?_
        refine VC.seq ?_
        refine VC.region ?_
        by_cases c94 : 0 ≤ i76
        · rw [if_pos c94] at h
          replace h := Option.bind_eq_some_iff.1 h
          obtain ⟨x95, hx95, h⟩ := h
          refine VL.open (m := ((l0.take ((mn (l0.length : Int) 258).toNat)).drop 0).length) 0 lenm rfl (pos_get hx95) ?_
          rintro ad96 n97 rfl
          refine VL.va (op_indexAddr Try.underlying39 TI9 rfl rfl c94 (lt_get c94 hx95) rfl (ltn rfl)) rfl ?_
          refine VL.va (op_load_row (sz := 1) (o := 0) 0 i76.toNat 1 rfl rfl (get_map hx95) TI9 rfl (by decide) (ltn rfl)) rfl ?_
          refine VL.va (op_assign rfl (ltn rfl)) rfl ?_
          refine VL.done ?_
          refine VN.then ?_
          refine VC.region ?_
          refine VL.va (op_move rfl (ltn rfl)) rfl ?_
          refine VL.va (op_move rfl (ltn rfl)) rfl ?_
          refine VL.va (op_move rfl (ltn rfl)) rfl ?_
          refine VL.va (op_lens Try.underlying9 rfl (ltn rfl)) rfl ?_
          refine VL.va (op_min rfl rfl (ltn rfl)) rfl ?_
          by_cases c98 : 0 ≤ mn (x95.size : Int) 4100
          · rw [if_pos c98] at h
            by_cases c99 : (mn (x95.size : Int) 4100) ≤ (x95.size : Int)
            · rw [if_pos c99] at h
              refine VL.va (op_sliceS 0 ((mn (x95.size : Int) 4100).toNat) Try.underlying9 rfl ⟨rfl, ⟨_, _, rfl, c98, rfl⟩, by omega, by omega⟩ rfl (ltn rfl)) rfl ?_
              refine VL.sG (o_buildSlice (vals := [(0, .string (x95.extract 0 ((mn (x95.size : Int) 4100).toNat)))]) (cells := #[.string (x95.extract 0 ((mn (x95.size : Int) 4100).toNat))]) (es := List.map enc_str ([x95.extract 0 ((mn (x95.size : Int) 4100).toNat)] : List ByteArray)) Try.underlying39 TI9 Z9 rfl (by decide) (by decide) (by kernel_rfl) (by kernel_rfl) rfl (flat_map enc_str_ok _) (ltn rfl)) rfl ?_
              intro v101
              by_cases c102 : (l74.length + ([x95.extract 0 ((mn (x95.size : Int) 4100).toNat)] : List ByteArray).length) * 16 ≤ 140737488355328
              · rw [if_pos c102] at h
                refine VL.sG (o_append 1 appm Try.underlying39 EI9 rfl rfl rfl (.inr ⟨0, _, rfl⟩) (bndm c102) (ltn rfl)) rfl ?_
                intro v103
                refine VL.va (op_assign rfl (ltn rfl)) rfl ?_
                refine VL.done ?_
                refine VN.block ?_
                refine VN.then ?_
                refine VC.region ?_
                refine VL.va (op_ari64 rfl rfl rfl (ltn rfl)) rfl ?_
                refine VL.va (op_move rfl (ltn rfl)) rfl ?_
                refine VL.done ?_
                refine VN.again [] [1] (ihl1 v103 (l74 ++ ([x95.extract 0 ((mn (x95.size : Int) 4100).toNat)] : List ByteArray)) (wrap64 (i76 + 1)) h) ⟨rfl, ⟨rfl, rfl, rfl, rfl, rfl, trivial⟩, ⟨⟨0, rfl⟩, trivial⟩, rfl, by decide, rfl, by decide⟩
              · rw [if_neg c102] at h; cases h
            · rw [if_neg c99] at h; cases h
          · rw [if_neg c98] at h; cases h
        · rw [if_neg c94] at h; cases h
      · rw [if_neg c93] at h
        obtain rfl : b91 = false := hb91.symm.trans (decide_eq_false c93)
        refine VC.cond_f rfl ?_
        refine VC.exit ?_
        refine VX.then ?_
        refine VX.then ?_
        refine VX.hit ?_
        refine VN.then ?_
        refine VC.seq ?_
        refine VC.region ?_
        refine VL.va (op_move rfl (ltn rfl)) rfl ?_
        refine VL.va (op_assign rfl (ltn rfl)) rfl ?_
        refine VL.done ?_
        refine VN.then ?_
        refine VC.ret ?_
        obtain rfl := Option.some.inj h
        exact VR.fn (rs := [.tmp 2]) [] [(v73, 9, 1, l74.map enc_str)] [0] rfl (.tmp rfl .nil) ⟨v73, rfl, rfl, rfl⟩ trivial rfl (by decide)
    · rw [if_neg c55] at h; cases h
  · rw [if_neg c54] at h; cases h
set_option maxHeartbeats 4000000 in
set_option maxRecDepth 100000 in
theorem pack_may.ok (a0 : Int)  (r1 : Bool) (h : pack_may.f a0 = some r1) :
    VCalls Try.prog 24 [.int .i64 a0] [] (fun v G own => v = .bool r1 ∧ G = [] ∧ own = []) := by
  refine VCalls.intro Try.func24 rfl (len rfl) fun E hC hW hD hU => ?_
  unfold pack_may.f at h
  refine VC.seq ?_
  refine VC.region ?_
  refine VL.va (op_assign rfl (ltn rfl)) rfl ?_
  refine VL.done ?_
  refine VN.then ?_
  refine VC.seq ?_
  refine VC.region ?_
  refine VL.va (op_move rfl (ltn rfl)) rfl ?_
  refine VL.letter (decide (a0 ≥ (-1152921504606846976))) fun b114 hb114 => ?_
  refine VL.va (op_cmp rfl rfl (congrArg some hb114) (ltn rfl)) rfl ?_
  refine VL.va (op_move rfl (ltn rfl)) rfl ?_
  by_cases c115 : a0 ≥ (-1152921504606846976)
  · rw [if_pos c115] at h
    obtain rfl : b114 = true := hb114.symm.trans (decide_eq_true c115)
    refine VL.va (op_move rfl (ltn rfl)) rfl ?_
    refine VL.letter (decide (a0 ≤ 1152921504606846976)) fun b116 hb116 => ?_
    refine VL.va (op_cmp rfl rfl (congrArg some hb116) (ltn rfl)) rfl ?_
    refine VL.va (op_pick rfl rfl (ltn rfl)) rfl ?_
    refine VL.va (op_assign rfl (ltn rfl)) rfl ?_
    refine VL.done ?_
    refine VN.then ?_
    refine VC.ret ?_
    obtain rfl := Option.some.inj h
    subst hb116
    exact VR.fn (rs := [.tmp 2]) [] [] [] rfl (.tmp rfl .nil) ⟨rfl, rfl, rfl⟩ trivial rfl (by decide)
  · rw [if_neg c115] at h
    obtain rfl : b114 = false := hb114.symm.trans (decide_eq_false c115)
    refine VL.un rfl rfl (ltn rfl) ?_
    refine VL.un rfl rfl (ltn rfl) ?_
    refine VL.va (op_pick rfl rfl (ltn rfl)) rfl ?_
    refine VL.va (op_assign rfl (ltn rfl)) rfl ?_
    refine VL.done ?_
    refine VN.then ?_
    refine VC.ret ?_
    obtain rfl := Option.some.inj h
    exact VR.fn (rs := [.tmp 2]) [] [] [] rfl (.tmp rfl .nil) ⟨rfl, rfl, rfl⟩ trivial rfl (by decide)
set_option maxHeartbeats 4000000 in
set_option maxRecDepth 100000 in
theorem pack_Number.ok (k : Nat) (a0 : Int)  (r1 : ByteArray) (r2 : Int) (h : pack_Number.f k a0 = some (r1, r2)) :
    VCalls Try.prog 8 [.int .i64 a0] [] (fun v G own => v = .tuple #[.string r1, .int .i64 r2] ∧ G = [] ∧ own = []) := by
  refine VCalls.intro Try.func8 rfl (len rfl) fun E hC hW hD hU => ?_
  unfold pack_Number.f at h
  refine VC.seq ?_
  refine VC.region ?_
  refine VL.va (op_assign rfl (ltn rfl)) rfl ?_
  refine VL.va (op_assign rfl (ltn rfl)) rfl ?_
  refine VL.done ?_
  refine VN.then ?_
  refine VC.seq ?_
  refine VC.seq ?_
  refine VC.region ?_
  refine VL.va (op_move rfl (ltn rfl)) rfl ?_
  replace h := Option.bind_eq_some_iff.1 h
  obtain ⟨t126, hA127, h⟩ := h
  refine VL.sC (o_call0 FO24 (pack_may.ok a0 t126 hA127) rfl rfl (ltn rfl) (All_of .nil)) rfl ?_
  rintro _ _ _ ⟨rfl, rfl, rfl⟩
  by_cases c128 : t126 = true
  · rw [if_pos c128] at h
    obtain rfl := c128
    refine VL.va (op_not rfl rfl (ltn rfl)) rfl ?_
    refine VL.done ?_
    refine VN.then ?_
    refine VC.cond_f rfl ?_
    refine VC.skip ?_
    refine VN.then ?_
    refine VC.seq ?_
    refine VC.region ?_
    refine VL.va (op_move rfl (ltn rfl)) rfl ?_
    refine VL.va (op_ari64 rfl rfl rfl (ltn rfl)) rfl ?_
    refine VL.va (op_assign rfl (ltn rfl)) rfl ?_
    refine VL.done ?_
    refine VN.then ?_
    refine VC.seq ?_
    refine VC.seq ?_
    refine VC.region ?_
    refine VL.va (op_move rfl (ltn rfl)) rfl ?_
    refine VL.letter (decide (a0 < 0)) fun b131 hb131 => ?_
    refine VL.va (op_cmp rfl rfl (congrArg some hb131) (ltn rfl)) rfl ?_
    refine VL.done ?_
    refine VN.then ?_
    by_cases c132 : a0 < 0
    · rw [if_pos c132] at h
      obtain rfl : b131 = true := hb131.symm.trans (decide_eq_true c132)
      refine VC.cond_t rfl ?_
      refine VC.region ?_
      refine VL.va (op_move rfl (ltn rfl)) rfl ?_
      refine VL.va (op_ari64 rfl rfl rfl (ltn rfl)) rfl ?_
      refine VL.va (op_ari64 rfl rfl rfl (ltn rfl)) rfl ?_
      refine VL.va (op_assign rfl (ltn rfl)) rfl ?_
      refine VL.done ?_
      refine VN.then ?_
      refine VC.seq ?_
      refine VC.region ?_
      refine VL.va (op_assign rfl (ltn rfl)) rfl ?_
      refine VL.done ?_
      refine VN.then ?_
      refine VC.seq ?_
      refine VC.block ?_
      refine VC.nilRow' 5 1 ?_
      refine VC.loop3 (fun (i176 : Int) (v178 : Value) (l179 : List Int) => ⟨33, [(2, .string (⟨#[]⟩ : ByteArray)), (3, .int .i64 0), (4, .int .i64 i176), (5, v178)], [], [], [(v178, 5, 1, l179.map enc_intu8)]⟩) (fun (ml1 : Nat) (i176 : Int) (v178 : Value) (l179 : List Int) => pack_Number.l1 k ml1 i176 l179 = some (r1, r2)) k (wrap64 ((wrap64 ((-2) * a0)) - 1)) (.slice none 0 0) ([] : List Int) [] [0] h ⟨rfl, ⟨rfl, rfl, rfl, rfl, trivial⟩, trivial, rfl, by decide, rfl, by decide⟩ (by intros; simp [pack_Number.l1]) ?_
      clear h
      intro ml1 ihl1 i176 v178 l179 h
      simp only [pack_Number.l1] at h
      refine VC.seq ?_
      refine VC.seq ?_
      refine VC.region ?_
      refine VL.va (op_move rfl (ltn rfl)) rfl ?_
      refine VL.letter (decide (i176 ≥ 128)) fun b197 hb197 => ?_
      refine VL.va (op_cmp rfl rfl (congrArg some hb197) (ltn rfl)) rfl ?_
      refine VL.done ?_
      refine VN.then ?_
      by_cases c198 : i176 ≥ 128
      · rw [if_pos c198] at h
        obtain rfl : b197 = true := hb197.symm.trans (decide_eq_true c198)
        refine VC.cond_t rfl ?_
        refine VC.skip ?_
        refine VN.then ?_
        refine VC.seq ?_
        refine VC.block ?_
        refine VC.region ?_
        refine VL.va (op_move rfl (ltn rfl)) rfl ?_
        refine VL.va (op_move rfl (ltn rfl)) rfl ?_
        refine VL.va (op_rem rfl rfl (by decide) rfl (ltn rfl)) rfl ?_
        refine VL.va (op_ari64 rfl rfl rfl (ltn rfl)) rfl ?_
        refine VL.va (op_conv Try.underlying3 Try.underlying5 rfl rfl (ltn rfl)) rfl ?_
        refine VL.sG (o_buildSlice (vals := [(0, .int .u8 (IntKind.u8.wrap (wrap64 ((i176.tmod 128) + 128))))]) (cells := #[.int .u8 (IntKind.u8.wrap (wrap64 ((i176.tmod 128) + 128)))]) (es := List.map enc_intu8 ([IntKind.u8.wrap (wrap64 ((i176.tmod 128) + 128))] : List Int)) Try.underlying49 TI5 Z5 rfl (by decide) (by decide) (by kernel_rfl) (by kernel_rfl) rfl (flat_map enc_intu8_ok _) (ltn rfl)) rfl ?_
        intro v200
        by_cases c201 : (l179.length + ([IntKind.u8.wrap (wrap64 ((i176.tmod 128) + 128))] : List Int).length) * 1 ≤ 140737488355328
        · rw [if_pos c201] at h
          refine VL.sG (o_append 1 appm Try.underlying49 EI5 rfl rfl rfl (.inr ⟨0, _, rfl⟩) (bndm c201) (ltn rfl)) rfl ?_
          intro v202
          refine VL.va (op_assign rfl (ltn rfl)) rfl ?_
          refine VL.done ?_
          refine VN.block ?_
          refine VN.then ?_
          refine VC.region ?_
          refine VL.va (op_move rfl (ltn rfl)) rfl ?_
          refine VL.va (op_quo rfl rfl (by decide) rfl (ltn rfl)) rfl ?_
          refine VL.va (op_assign rfl (ltn rfl)) rfl ?_
          refine VL.done ?_
          refine VN.again [] [1] (ihl1 (IntKind.i64.wrap (i176.tdiv 128)) v202 (l179 ++ ([IntKind.u8.wrap (wrap64 ((i176.tmod 128) + 128))] : List Int)) h) ⟨rfl, ⟨rfl, rfl, rfl, rfl, trivial⟩, trivial, rfl, by decide, rfl, by decide⟩
        · rw [if_neg c201] at h; cases h
      · rw [if_neg c198] at h
        obtain rfl : b197 = false := hb197.symm.trans (decide_eq_false c198)
        refine VC.cond_f rfl ?_
        refine VC.exit ?_
        refine VX.then ?_
        refine VX.then ?_
        refine VX.hit ?_
        refine VN.then ?_
        refine VC.seq ?_
        refine VC.region ?_
        refine VL.va (op_move rfl (ltn rfl)) rfl ?_
        refine VL.va (op_move rfl (ltn rfl)) rfl ?_
        refine VL.va (op_conv Try.underlying3 Try.underlying5 rfl rfl (ltn rfl)) rfl ?_
        refine VL.sG (o_buildSlice (vals := [(0, .int .u8 (IntKind.u8.wrap i176))]) (cells := #[.int .u8 (IntKind.u8.wrap i176)]) (es := List.map enc_intu8 ([IntKind.u8.wrap i176] : List Int)) Try.underlying49 TI5 Z5 rfl (by decide) (by decide) (by kernel_rfl) (by kernel_rfl) rfl (flat_map enc_intu8_ok _) (ltn rfl)) rfl ?_
        intro v205
        by_cases c206 : (l179.length + ([IntKind.u8.wrap i176] : List Int).length) * 1 ≤ 140737488355328
        · rw [if_pos c206] at h
          refine VL.sG (o_append 1 appm Try.underlying49 EI5 rfl rfl rfl (.inr ⟨0, _, rfl⟩) (bndm c206) (ltn rfl)) rfl ?_
          intro v207
          refine VL.va (op_bytesStr_own (xs := (l179 ++ ([IntKind.u8.wrap i176] : List Int))) 1 rfl rfl Try.underlying49 Try.underlying9 Try.underlying5 rfl rfl (ltn rfl)) rfl ?_
          refine VL.va (op_assign rfl (ltn rfl)) rfl ?_
          refine VL.va (op_assign rfl (ltn rfl)) rfl ?_
          refine VL.done ?_
          refine VN.then ?_
          refine VC.ret ?_
          simp only [Option.some.injEq, Prod.mk.injEq] at h
          obtain ⟨rfl, rfl⟩ := h
          exact VR.fn (rs := [.tmp 2, .tmp 3]) [] [] [] rfl (.tmp rfl (.tmp rfl .nil)) ⟨rfl, rfl, rfl⟩ trivial rfl (by decide)
        · rw [if_neg c206] at h; cases h
    · rw [if_neg c132] at h
      obtain rfl : b131 = false := hb131.symm.trans (decide_eq_false c132)
      refine VC.cond_f rfl ?_
      refine VC.skip ?_
      refine VN.then ?_
      refine VC.seq ?_
      refine VC.region ?_
      refine VL.va (op_assign rfl (ltn rfl)) rfl ?_
      refine VL.done ?_
      refine VN.then ?_
      refine VC.seq ?_
      refine VC.block ?_
      refine VC.nilRow' 5 1 ?_
      refine VC.loop3 (fun (i252 : Int) (v254 : Value) (l255 : List Int) => ⟨33, [(2, .string (⟨#[]⟩ : ByteArray)), (3, .int .i64 0), (4, .int .i64 i252), (5, v254)], [], [], [(v254, 5, 1, l255.map enc_intu8)]⟩) (fun (ml3 : Nat) (i252 : Int) (v254 : Value) (l255 : List Int) => pack_Number.l3 k ml3 i252 l255 = some (r1, r2)) k (wrap64 (2 * a0)) (.slice none 0 0) ([] : List Int) [] [0] h ⟨rfl, ⟨rfl, rfl, rfl, rfl, trivial⟩, trivial, rfl, by decide, rfl, by decide⟩ (by intros; simp [pack_Number.l3]) ?_
      clear h
      intro ml3 ihl3 i252 v254 l255 h
      simp only [pack_Number.l3] at h
      refine VC.seq ?_
      refine VC.seq ?_
      refine VC.region ?_
      refine VL.va (op_move rfl (ltn rfl)) rfl ?_
      refine VL.letter (decide (i252 ≥ 128)) fun b273 hb273 => ?_
      refine VL.va (op_cmp rfl rfl (congrArg some hb273) (ltn rfl)) rfl ?_
      refine VL.done ?_
      refine VN.then ?_
      by_cases c274 : i252 ≥ 128
      · rw [if_pos c274] at h
        obtain rfl : b273 = true := hb273.symm.trans (decide_eq_true c274)
        refine VC.cond_t rfl ?_
        refine VC.skip ?_
        refine VN.then ?_
        refine VC.seq ?_
        refine VC.block ?_
        refine VC.region ?_
        refine VL.va (op_move rfl (ltn rfl)) rfl ?_
        refine VL.va (op_move rfl (ltn rfl)) rfl ?_
        refine VL.va (op_rem rfl rfl (by decide) rfl (ltn rfl)) rfl ?_
        refine VL.va (op_ari64 rfl rfl rfl (ltn rfl)) rfl ?_
        refine VL.va (op_conv Try.underlying3 Try.underlying5 rfl rfl (ltn rfl)) rfl ?_
        refine VL.sG (o_buildSlice (vals := [(0, .int .u8 (IntKind.u8.wrap (wrap64 ((i252.tmod 128) + 128))))]) (cells := #[.int .u8 (IntKind.u8.wrap (wrap64 ((i252.tmod 128) + 128)))]) (es := List.map enc_intu8 ([IntKind.u8.wrap (wrap64 ((i252.tmod 128) + 128))] : List Int)) Try.underlying49 TI5 Z5 rfl (by decide) (by decide) (by kernel_rfl) (by kernel_rfl) rfl (flat_map enc_intu8_ok _) (ltn rfl)) rfl ?_
        intro v276
        by_cases c277 : (l255.length + ([IntKind.u8.wrap (wrap64 ((i252.tmod 128) + 128))] : List Int).length) * 1 ≤ 140737488355328
        · rw [if_pos c277] at h
          refine VL.sG (o_append 1 appm Try.underlying49 EI5 rfl rfl rfl (.inr ⟨0, _, rfl⟩) (bndm c277) (ltn rfl)) rfl ?_
          intro v278
          refine VL.va (op_assign rfl (ltn rfl)) rfl ?_
          refine VL.done ?_
          refine VN.block ?_
          refine VN.then ?_
          refine VC.region ?_
          refine VL.va (op_move rfl (ltn rfl)) rfl ?_
          refine VL.va (op_quo rfl rfl (by decide) rfl (ltn rfl)) rfl ?_
          refine VL.va (op_assign rfl (ltn rfl)) rfl ?_
          refine VL.done ?_
          refine VN.again [] [1] (ihl3 (IntKind.i64.wrap (i252.tdiv 128)) v278 (l255 ++ ([IntKind.u8.wrap (wrap64 ((i252.tmod 128) + 128))] : List Int)) h) ⟨rfl, ⟨rfl, rfl, rfl, rfl, trivial⟩, trivial, rfl, by decide, rfl, by decide⟩
        · rw [if_neg c277] at h; cases h
      · rw [if_neg c274] at h
        obtain rfl : b273 = false := hb273.symm.trans (decide_eq_false c274)
        refine VC.cond_f rfl ?_
        refine VC.exit ?_
        refine VX.then ?_
        refine VX.then ?_
        refine VX.hit ?_
        refine VN.then ?_
        refine VC.seq ?_
        refine VC.region ?_
        refine VL.va (op_move rfl (ltn rfl)) rfl ?_
        refine VL.va (op_move rfl (ltn rfl)) rfl ?_
        refine VL.va (op_conv Try.underlying3 Try.underlying5 rfl rfl (ltn rfl)) rfl ?_
        refine VL.sG (o_buildSlice (vals := [(0, .int .u8 (IntKind.u8.wrap i252))]) (cells := #[.int .u8 (IntKind.u8.wrap i252)]) (es := List.map enc_intu8 ([IntKind.u8.wrap i252] : List Int)) Try.underlying49 TI5 Z5 rfl (by decide) (by decide) (by kernel_rfl) (by kernel_rfl) rfl (flat_map enc_intu8_ok _) (ltn rfl)) rfl ?_
        intro v281
        by_cases c282 : (l255.length + ([IntKind.u8.wrap i252] : List Int).length) * 1 ≤ 140737488355328
        · rw [if_pos c282] at h
          refine VL.sG (o_append 1 appm Try.underlying49 EI5 rfl rfl rfl (.inr ⟨0, _, rfl⟩) (bndm c282) (ltn rfl)) rfl ?_
          intro v283
          refine VL.va (op_bytesStr_own (xs := (l255 ++ ([IntKind.u8.wrap i252] : List Int))) 1 rfl rfl Try.underlying49 Try.underlying9 Try.underlying5 rfl rfl (ltn rfl)) rfl ?_
          refine VL.va (op_assign rfl (ltn rfl)) rfl ?_
          refine VL.va (op_assign rfl (ltn rfl)) rfl ?_
          refine VL.done ?_
          refine VN.then ?_
          refine VC.ret ?_
          simp only [Option.some.injEq, Prod.mk.injEq] at h
          obtain ⟨rfl, rfl⟩ := h
          exact VR.fn (rs := [.tmp 2, .tmp 3]) [] [] [] rfl (.tmp rfl (.tmp rfl .nil)) ⟨rfl, rfl, rfl⟩ trivial rfl (by decide)
        · rw [if_neg c282] at h; cases h
  · rw [if_neg c128] at h
    obtain rfl := Bool.eq_false_iff.2 c128
    refine VL.va (op_not rfl rfl (ltn rfl)) rfl ?_
    refine VL.done ?_
    refine VN.then ?_
    refine VC.cond_t rfl ?_
    refine VC.seq ?_
    refine VC.region ?_
    refine VL.va (op_assign rfl (ltn rfl)) rfl ?_
    refine VL.va (op_assign rfl (ltn rfl)) rfl ?_
    refine VL.done ?_
    refine VN.then ?_
    refine VC.ret ?_
    refine VR.then ?_
    simp only [Option.some.injEq, Prod.mk.injEq] at h
    obtain ⟨rfl, rfl⟩ := h
    exact VR.fn (rs := [.tmp 2, .tmp 3]) [] [] [] rfl (.tmp rfl (.tmp rfl .nil)) ⟨rfl, rfl, rfl⟩ trivial rfl (by decide)
set_option maxHeartbeats 4000000 in
set_option maxRecDepth 100000 in
theorem pack_number.ok (k : Nat) (a0 : Int)  (r1 : ByteArray) (h : pack_number.f k a0 = some r1) :
    VCalls Try.prog 27 [.int .i64 a0] [] (fun v G own => v = .string r1 ∧ G = [] ∧ own = []) := by
  refine VCalls.intro Try.func27 rfl (len rfl) fun E hC hW hD hU => ?_
  unfold pack_number.f at h
  refine VC.seq ?_
  refine VC.region ?_
  refine VL.va (op_assign rfl (ltn rfl)) rfl ?_
  refine VL.done ?_
  refine VN.then ?_
  refine VC.seq ?_
  refine VC.region ?_
  refine VL.va (op_move rfl (ltn rfl)) rfl ?_
  replace h := Option.bind_eq_some_iff.1 h
  obtain ⟨⟨t285, t286⟩, hA287, h⟩ := h
  dsimp only at h
  refine VL.sC (o_call0 FO8 (pack_Number.ok k a0 t285 t286 hA287) rfl rfl (ltn rfl) (All_of .nil)) rfl ?_
  rintro _ _ _ ⟨rfl, rfl, rfl⟩
  refine VL.va (op_move rfl (ltn rfl)) rfl ?_
  refine VL.va (op_extract rfl rfl (ltn rfl)) rfl ?_
  refine VL.va (op_extract rfl rfl (ltn rfl)) rfl ?_
  refine VL.va (op_assign rfl (ltn rfl)) rfl ?_
  refine VL.va (op_assign rfl (ltn rfl)) rfl ?_
  refine VL.done ?_
  refine VN.then ?_
  refine VC.seq ?_
  refine VC.region ?_
  refine VL.va (op_move rfl (ltn rfl)) rfl ?_
  refine VL.va (op_assign rfl (ltn rfl)) rfl ?_
  refine VL.done ?_
  refine VN.then ?_
  refine VC.ret ?_
  obtain rfl := Option.some.inj h
  exact VR.fn (rs := [.tmp 2]) [] [] [] rfl (.tmp rfl .nil) ⟨rfl, rfl, rfl⟩ trivial rfl (by decide)
def lay_28_ren : Go.Shelf.Ren := ⟨fun | 166 => 28 | 240 => 32 | 276 => 33 | n => n, fun | 70 => 55 | 9 => 9 | 3 => 3 | 75 => 59 | 0 => 0 | 72 => 57 | 37 => 49 | 4 => 4 | 164 => 68 | 80 => 63 | 5 => 5 | n => n, fun | n => n⟩
theorem lay_28 : Go.Proofs.Lays.n166 Try.prog lay_28_ren where
  mixed := by kernel_rfl
  f166 := Try.func28.trans (congrArg some (by kernel_rfl))
  f240 := Try.func32.trans (congrArg some (by kernel_rfl))
  f276 := Try.func33.trans (congrArg some (by kernel_rfl))
  t0 := Try.underlying0
  a0 := Try.isAgg0
  z0 := Try.sizeOf0
  v0 := Try.zeroValue0
  t3 := Try.underlying3
  a3 := Try.isAgg3
  z3 := Try.sizeOf3
  v3 := Try.zeroValue3
  t4 := Try.underlying4
  a4 := Try.isAgg4
  z4 := Try.sizeOf4
  v4 := Try.zeroValue4
  t9 := Try.underlying9
  a9 := Try.isAgg9
  z9 := Try.sizeOf9
  v9 := Try.zeroValue9
  t20 := Try.underlying20
  a20 := Try.isAgg20
  z20 := Try.sizeOf20
  v20 := Try.zeroValue20
  t37 := Try.underlying49
  a37 := Try.isAgg49
  z37 := Try.sizeOf49
  v37 := Try.zeroValue49
  t70 := Try.underlying55
  a70 := Try.isAgg55
  z70 := Try.sizeOf55
  v70 := Try.zeroValue55
  t72 := Try.underlying57
  a72 := Try.isAgg57
  z72 := Try.sizeOf57
  v72 := Try.zeroValue57
  t75 := Try.underlying59
  a75 := Try.isAgg59
  z75 := Try.sizeOf59
  v75 := Try.zeroValue59
  t164 := Try.underlying68
  a164 := Try.isAgg68
  z164 := Try.sizeOf68
  v164 := Try.zeroValue68
theorem lay_28x : Go.Proofs.Builder.Extra Try.prog lay_28_ren where
  sizeBuilder := by kernel_rfl
  liesBuilder := by kernel_rfl
  t5 := Try.underlying5
  a5 := Try.isAgg5
  z5 := Try.sizeOf5
  v5 := Try.zeroValue5
  infoByte := by kernel_rfl
  cellsByte := by kernel_rfl
  sizeByte := by kernel_rfl
  neB5 := by decide

def lay_29_ren : Go.Shelf.Ren := ⟨fun | 169 => 29 | n => n, fun | 70 => 55 | 9 => 9 | 0 => 0 | 72 => 57 | 37 => 49 | 127 => 67 | 3 => 3 | 5 => 5 | n => n, fun | n => n⟩
theorem lay_29 : Go.Proofs.Lays.n169 Try.prog lay_29_ren where
  mixed := by kernel_rfl
  f169 := Try.func29.trans (congrArg some (by kernel_rfl))
  t0 := Try.underlying0
  a0 := Try.isAgg0
  z0 := Try.sizeOf0
  v0 := Try.zeroValue0
  t3 := Try.underlying3
  a3 := Try.isAgg3
  z3 := Try.sizeOf3
  v3 := Try.zeroValue3
  t9 := Try.underlying9
  a9 := Try.isAgg9
  z9 := Try.sizeOf9
  v9 := Try.zeroValue9
  t37 := Try.underlying49
  a37 := Try.isAgg49
  z37 := Try.sizeOf49
  v37 := Try.zeroValue49
  t70 := Try.underlying55
  a70 := Try.isAgg55
  z70 := Try.sizeOf55
  v70 := Try.zeroValue55
  t72 := Try.underlying57
  a72 := Try.isAgg57
  z72 := Try.sizeOf57
  v72 := Try.zeroValue57
  t127 := Try.underlying67
  a127 := Try.isAgg67
  z127 := Try.sizeOf67
  v127 := Try.zeroValue67
theorem lay_29x : Go.Proofs.Builder.Extra Try.prog lay_29_ren where
  sizeBuilder := by kernel_rfl
  liesBuilder := by kernel_rfl
  t5 := Try.underlying5
  a5 := Try.isAgg5
  z5 := Try.sizeOf5
  v5 := Try.zeroValue5
  infoByte := by kernel_rfl
  cellsByte := by kernel_rfl
  sizeByte := by kernel_rfl
  neB5 := by decide

theorem pack_Row.zb : (Try.prog.info? 57).bind (·.zero) = some (.agg #[.pointer none, .slice none 0 0]) := by kernel_rfl
theorem pack_Row.grows : ∀ (m : List ByteArray) (x : ByteArray), x.size ≤ (m.foldl (fun r s => r ++ s) x).size
  | [], x => Nat.le_refl _
  | s :: m, x => by
    have := pack_Row.grows m (x ++ s)
    rw [ByteArray.size_append] at this
    exact Nat.le_trans (Nat.le_add_right _ _) this
theorem pack_Row.ok (k : Nat) (l0 : List ByteArray) (v0 : Value) (r1 : ByteArray) (r2 : Int) (h : pack_Row.f k l0 = some (r1, r2)) :
    VCalls Try.prog 18 [v0] [.row v0 1 (l0.map enc_str)] (fun v G own => v = .tuple #[.string r1, .int .i64 r2] ∧ G = [] ∧ own = []) := by
  refine VCalls.introF Try.func18 rfl (len rfl) fun E hE hC hW hD hU => ?_
  unfold pack_Row.f at h
  by_cases ca : ¬ l0.all (pack_Row.ok1 k) = true
  · rw [if_neg ca] at h; cases h
  replace ca := Decidable.not_not.1 ca
  rw [if_pos ca] at h
  rw [List.all_eq_true] at ca
  refine VC.seq (VC.region ?_)
  refine VL.va (op_assign rfl (ltn rfl)) rfl ?_
  refine VL.va (op_assign rfl (ltn rfl)) rfl ?_
  refine VL.done (VN.then ?_)
  refine VC.seq (VC.region ?_)
  refine VL.step (o_makeChan (m := 16) 256 Try.underlying54 (by kernel_rfl) (by decide) (by decide) rfl (ltn rfl)) rfl ?_
  rintro _ ⟨c, hcB, -, rfl⟩
  refine VL.va (op_assign rfl (ltn rfl)) rfl ?_
  refine VL.done (VN.then ?_)
  refine VC.seq ?_
  refine VC.seq (VC.region ?_)
  refine VL.va (op_move rfl (ltn rfl)) rfl ?_
  refine VL.va (op_len (m := l0.length) 1 lenm Try.underlying39 rfl rfl (ltn rfl)) rfl ?_
  refine VL.va (op_move rfl (ltn rfl)) rfl ?_
  refine VL.done (VN.then ?_)
  refine VC.block ?_
  refine VC.loop2 (fun (i : Nat) (m : List Value) => ⟨45, [(0, v0), (2, .string ⟨#[]⟩), (3, .int .i64 0), (4, .chan (some c)), (11, v0), (12, .int .i64 (l0.length : Int)), (13, .int .i64 i)], [.ch c 256 m false, .row v0 1 (l0.map enc_str)], [], []⟩)
    (fun k' i m => i + k' = l0.length + 1 ∧ i ≤ l0.length ∧ i ≤ 256 ∧ m.length = i ∧ m = ((l0.take i).map (pack_Row.q k)).map Value.string ∧ ∀ s ∈ l0.take i, s.size ≤ 4096)
    (l0.length + 1) 0 [] [] [] ⟨by omega, by omega, by omega, rfl, rfl, by simp⟩ ⟨rfl, ⟨rfl, rfl, rfl, rfl, rfl, rfl, rfl, trivial⟩, ⟨⟨0, rfl⟩, ⟨1, rfl⟩, trivial⟩, rfl, by decide, rfl, by decide⟩ (by rintro i m ⟨h1, h2, _⟩; omega) ?_
  rintro k' ih i m ⟨hk, hil, hi2, hm, hmm, hal⟩
  refine VC.seq (VC.region ?_)
  refine VL.letter (decide ((i : Int) < (l0.length : Int))) fun b1 hb1 => ?_
  refine VL.va (op_cmp rfl rfl (congrArg some hb1) (ltn rfl)) rfl ?_
  refine VL.done (VN.then ?_)
  refine VC.seq ?_
  by_cases c1 : i < l0.length
  · obtain rfl : b1 = true := hb1.symm.trans (decide_eq_true (by omega))
    clear hb1
    refine VC.cond_t rfl (VC.skip (VN.then ?_))
    have hx : l0[i]? = some l0[i] := List.getElem?_eq_getElem c1
    have hsm : l0[i] ∈ l0 := List.getElem_mem c1
    have htk : l0.take (i + 1) = l0.take i ++ [l0[i]] := List.take_succ_eq_append_getElem c1
    generalize l0[i] = s at hx hsm htk
    refine VC.seq (VC.block ?_)
    refine VC.seq (VC.region ?_)
    refine VL.open (m := l0.length) 1 lenm rfl (by omega) ?_
    rintro ad n rfl
    refine VL.va (op_indexAddr Try.underlying39 TI9 rfl rfl (Int.natCast_nonneg i) (by omega) rfl (ltn rfl)) rfl ?_
    refine VL.va (op_load_row (sz := 1) (o := 0) 1 i 1 rfl rfl (get_map hx) TI9 rfl (by decide) (ltn rfl)) rfl ?_
    refine VL.va (op_assign rfl (ltn rfl)) rfl ?_
    refine VL.done (VN.then ?_)
    refine VC.seq (VC.seq (VC.region ?_))
    refine VL.va (op_move rfl (ltn rfl)) rfl ?_
    refine VL.va (op_lens Try.underlying9 rfl (ltn rfl)) rfl ?_
    refine VL.letter (decide ((4096 : Int) < (s.size : Int))) fun b2 hb2 => ?_
    refine VL.va (op_cmp rfl rfl (congrArg some hb2) (ltn rfl)) rfl ?_
    refine VL.done (VN.then ?_)
    by_cases c2 : 4096 < s.size
    · obtain rfl : b2 = true := hb2.symm.trans (decide_eq_true (by omega))
      have hg : ¬ (l0.length ≤ 256 ∧ l0.all (fun s => decide (s.size ≤ 4096)) = true) := by
        rintro ⟨_, h2⟩
        rw [List.all_eq_true] at h2
        have := of_decide_eq_true (h2 s hsm)
        omega
      rw [if_neg hg] at h
      obtain ⟨rfl, rfl⟩ := Prod.mk.inj (Option.some.inj h)
      refine VC.cond_t rfl ?_
      refine VC.seq (VC.region ?_)
      refine VL.va (op_assign rfl (ltn rfl)) rfl ?_
      refine VL.va (op_assign rfl (ltn rfl)) rfl ?_
      refine VL.done (VN.then ?_)
      refine VC.ret (VR.then (VR.block (VR.then (VR.then (VR.block (VR.then ?_))))))
      exact VR.fn (rs := [.tmp 2, .tmp 3]) [] [] [] rfl (.tmp rfl (.tmp rfl .nil)) ⟨rfl, rfl, rfl⟩ trivial rfl (by decide)
    obtain rfl : b2 = false := hb2.symm.trans (decide_eq_false (by omega))
    clear hb2
    refine VC.cond_f rfl (VC.skip (VN.then ?_))
    obtain ⟨nn, hn1, hn2⟩ : ∃ nn, pack_number.f k (s.size : Int) = some nn ∧ nn.size ≤ 100 := by
      have h3 := ca s hsm
      unfold pack_Row.ok1 at h3
      rw [decide_eq_false c2, Bool.false_or] at h3
      cases hq : pack_number.f k (s.size : Int) with
      | none => rw [hq] at h3; cases h3
      | some nn => rw [hq] at h3; exact ⟨nn, rfl, of_decide_eq_true h3⟩
    have hq : pack_Row.q k s = nn ++ s := by unfold pack_Row.q; rw [hn1]; rfl
    refine VC.seq (VC.seq (VC.region ?_))
    refine VL.va (op_move rfl (ltn rfl)) rfl ?_
    refine VL.done (VN.then ?_)
    refine VC.region ?_
    refine VL.va (op_move rfl (ltn rfl)) rfl ?_
    refine VL.va (op_lens Try.underlying9 rfl (ltn rfl)) rfl ?_
    refine VL.sC (o_call0 FO27 (pack_number.ok k (s.size : Int) nn hn1) rfl rfl (ltn rfl) (All_of .nil)) rfl ?_
    rintro _ _ _ ⟨rfl, rfl, rfl⟩
    refine VL.va (op_move rfl (ltn rfl)) rfl ?_
    refine VL.va (op_adds rfl rfl rfl (by omega) (ltn rfl)) rfl ?_
    refine VL.done (VN.then ?_)
    refine VC.seq (VC.comm hW ?_)
    refine VS.offer (l := m) 0 rfl rfl Z9 hcB rfl ⟨trivial, trivial⟩ rfl rfl (ltn rfl) (fun hl => ?_) (fun hl => ?_)
    · refine VS.rest hW rfl ?_
      refine VL.va (op_extract (vs := [.int .i64 0, .bool false]) rfl rfl (ltn rfl)) rfl ?_
      refine VL.va (op_cmp (b := true) rfl rfl rfl (ltn rfl)) rfl ?_
      refine VL.done (VN.then ?_)
      refine VC.block ?_
      refine VC.cond_t rfl (VC.skip (VN.block (VN.block (VN.then ?_))))
      refine VC.region ?_
      refine VL.va (op_ari64 (q := ((i + 1 : Nat) : Int)) rfl rfl (congrArg some (by show wrap64 ((i : Int) + 1) = _; unfold wrap64; omega)) (ltn rfl)) rfl ?_
      refine VL.va (op_move rfl (ltn rfl)) rfl ?_
      refine VL.done ?_
      refine VN.again [] [] (ih (i + 1) (m ++ [.string (nn ++ s)]) ⟨by omega, by omega, by omega, by rw [List.length_append, hm]; rfl, ?_, ?_⟩) ⟨rfl, ⟨rfl, rfl, rfl, rfl, rfl, rfl, rfl, trivial⟩, ⟨⟨0, rfl⟩, ⟨1, rfl⟩, trivial⟩, rfl, by decide, rfl, by decide⟩
      · rw [htk, List.map_append, List.map_append, ← hmm, ← hq]
        rfl
      · rw [htk]
        intro y hy
        rcases List.mem_append.1 hy with hy | hy
        · exact hal y hy
        · rw [List.mem_singleton] at hy
          subst hy
          omega
    · have hg : ¬ (l0.length ≤ 256 ∧ l0.all (fun s => decide (s.size ≤ 4096)) = true) := by
        rintro ⟨h2, _⟩
        omega
      rw [if_neg hg] at h
      obtain ⟨rfl, rfl⟩ := Prod.mk.inj (Option.some.inj h)
      refine VS.rest hW rfl ?_
      refine VL.va (op_extract (vs := [.int .i64 (-1), .bool false]) rfl rfl (ltn rfl)) rfl ?_
      refine VL.va (op_cmp (b := false) rfl rfl rfl (ltn rfl)) rfl ?_
      refine VL.done (VN.then ?_)
      refine VC.block ?_
      refine VC.cond_f rfl ?_
      refine VC.seq (VC.region ?_)
      refine VL.va (op_assign rfl (ltn rfl)) rfl ?_
      refine VL.va (op_assign rfl (ltn rfl)) rfl ?_
      refine VL.done (VN.then ?_)
      refine VC.ret (VR.block (VR.block (VR.then (VR.then (VR.block (VR.then ?_))))))
      exact VR.fn (rs := [.tmp 2, .tmp 3]) [] [] [] rfl (.tmp rfl (.tmp rfl .nil)) ⟨rfl, rfl, rfl⟩ trivial rfl (by decide)
  obtain rfl : b1 = false := hb1.symm.trans (decide_eq_false (by omega))
  clear hb1 ih
  obtain rfl : i = l0.length := by omega
  rw [List.take_length] at hmm hal
  have hg : l0.length ≤ 256 ∧ l0.all (fun s => decide (s.size ≤ 4096)) = true := ⟨hi2, by rw [List.all_eq_true]; exact fun s hs => decide_eq_true (hal s hs)⟩
  rw [if_pos hg] at h
  obtain ⟨hd, hhd, h⟩ := Option.bind_eq_some_iff.1 h
  generalize hm0 : l0.map (pack_Row.q k) = m0 at hmm h
  by_cases c4 : ¬ (m0.foldl (fun r s => r ++ s) hd).size ≤ 140737488355328
  · rw [if_neg c4] at h; cases h
  replace c4 := Decidable.not_not.1 c4
  rw [if_pos c4] at h
  obtain ⟨h5, rfl⟩ := Prod.mk.inj (Option.some.inj h)
  rw [h5] at c4
  clear h hal
  subst hmm
  refine VC.cond_f rfl ?_
  refine VC.exit (VX.then (VX.then (VX.hit (VN.then ?_))))
  refine VC.seq (VC.region ?_)
  refine VL.va (op_move rfl (ltn rfl)) rfl ?_
  refine VL.step1 (o_close 0 hcB rfl ⟨trivial, trivial⟩ rfl) rfl ?_
  refine VL.done (VN.then ?_)
  refine VC.seq (VC.region ?_)
  refine VL.sG (o_alloc pack_Row.zb rfl (ltn rfl)) rfl ?_
  intro b
  refine VL.done (VN.then ?_)
  refine VC.toBld (e := 5) 0 hU rfl fun hbB hoff => ?_
  have hcb : c ≠ b := (hoff (.ch c 256 (m0.map Value.string) true) (List.mem_cons_self ..)).1
  clear hoff
  refine VC.seq (VC.region ?_)
  refine VL.va (op_move rfl (ltn rfl)) rfl ?_
  refine VL.va (op_len (m := l0.length) 2 lenm Try.underlying39 rfl rfl (ltn rfl)) rfl ?_
  refine VL.sC (o_call0 FO27 (pack_number.ok k (l0.length : Int) hd hhd) rfl rfl (ltn rfl) (All_of .nil)) rfl ?_
  rintro _ _ _ ⟨rfl, rfl, rfl⟩
  have hfirm : ∀ (F : List Fact) (l : List Value), (Fact.ch c 256 l true) ∈ F → ∀ x ∈ [Fact.ch c 256 l true], x ∈ F ∧ x.firm := by
    intro F l hF x hx
    rw [List.mem_singleton] at hx
    subst hx
    exact ⟨hF, Fact.firm_ch⟩
  refine VL.step (o_write (xs := ⟨#[]⟩) [.ch c 256 (m0.map Value.string) true] [] FO28 lay_28 lay_28x rfl rfl rfl hbB (List.mem_cons_self ..) (hfirm _ _ (List.mem_cons_of_mem _ (List.mem_cons_self ..))) (fun _ h => by cases h) hC rfl rfl rfl (by
    have := pack_Row.grows m0 hd
    rw [h5] at this
    show 0 + hd.size ≤ _
    omega) (ltn rfl)) rfl ?_
  rintro _ ⟨g, hoff, rfl⟩
  have hcg : c ≠ g := (hoff (.ch c 256 (m0.map Value.string) true) (List.mem_cons_self ..)).1
  clear hoff
  refine VL.done (VN.then ?_)
  refine VC.block ?_
  have he : (⟨#[]⟩ ++ hd : ByteArray) = hd := ByteArray.empty_append
  rw [he]
  refine VC.loop3 (fun (g : Nat) (m : List ByteArray) (X : ByteArray) => ⟨45, [(4, .chan (some c)), (7, .pointer (some ⟨b, 0, none⟩))], [.bld 57 5 b g X, .ch c 256 (m.map Value.string) true], [], []⟩)
    (fun k' g m X => k' = m.length + 1 ∧ c ≠ g ∧ m.foldl (fun r s => r ++ s) X = r1) (m0.length + 1) g m0 hd [] [] ⟨rfl, hcg, h5⟩ ⟨rfl, ⟨rfl, rfl, trivial⟩, ⟨⟨0, rfl⟩, ⟨1, rfl⟩, trivial⟩, rfl, by decide, rfl, by decide⟩ (by rintro g m X ⟨h1, _⟩; omega) ?_
  clear h5 hcg he hm0 hm
  rintro k' ih g m X ⟨hk, hcg, h5⟩
  refine VC.block ?_
  refine VC.seq (VC.comm hW ?_)
  refine VS.va rfl (op_move rfl (ltn rfl)) rfl ?_
  refine VS.recv (l := m.map Value.string) 1 rfl rfl Try.underlying54 Z9 hcB rfl ⟨⟨fun e => hcb e.symm, fun e => hcg e.symm⟩, trivial⟩ rfl (ltn rfl) (fun v l' hl => ?_) (fun hl => ?_)
  · cases m with
    | nil => cases hl
    | cons s m =>
      simp only [List.map_cons, List.cons.injEq] at hl
      obtain ⟨rfl, rfl⟩ := hl
      refine VS.rest hW rfl ?_
      refine VL.va (op_move rfl (ltn rfl)) rfl ?_
      refine VL.va (op_extract (vs := [.string s, .bool true]) rfl rfl (ltn rfl)) rfl ?_
      refine VL.va (op_extract (vs := [.string s, .bool true]) rfl rfl (ltn rfl)) rfl ?_
      refine VL.va (op_assign rfl (ltn rfl)) rfl ?_
      refine VL.va (op_assign rfl (ltn rfl)) rfl ?_
      refine VL.done (VN.then ?_)
      refine VC.seq (VC.seq (VC.region ?_))
      refine VL.va (op_move rfl (ltn rfl)) rfl ?_
      refine VL.va (op_not rfl rfl (ltn rfl)) rfl ?_
      refine VL.done (VN.then ?_)
      refine VC.cond_f rfl (VC.skip (VN.then ?_))
      refine VC.region ?_
      refine VL.va (op_move rfl (ltn rfl)) rfl ?_
      refine VL.step (o_write [.ch c 256 (m.map Value.string) true] [] FO28 lay_28 lay_28x rfl rfl rfl hbB (List.mem_cons_self ..) (hfirm _ _ (List.mem_cons_of_mem _ (List.mem_cons_self ..))) (fun _ h => by cases h) hC rfl rfl rfl (by
        have := pack_Row.grows m (X ++ s)
        rw [show m.foldl (fun r s => r ++ s) (X ++ s) = r1 from h5, ByteArray.size_append] at this
        omega) (ltn rfl)) rfl ?_
      rintro _ ⟨g2, hoff, rfl⟩
      refine VL.done (VN.block ?_)
      exact VN.again [] [] (ih g2 m (X ++ s) ⟨by simpa using hk, (hoff (.ch c 256 (m.map Value.string) true) (List.mem_cons_self ..)).1, h5⟩) ⟨rfl, ⟨rfl, rfl, trivial⟩, ⟨⟨0, rfl⟩, ⟨1, rfl⟩, trivial⟩, rfl, by decide, rfl, by decide⟩
  · cases m with
    | cons s m => cases hl
    | nil =>
      obtain rfl := h5
      refine VS.rest hW rfl ?_
      refine VL.va (op_move rfl (ltn rfl)) rfl ?_
      refine VL.va (op_extract (vs := [.string ⟨#[]⟩, .bool false]) rfl rfl (ltn rfl)) rfl ?_
      refine VL.va (op_extract (vs := [.string ⟨#[]⟩, .bool false]) rfl rfl (ltn rfl)) rfl ?_
      refine VL.va (op_assign rfl (ltn rfl)) rfl ?_
      refine VL.va (op_assign rfl (ltn rfl)) rfl ?_
      refine VL.done (VN.then ?_)
      refine VC.seq (VC.seq (VC.region ?_))
      refine VL.va (op_move rfl (ltn rfl)) rfl ?_
      refine VL.va (op_not rfl rfl (ltn rfl)) rfl ?_
      refine VL.done (VN.then ?_)
      refine VC.cond_t rfl ?_
      refine VC.seq (VC.region ?_)
      refine VL.step1 (o_bstring FO29 lay_29 lay_29x rfl rfl rfl hbB (List.mem_cons_self ..) rfl rfl (ltn rfl)) rfl ?_
      refine VL.va (op_assign rfl (ltn rfl)) rfl ?_
      refine VL.va (op_assign rfl (ltn rfl)) rfl ?_
      refine VL.done (VN.then ?_)
      refine VC.ret (VR.then (VR.block (VR.then (VR.block ?_))))
      exact VR.fn (rs := [.tmp 2, .tmp 3]) [] [] [] rfl (.tmp rfl (.tmp rfl .nil)) ⟨rfl, rfl, rfl⟩ trivial rfl (by decide)

end Go.Proofs.Ytacenfolbmdpoaa.PPackRows
