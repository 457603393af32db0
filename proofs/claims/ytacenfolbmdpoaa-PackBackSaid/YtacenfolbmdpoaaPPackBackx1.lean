/- Written by a program of this repo: what the program's functions do, each as a Lean function, shown of the loaded code; or a statement's row over that; no condition of its own. -/
import Derived.Test.YtacenfolbmdpoaaPPackBackx0
namespace Go.Proofs.Ytacenfolbmdpoaa.PPackBack
open Go Go.RowKit Go.Proofs.YtacenfolbmdpoaaV
set_option linter.unusedVariables false
set_option linter.unusedSimpArgs false

set_option maxHeartbeats 4000000 in
set_option maxRecDepth 100000 in
theorem tarrylaw01_few.ok (k : Nat) (l0 : List ByteArray) (v0 : Value) (r1 : List ByteArray) (h : tarrylaw01_few.f k l0 = some r1) :
    VCalls Try.prog 17 [v0] [.row v0 1 (l0.map enc_str)] (fun v G own => ∃ w0 : Value, v = w0 ∧ G = [] ∧ own = [(w0, 9, 1, r1.map enc_str)]) := by
  refine VCalls.intro Try.func17 rfl (len rfl) fun E hC hW hD hU => ?_
  unfold tarrylaw01_few.f at h
  refine VC.seq ?_
  refine VC.region ?_
  refine VL.va (op_assign rfl (ltn rfl)) rfl ?_
  refine VL.done ?_
  refine VN.then ?_
  refine VC.seq ?_
  refine VC.region ?_
  refine VL.va (op_assign rfl (ltn rfl)) rfl ?_
  refine VL.done ?_
  refine VN.then ?_
  refine VC.seq ?_
  refine VC.seq ?_
  refine VC.region ?_
  refine VL.va (op_move rfl (ltn rfl)) rfl ?_
  refine VL.va (op_move rfl (ltn rfl)) rfl ?_
  refine VL.va (op_len (m := l0.length) 0 lenm Try.underlying39 rfl rfl (ltn rfl)) rfl ?_
  refine VL.va (op_min rfl rfl (ltn rfl)) rfl ?_
  by_cases c54 : 0 ≤ mn (l0.length : Int) 258
  · rw [if_pos c54] at h
    by_cases c55 : (mn (l0.length : Int) 258) ≤ (l0.length : Int)
    · rw [if_pos c55] at h
      refine VL.sG (o_slice (m := l0.length) 0 0 ((mn (l0.length : Int) 258).toNat) lenm cutm Try.underlying39 TI9 rfl rfl ⟨rfl, ⟨_, _, rfl, c54, rfl⟩, by omega, by omega⟩ (ltn rfl)) rfl ?_
      intro v57
      refine VL.va (op_len (m := ((l0.take ((mn (l0.length : Int) 258).toNat)).drop 0).length) 0 lenm Try.underlying39 rfl rfl (ltn rfl)) rfl ?_
      refine VL.va (op_move rfl (ltn rfl)) rfl ?_
      refine VL.done ?_
      refine VN.then ?_
      refine VC.block ?_
      refine VC.nilRow' 9 1 ?_
      refine VC.loop3 (fun (v73 : Value) (l74 : List ByteArray) (i76 : Int) => ⟨26, [(2, .slice none 0 0), (3, v73), (10, v57), (11, .int .i64 (((l0.take ((mn (l0.length : Int) 258).toNat)).drop 0).length : Int)), (12, .int .i64 i76)], [.row v57 1 (((l0.take ((mn (l0.length : Int) 258).toNat)).drop 0).map enc_str)], [], [(v73, 9, 1, l74.map enc_str)]⟩) (fun (ml1 : Nat) (v73 : Value) (l74 : List ByteArray) (i76 : Int) => tarrylaw01_few.l1 k l0 ml1 l74 i76 = some r1) k (.slice none 0 0) ([] : List ByteArray) 0 [] [0] h ⟨rfl, ⟨rfl, rfl, rfl, rfl, rfl, trivial⟩, ⟨⟨0, rfl⟩, trivial⟩, rfl, by decide, rfl, by decide⟩ (by intros; simp [tarrylaw01_few.l1]) ?_
      clear h
      intro ml1 ihl1 v73 l74 i76 h
      simp only [tarrylaw01_few.l1] at h
      refine VC.seq ?_
      refine VC.region ?_
      refine VL.letter (decide (i76 < (((l0.take ((mn (l0.length : Int) 258).toNat)).drop 0).length : Int))) fun b91 hb91 => ?_
      refine VL.va (op_cmp rfl rfl (congrArg some hb91) (ltn rfl)) rfl ?_
      refine VL.done ?_
      refine VN.then ?_
      refine VC.seq ?_
      by_cases c93 : i76 < (((l0.take ((mn (l0.length : Int) 258).toNat)).drop 0).length : Int)
      · rw [if_pos c93] at h
        obtain rfl : b91 = true := hb91.symm.trans (decide_eq_true c93)
        refine VC.cond_t rfl ?_
        refine VC.skip ?_
        refine VN.then ?_
        refine VC.seq ?_
        refine VC.block ?_
        refine VC.seq ?_
        refine VC.region ?_
        by_cases c94 : 0 ≤ i76
        · rw [if_pos c94] at h
          replace h := Option.bind_eq_some_iff.1 h
          obtain ⟨x95, hx95, h⟩ := h
          refine VL.open (m := ((l0.take ((mn (l0.length : Int) 258).toNat)).drop 0).length) 0 lenm rfl (pos_get hx95) ?_
          rintro ad96 n97 rfl
          refine VL.va (op_indexAddr Try.underlying39 TI9 rfl rfl c94 (lt_get c94 hx95) rfl (ltn rfl)) rfl ?_
          refine VL.va (op_load_row (sz := 1) (o := 0) 0 i76.toNat 1 rfl rfl (get_map hx95) TI9 rfl (by decide) (ltn rfl)) rfl ?_
          refine VL.va (op_assign rfl (ltn rfl)) rfl ?_
          refine VL.done ?_
          refine VN.then ?_
          refine VC.region ?_
          refine VL.va (op_move rfl (ltn rfl)) rfl ?_
          refine VL.va (op_move rfl (ltn rfl)) rfl ?_
          refine VL.va (op_move rfl (ltn rfl)) rfl ?_
          refine VL.va (op_lens Try.underlying9 rfl (ltn rfl)) rfl ?_
          refine VL.va (op_min rfl rfl (ltn rfl)) rfl ?_
          by_cases c98 : 0 ≤ mn (x95.size : Int) 4100
          · rw [if_pos c98] at h
            by_cases c99 : (mn (x95.size : Int) 4100) ≤ (x95.size : Int)
            · rw [if_pos c99] at h
              refine VL.va (op_sliceS 0 ((mn (x95.size : Int) 4100).toNat) Try.underlying9 rfl ⟨rfl, ⟨_, _, rfl, c98, rfl⟩, by omega, by omega⟩ rfl (ltn rfl)) rfl ?_
              refine VL.sG (o_buildSlice (vals := [(0, .string (x95.extract 0 ((mn (x95.size : Int) 4100).toNat)))]) (cells := #[.string (x95.extract 0 ((mn (x95.size : Int) 4100).toNat))]) (es := List.map enc_str ([x95.extract 0 ((mn (x95.size : Int) 4100).toNat)] : List ByteArray)) Try.underlying39 TI9 Z9 rfl (by decide) (by decide) (by kernel_rfl) (by kernel_rfl) rfl (flat_map enc_str_ok _) (ltn rfl)) rfl ?_
              intro v101
              by_cases c102 : (l74.length + ([x95.extract 0 ((mn (x95.size : Int) 4100).toNat)] : List ByteArray).length) * 16 ≤ 140737488355328
              · rw [if_pos c102] at h
                refine VL.sG (o_append 1 appm Try.underlying39 EI9 rfl rfl rfl (.inr ⟨0, _, rfl⟩) (bndm c102) (ltn rfl)) rfl ?_
                intro v103
                refine VL.va (op_assign rfl (ltn rfl)) rfl ?_
                refine VL.done ?_
                refine VN.block ?_
                refine VN.then ?_
                refine VC.region ?_
                refine VL.va (op_ari64 rfl rfl rfl (ltn rfl)) rfl ?_
                refine VL.va (op_move rfl (ltn rfl)) rfl ?_
                refine VL.done ?_
                refine VN.again [] [1] (ihl1 v103 (l74 ++ ([x95.extract 0 ((mn (x95.size : Int) 4100).toNat)] : List ByteArray)) (wrap64 (i76 + 1)) h) ⟨rfl, ⟨rfl, rfl, rfl, rfl, rfl, trivial⟩, ⟨⟨0, rfl⟩, trivial⟩, rfl, by decide, rfl, by decide⟩
              · rw [if_neg c102] at h; cases h
            · rw [if_neg c99] at h; cases h
          · rw [if_neg c98] at h; cases h
        · rw [if_neg c94] at h; cases h
      · rw [if_neg c93] at h
        obtain rfl : b91 = false := hb91.symm.trans (decide_eq_false c93)
        refine VC.cond_f rfl ?_
        refine VC.exit ?_
        refine VX.then ?_
        refine VX.then ?_
        refine VX.hit ?_
        refine VN.then ?_
        refine VC.seq ?_
        refine VC.region ?_
        refine VL.va (op_move rfl (ltn rfl)) rfl ?_
        refine VL.va (op_assign rfl (ltn rfl)) rfl ?_
        refine VL.done ?_
        refine VN.then ?_
        refine VC.ret ?_
        obtain rfl := Option.some.inj h
        exact VR.fn (rs := [.tmp 2]) [] [(v73, 9, 1, l74.map enc_str)] [0] rfl (.tmp rfl .nil) ⟨v73, rfl, rfl, rfl⟩ trivial rfl (by decide)
    · rw [if_neg c55] at h; cases h
  · rw [if_neg c54] at h; cases h
set_option maxHeartbeats 4000000 in
set_option maxRecDepth 100000 in
theorem pack_may.ok (a0 : Int)  (r1 : Bool) (h : pack_may.f a0 = some r1) :
    VCalls Try.prog 24 [.int .i64 a0] [] (fun v G own => v = .bool r1 ∧ G = [] ∧ own = []) := by
  refine VCalls.intro Try.func24 rfl (len rfl) fun E hC hW hD hU => ?_
  unfold pack_may.f at h
  refine VC.seq ?_
  refine VC.region ?_
  refine VL.va (op_assign rfl (ltn rfl)) rfl ?_
  refine VL.done ?_
  refine VN.then ?_
  refine VC.seq ?_
  refine VC.region ?_
  refine VL.va (op_move rfl (ltn rfl)) rfl ?_
  refine VL.letter (decide (a0 ≥ (-1152921504606846976))) fun b114 hb114 => ?_
  refine VL.va (op_cmp rfl rfl (congrArg some hb114) (ltn rfl)) rfl ?_
  refine VL.va (op_move rfl (ltn rfl)) rfl ?_
  by_cases c115 : a0 ≥ (-1152921504606846976)
  · rw [if_pos c115] at h
    obtain rfl : b114 = true := hb114.symm.trans (decide_eq_true c115)
    refine VL.va (op_move rfl (ltn rfl)) rfl ?_
    refine VL.letter (decide (a0 ≤ 1152921504606846976)) fun b116 hb116 => ?_
    refine VL.va (op_cmp rfl rfl (congrArg some hb116) (ltn rfl)) rfl ?_
    refine VL.va (op_pick rfl rfl (ltn rfl)) rfl ?_
    refine VL.va (op_assign rfl (ltn rfl)) rfl ?_
    refine VL.done ?_
    refine VN.then ?_
    refine VC.ret ?_
    obtain rfl := Option.some.inj h
    subst hb116
    exact VR.fn (rs := [.tmp 2]) [] [] [] rfl (.tmp rfl .nil) ⟨rfl, rfl, rfl⟩ trivial rfl (by decide)
  · rw [if_neg c115] at h
    obtain rfl : b114 = false := hb114.symm.trans (decide_eq_false c115)
    refine VL.un rfl rfl (ltn rfl) ?_
    refine VL.un rfl rfl (ltn rfl) ?_
    refine VL.va (op_pick rfl rfl (ltn rfl)) rfl ?_
    refine VL.va (op_assign rfl (ltn rfl)) rfl ?_
    refine VL.done ?_
    refine VN.then ?_
    refine VC.ret ?_
    obtain rfl := Option.some.inj h
    exact VR.fn (rs := [.tmp 2]) [] [] [] rfl (.tmp rfl .nil) ⟨rfl, rfl, rfl⟩ trivial rfl (by decide)
set_option maxHeartbeats 4000000 in
set_option maxRecDepth 100000 in
theorem pack_Number.ok (k : Nat) (a0 : Int)  (r1 : ByteArray) (r2 : Int) (h : pack_Number.f k a0 = some (r1, r2)) :
    VCalls Try.prog 8 [.int .i64 a0] [] (fun v G own => v = .tuple #[.string r1, .int .i64 r2] ∧ G = [] ∧ own = []) := by
  refine VCalls.intro Try.func8 rfl (len rfl) fun E hC hW hD hU => ?_
  unfold pack_Number.f at h
  refine VC.seq ?_
  refine VC.region ?_
  refine VL.va (op_assign rfl (ltn rfl)) rfl ?_
  refine VL.va (op_assign rfl (ltn rfl)) rfl ?_
  refine VL.done ?_
  refine VN.then ?_
  refine VC.seq ?_
  refine VC.seq ?_
  refine VC.region ?_
  refine VL.va (op_move rfl (ltn rfl)) rfl ?_
  replace h := Option.bind_eq_some_iff.1 h
  obtain ⟨t126, hA127, h⟩ := h
  refine VL.sC (o_call0 FO24 (pack_may.ok a0 t126 hA127) rfl rfl (ltn rfl) (All_of .nil)) rfl ?_
  rintro _ _ _ ⟨rfl, rfl, rfl⟩
  by_cases c128 : t126 = true
  · rw [if_pos c128] at h
    obtain rfl := c128
    refine VL.va (op_not rfl rfl (ltn rfl)) rfl ?_
    refine VL.done ?_
    refine VN.then ?_
    refine VC.cond_f rfl ?_
    refine VC.skip ?_
    refine VN.then ?_
    refine VC.seq ?_
    refine VC.region ?_
    refine VL.va (op_move rfl (ltn rfl)) rfl ?_
    refine VL.va (op_ari64 rfl rfl rfl (ltn rfl)) rfl ?_
    refine VL.va (op_assign rfl (ltn rfl)) rfl ?_
    refine VL.done ?_
    refine VN.then ?_
    refine VC.seq ?_
    refine VC.seq ?_
    refine VC.region ?_
    refine VL.va (op_move rfl (ltn rfl)) rfl ?_
    refine VL.letter (decide (a0 < 0)) fun b131 hb131 => ?_
    refine VL.va (op_cmp rfl rfl (congrArg some hb131) (ltn rfl)) rfl ?_
    refine VL.done ?_
    refine VN.then ?_
    by_cases c132 : a0 < 0
    · rw [if_pos c132] at h
      obtain rfl : b131 = true := hb131.symm.trans (decide_eq_true c132)
      refine VC.cond_t rfl ?_
      refine VC.region ?_
      refine VL.va (op_move rfl (ltn rfl)) rfl ?_
      refine VL.va (op_ari64 rfl rfl rfl (ltn rfl)) rfl ?_
      refine VL.va (op_ari64 rfl rfl rfl (ltn rfl)) rfl ?_
      refine VL.va (op_assign rfl (ltn rfl)) rfl ?_
      refine VL.done ?_
      refine VN.then ?_
      refine VC.seq ?_
      refine VC.region ?_
      refine VL.va (op_assign rfl (ltn rfl)) rfl ?_
      refine VL.done ?_
      refine VN.then ?_
      refine VC.seq ?_
      refine VC.block ?_
      refine VC.nilRow' 5 1 ?_
      refine VC.loop3 (fun (i176 : Int) (v178 : Value) (l179 : List Int) => ⟨33, [(2, .string (⟨#[]⟩ : ByteArray)), (3, .int .i64 0), (4, .int .i64 i176), (5, v178)], [], [], [(v178, 5, 1, l179.map enc_intu8)]⟩) (fun (ml1 : Nat) (i176 : Int) (v178 : Value) (l179 : List Int) => pack_Number.l1 k ml1 i176 l179 = some (r1, r2)) k (wrap64 ((wrap64 ((-2) * a0)) - 1)) (.slice none 0 0) ([] : List Int) [] [0] h ⟨rfl, ⟨rfl, rfl, rfl, rfl, trivial⟩, trivial, rfl, by decide, rfl, by decide⟩ (by intros; simp [pack_Number.l1]) ?_
      clear h
      intro ml1 ihl1 i176 v178 l179 h
      simp only [pack_Number.l1] at h
      refine VC.seq ?_
      refine VC.seq ?_
      refine VC.region ?_
      refine VL.va (op_move rfl (ltn rfl)) rfl ?_
      refine VL.letter (decide (i176 ≥ 128)) fun b197 hb197 => ?_
      refine VL.va (op_cmp rfl rfl (congrArg some hb197) (ltn rfl)) rfl ?_
      refine VL.done ?_
      refine VN.then ?_
      by_cases c198 : i176 ≥ 128
      · rw [if_pos c198] at h
        obtain rfl : b197 = true := hb197.symm.trans (decide_eq_true c198)
        refine VC.cond_t rfl ?_
        refine VC.skip ?_
        refine VN.then ?_
        refine VC.seq ?_
        refine VC.block ?_
        refine VC.region ?_
        refine VL.va (op_move rfl (ltn rfl)) rfl ?_
        refine VL.va (op_move rfl (ltn rfl)) rfl ?_
        refine VL.va (op_rem rfl rfl (by decide) rfl (ltn rfl)) rfl ?_
        refine VL.va (op_ari64 rfl rfl rfl (ltn rfl)) rfl ?_
        refine VL.va (op_conv Try.underlying3 Try.underlying5 rfl rfl (ltn rfl)) rfl ?_
        refine VL.sG (o_buildSlice (vals := [(0, .int .u8 (IntKind.u8.wrap (wrap64 ((i176.tmod 128) + 128))))]) (cells := #[.int .u8 (IntKind.u8.wrap (wrap64 ((i176.tmod 128) + 128)))]) (es := List.map enc_intu8 ([IntKind.u8.wrap (wrap64 ((i176.tmod 128) + 128))] : List Int)) Try.underlying49 TI5 Z5 rfl (by decide) (by decide) (by kernel_rfl) (by kernel_rfl) rfl (flat_map enc_intu8_ok _) (ltn rfl)) rfl ?_
        intro v200
        by_cases c201 : (l179.length + ([IntKind.u8.wrap (wrap64 ((i176.tmod 128) + 128))] : List Int).length) * 1 ≤ 140737488355328
        · rw [if_pos c201] at h
          refine VL.sG (o_append 1 appm Try.underlying49 EI5 rfl rfl rfl (.inr ⟨0, _, rfl⟩) (bndm c201) (ltn rfl)) rfl ?_
          intro v202
          refine VL.va (op_assign rfl (ltn rfl)) rfl ?_
          refine VL.done ?_
          refine VN.block ?_
          refine VN.then ?_
          refine VC.region ?_
          refine VL.va (op_move rfl (ltn rfl)) rfl ?_
          refine VL.va (op_quo rfl rfl (by decide) rfl (ltn rfl)) rfl ?_
          refine VL.va (op_assign rfl (ltn rfl)) rfl ?_
          refine VL.done ?_
          refine VN.again [] [1] (ihl1 (IntKind.i64.wrap (i176.tdiv 128)) v202 (l179 ++ ([IntKind.u8.wrap (wrap64 ((i176.tmod 128) + 128))] : List Int)) h) ⟨rfl, ⟨rfl, rfl, rfl, rfl, trivial⟩, trivial, rfl, by decide, rfl, by decide⟩
        · rw [if_neg c201] at h; cases h
      · rw [if_neg c198] at h
        obtain rfl : b197 = false := hb197.symm.trans (decide_eq_false c198)
        refine VC.cond_f rfl ?_
        refine VC.exit ?_
        refine VX.then ?_
        refine VX.then ?_
        refine VX.hit ?_
        refine VN.then ?_
        refine VC.seq ?_
        refine VC.region ?_
        refine VL.va (op_move rfl (ltn rfl)) rfl ?_
        refine VL.va (op_move rfl (ltn rfl)) rfl ?_
        refine VL.va (op_conv Try.underlying3 Try.underlying5 rfl rfl (ltn rfl)) rfl ?_
        refine VL.sG (o_buildSlice (vals := [(0, .int .u8 (IntKind.u8.wrap i176))]) (cells := #[.int .u8 (IntKind.u8.wrap i176)]) (es := List.map enc_intu8 ([IntKind.u8.wrap i176] : List Int)) Try.underlying49 TI5 Z5 rfl (by decide) (by decide) (by kernel_rfl) (by kernel_rfl) rfl (flat_map enc_intu8_ok _) (ltn rfl)) rfl ?_
        intro v205
        by_cases c206 : (l179.length + ([IntKind.u8.wrap i176] : List Int).length) * 1 ≤ 140737488355328
        · rw [if_pos c206] at h
          refine VL.sG (o_append 1 appm Try.underlying49 EI5 rfl rfl rfl (.inr ⟨0, _, rfl⟩) (bndm c206) (ltn rfl)) rfl ?_
          intro v207
          refine VL.va (op_bytesStr_own (xs := (l179 ++ ([IntKind.u8.wrap i176] : List Int))) 1 rfl rfl Try.underlying49 Try.underlying9 Try.underlying5 rfl rfl (ltn rfl)) rfl ?_
          refine VL.va (op_assign rfl (ltn rfl)) rfl ?_
          refine VL.va (op_assign rfl (ltn rfl)) rfl ?_
          refine VL.done ?_
          refine VN.then ?_
          refine VC.ret ?_
          simp only [Option.some.injEq, Prod.mk.injEq] at h
          obtain ⟨rfl, rfl⟩ := h
          exact VR.fn (rs := [.tmp 2, .tmp 3]) [] [] [] rfl (.tmp rfl (.tmp rfl .nil)) ⟨rfl, rfl, rfl⟩ trivial rfl (by decide)
        · rw [if_neg c206] at h; cases h
    · rw [if_neg c132] at h
      obtain rfl : b131 = false := hb131.symm.trans (decide_eq_false c132)
      refine VC.cond_f rfl ?_
      refine VC.skip ?_
      refine VN.then ?_
      refine VC.seq ?_
      refine VC.region ?_
      refine VL.va (op_assign rfl (ltn rfl)) rfl ?_
      refine VL.done ?_
      refine VN.then ?_
      refine VC.seq ?_
      refine VC.block ?_
      refine VC.nilRow' 5 1 ?_
      refine VC.loop3 (fun (i252 : Int) (v254 : Value) (l255 : List Int) => ⟨33, [(2, .string (⟨#[]⟩ : ByteArray)), (3, .int .i64 0), (4, .int .i64 i252), (5, v254)], [], [], [(v254, 5, 1, l255.map enc_intu8)]⟩) (fun (ml3 : Nat) (i252 : Int) (v254 : Value) (l255 : List Int) => pack_Number.l3 k ml3 i252 l255 = some (r1, r2)) k (wrap64 (2 * a0)) (.slice none 0 0) ([] : List Int) [] [0] h ⟨rfl, ⟨rfl, rfl, rfl, rfl, trivial⟩, trivial, rfl, by decide, rfl, by decide⟩ (by intros; simp [pack_Number.l3]) ?_
      clear h
      intro ml3 ihl3 i252 v254 l255 h
      simp only [pack_Number.l3] at h
      refine VC.seq ?_
      refine VC.seq ?_
      refine VC.region ?_
      refine VL.va (op_move rfl (ltn rfl)) rfl ?_
      refine VL.letter (decide (i252 ≥ 128)) fun b273 hb273 => ?_
      refine VL.va (op_cmp rfl rfl (congrArg some hb273) (ltn rfl)) rfl ?_
      refine VL.done ?_
      refine VN.then ?_
      by_cases c274 : i252 ≥ 128
      · rw [if_pos c274] at h
        obtain rfl : b273 = true := hb273.symm.trans (decide_eq_true c274)
        refine VC.cond_t rfl ?_
        refine VC.skip ?_
        refine VN.then ?_
        refine VC.seq ?_
        refine VC.block ?_
        refine VC.region ?_
        refine VL.va (op_move rfl (ltn rfl)) rfl ?_
        refine VL.va (op_move rfl (ltn rfl)) rfl ?_
        refine VL.va (op_rem rfl rfl (by decide) rfl (ltn rfl)) rfl ?_
        refine VL.va (op_ari64 rfl rfl rfl (ltn rfl)) rfl ?_
        refine VL.va (op_conv Try.underlying3 Try.underlying5 rfl rfl (ltn rfl)) rfl ?_
        refine VL.sG (o_buildSlice (vals := [(0, .int .u8 (IntKind.u8.wrap (wrap64 ((i252.tmod 128) + 128))))]) (cells := #[.int .u8 (IntKind.u8.wrap (wrap64 ((i252.tmod 128) + 128)))]) (es := List.map enc_intu8 ([IntKind.u8.wrap (wrap64 ((i252.tmod 128) + 128))] : List Int)) Try.underlying49 TI5 Z5 rfl (by decide) (by decide) (by kernel_rfl) (by kernel_rfl) rfl (flat_map enc_intu8_ok _) (ltn rfl)) rfl ?_
        intro v276
        by_cases c277 : (l255.length + ([IntKind.u8.wrap (wrap64 ((i252.tmod 128) + 128))] : List Int).length) * 1 ≤ 140737488355328
        · rw [if_pos c277] at h
          refine VL.sG (o_append 1 appm Try.underlying49 EI5 rfl rfl rfl (.inr ⟨0, _, rfl⟩) (bndm c277) (ltn rfl)) rfl ?_
          intro v278
          refine VL.va (op_assign rfl (ltn rfl)) rfl ?_
          refine VL.done ?_
          refine VN.block ?_
          refine VN.then ?_
          refine VC.region ?_
          refine VL.va (op_move rfl (ltn rfl)) rfl ?_
          refine VL.va (op_quo rfl rfl (by decide) rfl (ltn rfl)) rfl ?_
          refine VL.va (op_assign rfl (ltn rfl)) rfl ?_
          refine VL.done ?_
          refine VN.again [] [1] (ihl3 (IntKind.i64.wrap (i252.tdiv 128)) v278 (l255 ++ ([IntKind.u8.wrap (wrap64 ((i252.tmod 128) + 128))] : List Int)) h) ⟨rfl, ⟨rfl, rfl, rfl, rfl, trivial⟩, trivial, rfl, by decide, rfl, by decide⟩
        · rw [if_neg c277] at h; cases h
      · rw [if_neg c274] at h
        obtain rfl : b273 = false := hb273.symm.trans (decide_eq_false c274)
        refine VC.cond_f rfl ?_
        refine VC.exit ?_
        refine VX.then ?_
        refine VX.then ?_
        refine VX.hit ?_
        refine VN.then ?_
        refine VC.seq ?_
        refine VC.region ?_
        refine VL.va (op_move rfl (ltn rfl)) rfl ?_
        refine VL.va (op_move rfl (ltn rfl)) rfl ?_
        refine VL.va (op_conv Try.underlying3 Try.underlying5 rfl rfl (ltn rfl)) rfl ?_
        refine VL.sG (o_buildSlice (vals := [(0, .int .u8 (IntKind.u8.wrap i252))]) (cells := #[.int .u8 (IntKind.u8.wrap i252)]) (es := List.map enc_intu8 ([IntKind.u8.wrap i252] : List Int)) Try.underlying49 TI5 Z5 rfl (by decide) (by decide) (by kernel_rfl) (by kernel_rfl) rfl (flat_map enc_intu8_ok _) (ltn rfl)) rfl ?_
        intro v281
        by_cases c282 : (l255.length + ([IntKind.u8.wrap i252] : List Int).length) * 1 ≤ 140737488355328
        · rw [if_pos c282] at h
          refine VL.sG (o_append 1 appm Try.underlying49 EI5 rfl rfl rfl (.inr ⟨0, _, rfl⟩) (bndm c282) (ltn rfl)) rfl ?_
          intro v283
          refine VL.va (op_bytesStr_own (xs := (l255 ++ ([IntKind.u8.wrap i252] : List Int))) 1 rfl rfl Try.underlying49 Try.underlying9 Try.underlying5 rfl rfl (ltn rfl)) rfl ?_
          refine VL.va (op_assign rfl (ltn rfl)) rfl ?_
          refine VL.va (op_assign rfl (ltn rfl)) rfl ?_
          refine VL.done ?_
          refine VN.then ?_
          refine VC.ret ?_
          simp only [Option.some.injEq, Prod.mk.injEq] at h
          obtain ⟨rfl, rfl⟩ := h
          exact VR.fn (rs := [.tmp 2, .tmp 3]) [] [] [] rfl (.tmp rfl (.tmp rfl .nil)) ⟨rfl, rfl, rfl⟩ trivial rfl (by decide)
        · rw [if_neg c282] at h; cases h
  · rw [if_neg c128] at h
    obtain rfl := Bool.eq_false_iff.2 c128
    refine VL.va (op_not rfl rfl (ltn rfl)) rfl ?_
    refine VL.done ?_
    refine VN.then ?_
    refine VC.cond_t rfl ?_
    refine VC.seq ?_
    refine VC.region ?_
    refine VL.va (op_assign rfl (ltn rfl)) rfl ?_
    refine VL.va (op_assign rfl (ltn rfl)) rfl ?_
    refine VL.done ?_
    refine VN.then ?_
    refine VC.ret ?_
    refine VR.then ?_
    simp only [Option.some.injEq, Prod.mk.injEq] at h
    obtain ⟨rfl, rfl⟩ := h
    exact VR.fn (rs := [.tmp 2, .tmp 3]) [] [] [] rfl (.tmp rfl (.tmp rfl .nil)) ⟨rfl, rfl, rfl⟩ trivial rfl (by decide)
set_option maxHeartbeats 4000000 in
set_option maxRecDepth 100000 in
theorem pack_ReadNumber.ok (k : Nat) (a0 : ByteArray)  (r1 : Int) (r2 : ByteArray) (r3 : Int) (h : pack_ReadNumber.f k a0 = some (r1, r2, r3)) :
    VCalls Try.prog 9 [.string a0] [] (fun v G own => v = .tuple #[.int .i64 r1, .string r2, .int .i64 r3] ∧ G = [] ∧ own = []) := by
  refine VCalls.intro Try.func9 rfl (len rfl) fun E hC hW hD hU => ?_
  unfold pack_ReadNumber.f at h
  refine VC.seq ?_
  refine VC.region ?_
  refine VL.va (op_assign rfl (ltn rfl)) rfl ?_
  refine VL.va (op_assign rfl (ltn rfl)) rfl ?_
  refine VL.va (op_assign rfl (ltn rfl)) rfl ?_
  refine VL.done ?_
  refine VN.then ?_
  refine VC.seq ?_
  refine VC.region ?_
  refine VL.va (op_assign rfl (ltn rfl)) rfl ?_
  refine VL.done ?_
  refine VN.then ?_
  refine VC.seq ?_
  refine VC.seq ?_
  refine VC.region ?_
  refine VL.va (op_move rfl (ltn rfl)) rfl ?_
  refine VL.va (op_lens Try.underlying9 rfl (ltn rfl)) rfl ?_
  refine VL.va (op_min rfl rfl (ltn rfl)) rfl ?_
  refine VL.va (op_move rfl (ltn rfl)) rfl ?_
  refine VL.done ?_
  refine VN.then ?_
  refine VC.block ?_
  refine VC.loop2 (fun (i1397 : Int) (i1398 : Int) => ⟨56, [(0, .string a0), (2, .int .i64 0), (3, .string (⟨#[]⟩ : ByteArray)), (4, .int .i64 0), (5, .int .i64 i1397), (11, .int .i64 (mn (a0.size : Int) 9)), (12, .int .i64 i1398)], [], [], []⟩) (fun (ml3 : Nat) (i1397 : Int) (i1398 : Int) => pack_ReadNumber.l3 k a0 ml3 i1397 i1398 = some (r1, r2, r3)) k 0 0 [] [] h ⟨rfl, ⟨rfl, rfl, rfl, rfl, rfl, rfl, rfl, trivial⟩, trivial, rfl, by decide, rfl, by decide⟩ (by intros; simp [pack_ReadNumber.l3]) ?_
  clear h
  intro ml3 ihl3 i1397 i1398 h
  simp only [pack_ReadNumber.l3] at h
  refine VC.seq ?_
  refine VC.region ?_
  refine VL.letter (decide (i1398 < (mn (a0.size : Int) 9))) fun b1700 hb1700 => ?_
  refine VL.va (op_cmp rfl rfl (congrArg some hb1700) (ltn rfl)) rfl ?_
  refine VL.done ?_
  refine VN.then ?_
  refine VC.seq ?_
  by_cases c1706 : i1398 < (mn (a0.size : Int) 9)
  · rw [if_pos c1706] at h
    obtain rfl : b1700 = true := hb1700.symm.trans (decide_eq_true c1706)
    refine VC.cond_t rfl ?_
    refine VC.skip ?_
    refine VN.then ?_
    refine VC.seq ?_
    refine VC.block ?_
    refine VC.seq ?_
    refine VC.region ?_
    refine VL.va (op_move rfl (ltn rfl)) rfl ?_
    refine VL.va (op_assign rfl (ltn rfl)) rfl ?_
    refine VL.done ?_
    refine VN.then ?_
    refine VC.seq ?_
    refine VC.region ?_
    refine VL.va (op_move rfl (ltn rfl)) rfl ?_
    refine VL.va (op_move rfl (ltn rfl)) rfl ?_
    by_cases c1856 : 0 ≤ i1398
    · rw [if_pos c1856] at h
      by_cases c1857 : i1398 < (a0.size : Int)
      · rw [if_pos c1857] at h
        refine VL.va (op_indexS Try.underlying9 rfl rfl c1856 c1857 rfl (ltn rfl)) rfl ?_
        refine VL.va (op_conv Try.underlying5 Try.underlying3 rfl (i64w _) (ltn rfl)) rfl ?_
        refine VL.va (op_assign rfl (ltn rfl)) rfl ?_
        refine VL.done ?_
        refine VN.then ?_
        refine VC.seq ?_
        refine VC.region ?_
        refine VL.va (op_move rfl (ltn rfl)) rfl ?_
        refine VL.va (op_move rfl (ltn rfl)) rfl ?_
        refine VL.va (op_rem rfl rfl (by decide) rfl (ltn rfl)) rfl ?_
        refine VL.va (op_move rfl (ltn rfl)) rfl ?_
        refine VL.va (op_ari64 rfl rfl rfl (ltn rfl)) rfl ?_
        by_cases c1858 : 0 ≤ wrap64 (7 * i1398)
        · rw [if_pos c1858] at h
          refine VL.va (op_shl rfl rfl c1858 rfl (ltn rfl)) rfl ?_
          refine VL.va (op_bits rfl rfl rfl (ltn rfl)) rfl ?_
          refine VL.va (op_assign rfl (ltn rfl)) rfl ?_
          refine VL.done ?_
          refine VN.then ?_
          refine VC.seq ?_
          refine VC.seq ?_
          refine VC.region ?_
          refine VL.va (op_move rfl (ltn rfl)) rfl ?_
          refine VL.letter (decide ((wrap64 (bt a0 i1398)) ≥ 128)) fun b1861 hb1861 => ?_
          refine VL.va (op_cmp rfl rfl (congrArg some hb1861) (ltn rfl)) rfl ?_
          refine VL.done ?_
          refine VN.then ?_
          by_cases c1862 : (wrap64 (bt a0 i1398)) ≥ 128
          · rw [if_pos c1862] at h
            obtain rfl : b1861 = true := hb1861.symm.trans (decide_eq_true c1862)
            refine VC.cond_t rfl ?_
            refine VC.exit ?_
            refine VX.then ?_
            refine VX.hit ?_
            refine VN.then ?_
            refine VC.region ?_
            refine VL.va (op_ari64 rfl rfl rfl (ltn rfl)) rfl ?_
            refine VL.va (op_move rfl (ltn rfl)) rfl ?_
            refine VL.done ?_
            refine VN.again [] [] (ihl3 (Go.bits .or .i64 i1397 (IntKind.i64.wrap (((wrap64 (bt a0 i1398)).tmod 128) * 2 ^ min (wrap64 (7 * i1398)).toNat IntKind.i64.bits))) (wrap64 (i1398 + 1)) h) ⟨rfl, ⟨rfl, rfl, rfl, rfl, rfl, rfl, rfl, trivial⟩, trivial, rfl, by decide, rfl, by decide⟩
          · rw [if_neg c1862] at h
            obtain rfl : b1861 = false := hb1861.symm.trans (decide_eq_false c1862)
            refine VC.cond_f rfl ?_
            refine VC.skip ?_
            refine VN.then ?_
            refine VC.seq ?_
            refine VC.region ?_
            refine VL.va (op_move rfl (ltn rfl)) rfl ?_
            refine VL.va (op_quo rfl rfl (by decide) rfl (ltn rfl)) rfl ?_
            refine VL.va (op_assign rfl (ltn rfl)) rfl ?_
            refine VL.done ?_
            refine VN.then ?_
            refine VC.join2 (fun (i1959 : Int) (q1960 : Bool) => ⟨56, [(0, .string a0), (2, .int .i64 0), (3, .string (⟨#[]⟩ : ByteArray)), (4, .int .i64 0), (5, .int .i64 (Go.bits .or .i64 i1397 (IntKind.i64.wrap (((wrap64 (bt a0 i1398)).tmod 128) * 2 ^ min (wrap64 (7 * i1398)).toNat IntKind.i64.bits)))), (6, .int .i64 i1398), (7, .int .i64 (wrap64 (bt a0 i1398))), (8, .int .i64 i1959), (11, .int .i64 (mn (a0.size : Int) 9)), (12, .int .i64 i1398), (13, .bool true), (14, .int .i64 i1398), (15, .string a0), (16, .int .i64 i1398), (17, .int .u8 (bt a0 i1398)), (18, .int .i64 (wrap64 (bt a0 i1398))), (19, .int .i64 i1397), (20, .int .i64 (wrap64 (bt a0 i1398))), (21, .int .i64 ((wrap64 (bt a0 i1398)).tmod 128)), (22, .int .i64 i1398), (23, .int .i64 (wrap64 (7 * i1398))), (24, .int .i64 (IntKind.i64.wrap (((wrap64 (bt a0 i1398)).tmod 128) * 2 ^ min (wrap64 (7 * i1398)).toNat IntKind.i64.bits))), (25, .int .i64 (Go.bits .or .i64 i1397 (IntKind.i64.wrap (((wrap64 (bt a0 i1398)).tmod 128) * 2 ^ min (wrap64 (7 * i1398)).toNat IntKind.i64.bits)))), (26, .int .i64 (wrap64 (bt a0 i1398))), (27, .bool false), (28, .int .i64 (Go.bits .or .i64 i1397 (IntKind.i64.wrap (((wrap64 (bt a0 i1398)).tmod 128) * 2 ^ min (wrap64 (7 * i1398)).toNat IntKind.i64.bits)))), (29, .int .i64 (IntKind.i64.wrap ((Go.bits .or .i64 i1397 (IntKind.i64.wrap (((wrap64 (bt a0 i1398)).tmod 128) * 2 ^ min (wrap64 (7 * i1398)).toNat IntKind.i64.bits))).tdiv 2))), (30, .int .i64 (Go.bits .or .i64 i1397 (IntKind.i64.wrap (((wrap64 (bt a0 i1398)).tmod 128) * 2 ^ min (wrap64 (7 * i1398)).toNat IntKind.i64.bits)))), (31, .int .i64 ((Go.bits .or .i64 i1397 (IntKind.i64.wrap (((wrap64 (bt a0 i1398)).tmod 128) * 2 ^ min (wrap64 (7 * i1398)).toNat IntKind.i64.bits))).tmod 2)), (32, .bool q1960)], [], [], []⟩) (fun (i1959 : Int) (q1960 : Bool) => pack_ReadNumber.j5 k a0 i1398 i1959 q1960 = some (r1, r2, r3)) ?_ ?_
            · refine VC.seq ?_
              refine VC.region ?_
              refine VL.va (op_move rfl (ltn rfl)) rfl ?_
              refine VL.va (op_rem rfl rfl (by decide) rfl (ltn rfl)) rfl ?_
              refine VL.letter ((((Go.bits .or .i64 i1397 (IntKind.i64.wrap (((wrap64 (bt a0 i1398)).tmod 128) * 2 ^ min (wrap64 (7 * i1398)).toNat IntKind.i64.bits))).tmod 2) == 1)) fun b1957 hb1957 => ?_
              refine VL.va (op_cmp rfl rfl (congrArg some hb1957) (ltn rfl)) rfl ?_
              refine VL.done ?_
              refine VN.then ?_
              by_cases c1958 : ((Go.bits .or .i64 i1397 (IntKind.i64.wrap (((wrap64 (bt a0 i1398)).tmod 128) * 2 ^ min (wrap64 (7 * i1398)).toNat IntKind.i64.bits))).tmod 2) = 1
              · rw [if_pos c1958] at h
                obtain rfl : b1957 = true := hb1957.symm.trans (beq_iff_eq.2 c1958)
                refine VC.cond_t rfl ?_
                refine VC.region ?_
                refine VL.va (op_move rfl (ltn rfl)) rfl ?_
                refine VL.va (op_neg rfl (i64w _) (ltn rfl)) rfl ?_
                refine VL.va (op_ari64 rfl rfl rfl (ltn rfl)) rfl ?_
                refine VL.va (op_assign rfl (ltn rfl)) rfl ?_
                refine VL.done ?_
                refine VN.meet2 (wrap64 ((wrap64 (0 - (IntKind.i64.wrap ((Go.bits .or .i64 i1397 (IntKind.i64.wrap (((wrap64 (bt a0 i1398)).tmod 128) * 2 ^ min (wrap64 (7 * i1398)).toNat IntKind.i64.bits))).tdiv 2)))) - 1)) true [] [] h ⟨rfl, ⟨rfl, rfl, rfl, rfl, rfl, rfl, rfl, rfl, rfl, rfl, rfl, rfl, rfl, rfl, rfl, rfl, rfl, rfl, rfl, rfl, rfl, rfl, rfl, rfl, rfl, rfl, rfl, rfl, rfl, rfl, trivial⟩, trivial, rfl, by decide, rfl, by decide⟩
              · rw [if_neg c1958] at h
                obtain rfl : b1957 = false := hb1957.symm.trans (beq_eq_false_iff_ne.2 c1958)
                refine VC.cond_f rfl ?_
                refine VC.skip ?_
                refine VN.meet2 (IntKind.i64.wrap ((Go.bits .or .i64 i1397 (IntKind.i64.wrap (((wrap64 (bt a0 i1398)).tmod 128) * 2 ^ min (wrap64 (7 * i1398)).toNat IntKind.i64.bits))).tdiv 2)) false [] [] h ⟨rfl, ⟨rfl, rfl, rfl, rfl, rfl, rfl, rfl, rfl, rfl, rfl, rfl, rfl, rfl, rfl, rfl, rfl, rfl, rfl, rfl, rfl, rfl, rfl, rfl, rfl, rfl, rfl, rfl, rfl, rfl, rfl, trivial⟩, trivial, rfl, by decide, rfl, by decide⟩
            clear h
            intro i1959 q1960 h
            unfold pack_ReadNumber.j5 at h
            refine VC.seq ?_
            refine VC.seq ?_
            refine VC.region ?_
            refine VL.va (op_move rfl (ltn rfl)) rfl ?_
            refine VL.letter (((wrap64 (bt a0 i1398)) == 0)) fun b1991 hb1991 => ?_
            refine VL.va (op_cmp rfl rfl (congrArg some hb1991) (ltn rfl)) rfl ?_
            refine VL.va (op_move rfl (ltn rfl)) rfl ?_
            by_cases c1992 : (wrap64 (bt a0 i1398)) = 0
            · rw [if_pos c1992] at h
              obtain rfl : b1991 = true := hb1991.symm.trans (beq_iff_eq.2 c1992)
              refine VL.va (op_move rfl (ltn rfl)) rfl ?_
              refine VL.letter (decide (i1398 > 0)) fun b1993 hb1993 => ?_
              refine VL.va (op_cmp rfl rfl (congrArg some hb1993) (ltn rfl)) rfl ?_
              refine VL.va (op_pick rfl rfl (ltn rfl)) rfl ?_
              refine VL.va (op_move rfl (ltn rfl)) rfl ?_
              by_cases c1994 : i1398 > 0
              · rw [if_pos c1994] at h
                obtain rfl : b1993 = true := hb1993.symm.trans (decide_eq_true c1994)
                refine VL.un rfl rfl (ltn rfl) ?_
                refine VL.un rfl rfl (ltn rfl) ?_
                refine VL.un rfl rfl (ltn rfl) ?_
                refine VL.va (op_pick rfl rfl (ltn rfl)) rfl ?_
                refine VL.done ?_
                refine VN.then ?_
                refine VC.cond_t rfl ?_
                refine VC.seq ?_
                refine VC.region ?_
                refine VL.va (op_assign rfl (ltn rfl)) rfl ?_
                refine VL.va (op_assign rfl (ltn rfl)) rfl ?_
                refine VL.va (op_assign rfl (ltn rfl)) rfl ?_
                refine VL.done ?_
                refine VN.then ?_
                refine VC.ret ?_
                refine VR.then ?_
                refine VR.block ?_
                refine VR.then ?_
                refine VR.then ?_
                refine VR.block ?_
                refine VR.then ?_
                simp only [Option.some.injEq, Prod.mk.injEq] at h
                obtain ⟨rfl, rfl, rfl⟩ := h
                exact VR.fn (rs := [.tmp 2, .tmp 3, .tmp 4]) [] [] [] rfl (.tmp rfl (.tmp rfl (.tmp rfl .nil))) ⟨rfl, rfl, rfl⟩ trivial rfl (by decide)
              · rw [if_neg c1994] at h
                obtain rfl : b1993 = false := hb1993.symm.trans (decide_eq_false c1994)
                refine VL.va (op_move rfl (ltn rfl)) rfl ?_
                replace h := Option.bind_eq_some_iff.1 h
                obtain ⟨t1995, hA1996, h⟩ := h
                refine VL.sC (o_call0 FO24 (pack_may.ok i1959 t1995 hA1996) rfl rfl (ltn rfl) (All_of .nil)) rfl ?_
                rintro _ _ _ ⟨rfl, rfl, rfl⟩
                by_cases c1997 : t1995 = true
                · rw [if_pos c1997] at h
                  obtain rfl := c1997
                  refine VL.va (op_not rfl rfl (ltn rfl)) rfl ?_
                  refine VL.va (op_pick rfl rfl (ltn rfl)) rfl ?_
                  refine VL.done ?_
                  refine VN.then ?_
                  refine VC.cond_f rfl ?_
                  refine VC.skip ?_
                  refine VN.then ?_
                  by_cases c1998 : 0 ≤ wrap64 (i1398 + 1)
                  · rw [if_pos c1998] at h
                    by_cases c1999 : (wrap64 (i1398 + 1)) ≤ (a0.size : Int)
                    · rw [if_pos c1999] at h
                      refine VC.join0 (⟨56, [(0, .string a0), (2, .int .i64 i1959), (3, .string (a0.extract ((wrap64 (i1398 + 1)).toNat) a0.size)), (4, .int .i64 0), (5, .int .i64 (Go.bits .or .i64 i1397 (IntKind.i64.wrap (((wrap64 (bt a0 i1398)).tmod 128) * 2 ^ min (wrap64 (7 * i1398)).toNat IntKind.i64.bits)))), (6, .int .i64 i1398), (7, .int .i64 (wrap64 (bt a0 i1398))), (8, .int .i64 i1959), (11, .int .i64 (mn (a0.size : Int) 9)), (12, .int .i64 i1398), (13, .bool true), (14, .int .i64 i1398), (15, .string a0), (16, .int .i64 i1398), (17, .int .u8 (bt a0 i1398)), (18, .int .i64 (wrap64 (bt a0 i1398))), (19, .int .i64 i1397), (20, .int .i64 (wrap64 (bt a0 i1398))), (21, .int .i64 ((wrap64 (bt a0 i1398)).tmod 128)), (22, .int .i64 i1398), (23, .int .i64 (wrap64 (7 * i1398))), (24, .int .i64 (IntKind.i64.wrap (((wrap64 (bt a0 i1398)).tmod 128) * 2 ^ min (wrap64 (7 * i1398)).toNat IntKind.i64.bits))), (25, .int .i64 (Go.bits .or .i64 i1397 (IntKind.i64.wrap (((wrap64 (bt a0 i1398)).tmod 128) * 2 ^ min (wrap64 (7 * i1398)).toNat IntKind.i64.bits)))), (26, .int .i64 (wrap64 (bt a0 i1398))), (27, .bool false), (28, .int .i64 (Go.bits .or .i64 i1397 (IntKind.i64.wrap (((wrap64 (bt a0 i1398)).tmod 128) * 2 ^ min (wrap64 (7 * i1398)).toNat IntKind.i64.bits)))), (29, .int .i64 (IntKind.i64.wrap ((Go.bits .or .i64 i1397 (IntKind.i64.wrap (((wrap64 (bt a0 i1398)).tmod 128) * 2 ^ min (wrap64 (7 * i1398)).toNat IntKind.i64.bits))).tdiv 2))), (30, .int .i64 (Go.bits .or .i64 i1397 (IntKind.i64.wrap (((wrap64 (bt a0 i1398)).tmod 128) * 2 ^ min (wrap64 (7 * i1398)).toNat IntKind.i64.bits)))), (31, .int .i64 ((Go.bits .or .i64 i1397 (IntKind.i64.wrap (((wrap64 (bt a0 i1398)).tmod 128) * 2 ^ min (wrap64 (7 * i1398)).toNat IntKind.i64.bits))).tmod 2)), (32, .bool q1960), (36, .int .i64 (wrap64 (bt a0 i1398))), (37, .bool true), (38, .bool true), (39, .int .i64 i1398), (40, .bool false), (41, .bool false), (42, .bool false), (43, .int .i64 i1959), (44, .bool true), (45, .bool false), (46, .bool false), (47, .int .i64 i1959), (48, .string a0), (49, .int .i64 i1398), (50, .int .i64 (wrap64 (i1398 + 1))), (51, .string (a0.extract ((wrap64 (i1398 + 1)).toNat) a0.size))], [], [], []⟩) (True) ?_ ?_
                      · refine VC.draw ⟨0, [], [], [], []⟩ (by kernel_rfl) rfl (by kernel_rfl) (n := 8) (listed := LB 8 0) ?_
                        refine VA.va (i := 0) (listed' := LB 8 1) rfl (op_move rfl (ltn rfl)) rfl (by kernel_rfl) (by kernel_rfl) (by kernel_rfl) (by kernel_rfl) ⟨trivial, trivial, trivial⟩ (fun _ _ _ h => h) ?_
                        refine VA.va (i := 1) (listed' := LB 8 3) rfl (op_move rfl (ltn rfl)) rfl (by kernel_rfl) (by kernel_rfl) (by kernel_rfl) (by kernel_rfl) ⟨trivial, trivial, trivial⟩ (fun _ _ _ h => h) ?_
                        refine VA.va (i := 2) (listed' := LB 8 7) rfl (op_move rfl (ltn rfl)) rfl (by kernel_rfl) (by kernel_rfl) (by kernel_rfl) (by kernel_rfl) ⟨trivial, trivial, trivial⟩ (fun _ _ _ h => h) ?_
                        refine VA.va (i := 3) (listed' := LB 8 15) rfl (op_ari64 rfl rfl rfl (ltn rfl)) rfl (by kernel_rfl) (by kernel_rfl) (by kernel_rfl) (by kernel_rfl) ⟨trivial, trivial, trivial⟩ (fun _ _ _ h => h) ?_
                        refine VA.va (i := 4) (listed' := LB 8 31) rfl (op_sliceS ((wrap64 (i1398 + 1)).toNat) a0.size Try.underlying9 rfl ⟨⟨_, _, rfl, c1998, rfl⟩, rfl, by omega, by omega⟩ rfl (ltn rfl)) rfl (by kernel_rfl) (by kernel_rfl) (by kernel_rfl) (by kernel_rfl) ⟨trivial, trivial, trivial⟩ (fun _ _ _ h => h) ?_
                        refine VA.va (i := 5) (listed' := LB 8 63) rfl (op_assign rfl (ltn rfl)) rfl (by kernel_rfl) (by kernel_rfl) (by kernel_rfl) (by kernel_rfl) ⟨trivial, trivial, trivial⟩ (fun _ _ _ h => h) ?_
                        refine VA.va (i := 6) (listed' := LB 8 127) rfl (op_assign rfl (ltn rfl)) rfl (by kernel_rfl) (by kernel_rfl) (by kernel_rfl) (by kernel_rfl) ⟨trivial, trivial, trivial⟩ (fun _ _ _ h => h) ?_
                        refine VA.va (i := 7) (listed' := LB 8 255) rfl (op_assign rfl (ltn rfl)) rfl (by kernel_rfl) (by kernel_rfl) (by kernel_rfl) (by kernel_rfl) ⟨trivial, trivial, trivial⟩ (fun _ _ _ h => h) ?_
                        refine VA.done (by kernel_rfl) ?_
                        exact VN.meet0  [] [] trivial ⟨rfl, ⟨rfl, rfl, rfl, rfl, rfl, rfl, rfl, rfl, rfl, rfl, rfl, rfl, rfl, rfl, rfl, rfl, rfl, rfl, rfl, rfl, rfl, rfl, rfl, rfl, rfl, rfl, rfl, rfl, rfl, rfl, rfl, rfl, rfl, rfl, rfl, rfl, rfl, rfl, rfl, rfl, rfl, rfl, rfl, rfl, rfl, rfl, trivial⟩, trivial, rfl, by decide, rfl, by decide⟩
                      intro _
                      refine VC.ret ?_
                      refine VR.block ?_
                      refine VR.then ?_
                      refine VR.then ?_
                      refine VR.block ?_
                      refine VR.then ?_
                      simp only [Option.some.injEq, Prod.mk.injEq] at h
                      obtain ⟨rfl, rfl, rfl⟩ := h
                      exact VR.fn (rs := [.tmp 2, .tmp 3, .tmp 4]) [] [] [] rfl (.tmp rfl (.tmp rfl (.tmp rfl .nil))) ⟨rfl, rfl, rfl⟩ trivial rfl (by decide)
                    · rw [if_neg c1999] at h; cases h
                  · rw [if_neg c1998] at h; cases h
                · rw [if_neg c1997] at h
                  obtain rfl := Bool.eq_false_iff.2 c1997
                  refine VL.va (op_not rfl rfl (ltn rfl)) rfl ?_
                  refine VL.va (op_pick rfl rfl (ltn rfl)) rfl ?_
                  refine VL.done ?_
                  refine VN.then ?_
                  refine VC.cond_t rfl ?_
                  refine VC.seq ?_
                  refine VC.region ?_
                  refine VL.va (op_assign rfl (ltn rfl)) rfl ?_
                  refine VL.va (op_assign rfl (ltn rfl)) rfl ?_
                  refine VL.va (op_assign rfl (ltn rfl)) rfl ?_
                  refine VL.done ?_
                  refine VN.then ?_
                  refine VC.ret ?_
                  refine VR.then ?_
                  refine VR.block ?_
                  refine VR.then ?_
                  refine VR.then ?_
                  refine VR.block ?_
                  refine VR.then ?_
                  simp only [Option.some.injEq, Prod.mk.injEq] at h
                  obtain ⟨rfl, rfl, rfl⟩ := h
                  exact VR.fn (rs := [.tmp 2, .tmp 3, .tmp 4]) [] [] [] rfl (.tmp rfl (.tmp rfl (.tmp rfl .nil))) ⟨rfl, rfl, rfl⟩ trivial rfl (by decide)
            · rw [if_neg c1992] at h
              obtain rfl : b1991 = false := hb1991.symm.trans (beq_eq_false_iff_ne.2 c1992)
              refine VL.un rfl rfl (ltn rfl) ?_
              refine VL.un rfl rfl (ltn rfl) ?_
              refine VL.va (op_pick rfl rfl (ltn rfl)) rfl ?_
              refine VL.va (op_move rfl (ltn rfl)) rfl ?_
              refine VL.va (op_move rfl (ltn rfl)) rfl ?_
              replace h := Option.bind_eq_some_iff.1 h
              obtain ⟨t2000, hA2001, h⟩ := h
              refine VL.sC (o_call0 FO24 (pack_may.ok i1959 t2000 hA2001) rfl rfl (ltn rfl) (All_of .nil)) rfl ?_
              rintro _ _ _ ⟨rfl, rfl, rfl⟩
              by_cases c2002 : t2000 = true
              · rw [if_pos c2002] at h
                obtain rfl := c2002
                refine VL.va (op_not rfl rfl (ltn rfl)) rfl ?_
                refine VL.va (op_pick rfl rfl (ltn rfl)) rfl ?_
                refine VL.done ?_
                refine VN.then ?_
                refine VC.cond_f rfl ?_
                refine VC.skip ?_
                refine VN.then ?_
                by_cases c2003 : 0 ≤ wrap64 (i1398 + 1)
                · rw [if_pos c2003] at h
                  by_cases c2004 : (wrap64 (i1398 + 1)) ≤ (a0.size : Int)
                  · rw [if_pos c2004] at h
                    refine VC.join0 (⟨56, [(0, .string a0), (2, .int .i64 i1959), (3, .string (a0.extract ((wrap64 (i1398 + 1)).toNat) a0.size)), (4, .int .i64 0), (5, .int .i64 (Go.bits .or .i64 i1397 (IntKind.i64.wrap (((wrap64 (bt a0 i1398)).tmod 128) * 2 ^ min (wrap64 (7 * i1398)).toNat IntKind.i64.bits)))), (6, .int .i64 i1398), (7, .int .i64 (wrap64 (bt a0 i1398))), (8, .int .i64 i1959), (11, .int .i64 (mn (a0.size : Int) 9)), (12, .int .i64 i1398), (13, .bool true), (14, .int .i64 i1398), (15, .string a0), (16, .int .i64 i1398), (17, .int .u8 (bt a0 i1398)), (18, .int .i64 (wrap64 (bt a0 i1398))), (19, .int .i64 i1397), (20, .int .i64 (wrap64 (bt a0 i1398))), (21, .int .i64 ((wrap64 (bt a0 i1398)).tmod 128)), (22, .int .i64 i1398), (23, .int .i64 (wrap64 (7 * i1398))), (24, .int .i64 (IntKind.i64.wrap (((wrap64 (bt a0 i1398)).tmod 128) * 2 ^ min (wrap64 (7 * i1398)).toNat IntKind.i64.bits))), (25, .int .i64 (Go.bits .or .i64 i1397 (IntKind.i64.wrap (((wrap64 (bt a0 i1398)).tmod 128) * 2 ^ min (wrap64 (7 * i1398)).toNat IntKind.i64.bits)))), (26, .int .i64 (wrap64 (bt a0 i1398))), (27, .bool false), (28, .int .i64 (Go.bits .or .i64 i1397 (IntKind.i64.wrap (((wrap64 (bt a0 i1398)).tmod 128) * 2 ^ min (wrap64 (7 * i1398)).toNat IntKind.i64.bits)))), (29, .int .i64 (IntKind.i64.wrap ((Go.bits .or .i64 i1397 (IntKind.i64.wrap (((wrap64 (bt a0 i1398)).tmod 128) * 2 ^ min (wrap64 (7 * i1398)).toNat IntKind.i64.bits))).tdiv 2))), (30, .int .i64 (Go.bits .or .i64 i1397 (IntKind.i64.wrap (((wrap64 (bt a0 i1398)).tmod 128) * 2 ^ min (wrap64 (7 * i1398)).toNat IntKind.i64.bits)))), (31, .int .i64 ((Go.bits .or .i64 i1397 (IntKind.i64.wrap (((wrap64 (bt a0 i1398)).tmod 128) * 2 ^ min (wrap64 (7 * i1398)).toNat IntKind.i64.bits))).tmod 2)), (32, .bool q1960), (36, .int .i64 (wrap64 (bt a0 i1398))), (37, .bool false), (38, .bool false), (39, undef), (40, undef), (41, .bool false), (42, .bool false), (43, .int .i64 i1959), (44, .bool true), (45, .bool false), (46, .bool false), (47, .int .i64 i1959), (48, .string a0), (49, .int .i64 i1398), (50, .int .i64 (wrap64 (i1398 + 1))), (51, .string (a0.extract ((wrap64 (i1398 + 1)).toNat) a0.size))], [], [], []⟩) (True) ?_ ?_
                    · refine VC.draw ⟨0, [], [], [], []⟩ (by kernel_rfl) rfl (by kernel_rfl) (n := 8) (listed := LB 8 0) ?_
                      refine VA.va (i := 0) (listed' := LB 8 1) rfl (op_move rfl (ltn rfl)) rfl (by kernel_rfl) (by kernel_rfl) (by kernel_rfl) (by kernel_rfl) ⟨trivial, trivial, trivial⟩ (fun _ _ _ h => h) ?_
                      refine VA.va (i := 1) (listed' := LB 8 3) rfl (op_move rfl (ltn rfl)) rfl (by kernel_rfl) (by kernel_rfl) (by kernel_rfl) (by kernel_rfl) ⟨trivial, trivial, trivial⟩ (fun _ _ _ h => h) ?_
                      refine VA.va (i := 2) (listed' := LB 8 7) rfl (op_move rfl (ltn rfl)) rfl (by kernel_rfl) (by kernel_rfl) (by kernel_rfl) (by kernel_rfl) ⟨trivial, trivial, trivial⟩ (fun _ _ _ h => h) ?_
                      refine VA.va (i := 3) (listed' := LB 8 15) rfl (op_ari64 rfl rfl rfl (ltn rfl)) rfl (by kernel_rfl) (by kernel_rfl) (by kernel_rfl) (by kernel_rfl) ⟨trivial, trivial, trivial⟩ (fun _ _ _ h => h) ?_
                      refine VA.va (i := 4) (listed' := LB 8 31) rfl (op_sliceS ((wrap64 (i1398 + 1)).toNat) a0.size Try.underlying9 rfl ⟨⟨_, _, rfl, c2003, rfl⟩, rfl, by omega, by omega⟩ rfl (ltn rfl)) rfl (by kernel_rfl) (by kernel_rfl) (by kernel_rfl) (by kernel_rfl) ⟨trivial, trivial, trivial⟩ (fun _ _ _ h => h) ?_
                      refine VA.va (i := 5) (listed' := LB 8 63) rfl (op_assign rfl (ltn rfl)) rfl (by kernel_rfl) (by kernel_rfl) (by kernel_rfl) (by kernel_rfl) ⟨trivial, trivial, trivial⟩ (fun _ _ _ h => h) ?_
                      refine VA.va (i := 6) (listed' := LB 8 127) rfl (op_assign rfl (ltn rfl)) rfl (by kernel_rfl) (by kernel_rfl) (by kernel_rfl) (by kernel_rfl) ⟨trivial, trivial, trivial⟩ (fun _ _ _ h => h) ?_
                      refine VA.va (i := 7) (listed' := LB 8 255) rfl (op_assign rfl (ltn rfl)) rfl (by kernel_rfl) (by kernel_rfl) (by kernel_rfl) (by kernel_rfl) ⟨trivial, trivial, trivial⟩ (fun _ _ _ h => h) ?_
                      refine VA.done (by kernel_rfl) ?_
                      exact VN.meet0  [] [] trivial ⟨rfl, ⟨rfl, rfl, rfl, rfl, rfl, rfl, rfl, rfl, rfl, rfl, rfl, rfl, rfl, rfl, rfl, rfl, rfl, rfl, rfl, rfl, rfl, rfl, rfl, rfl, rfl, rfl, rfl, rfl, rfl, rfl, rfl, rfl, rfl, rfl, rfl, rfl, rfl, rfl, rfl, rfl, rfl, rfl, rfl, rfl, rfl, rfl, trivial⟩, trivial, rfl, by decide, rfl, by decide⟩
                    intro _
                    refine VC.ret ?_
                    refine VR.block ?_
                    refine VR.then ?_
                    refine VR.then ?_
                    refine VR.block ?_
                    refine VR.then ?_
                    simp only [Option.some.injEq, Prod.mk.injEq] at h
                    obtain ⟨rfl, rfl, rfl⟩ := h
                    exact VR.fn (rs := [.tmp 2, .tmp 3, .tmp 4]) [] [] [] rfl (.tmp rfl (.tmp rfl (.tmp rfl .nil))) ⟨rfl, rfl, rfl⟩ trivial rfl (by decide)
                  · rw [if_neg c2004] at h; cases h
                · rw [if_neg c2003] at h; cases h
              · rw [if_neg c2002] at h
                obtain rfl := Bool.eq_false_iff.2 c2002
                refine VL.va (op_not rfl rfl (ltn rfl)) rfl ?_
                refine VL.va (op_pick rfl rfl (ltn rfl)) rfl ?_
                refine VL.done ?_
                refine VN.then ?_
                refine VC.cond_t rfl ?_
                refine VC.seq ?_
                refine VC.region ?_
                refine VL.va (op_assign rfl (ltn rfl)) rfl ?_
                refine VL.va (op_assign rfl (ltn rfl)) rfl ?_
                refine VL.va (op_assign rfl (ltn rfl)) rfl ?_
                refine VL.done ?_
                refine VN.then ?_
                refine VC.ret ?_
                refine VR.then ?_
                refine VR.block ?_
                refine VR.then ?_
                refine VR.then ?_
                refine VR.block ?_
                refine VR.then ?_
                simp only [Option.some.injEq, Prod.mk.injEq] at h
                obtain ⟨rfl, rfl, rfl⟩ := h
                exact VR.fn (rs := [.tmp 2, .tmp 3, .tmp 4]) [] [] [] rfl (.tmp rfl (.tmp rfl (.tmp rfl .nil))) ⟨rfl, rfl, rfl⟩ trivial rfl (by decide)
        · rw [if_neg c1858] at h; cases h
      · rw [if_neg c1857] at h; cases h
    · rw [if_neg c1856] at h; cases h
  · rw [if_neg c1706] at h
    obtain rfl : b1700 = false := hb1700.symm.trans (decide_eq_false c1706)
    refine VC.cond_f rfl ?_
    refine VC.exit ?_
    refine VX.then ?_
    refine VX.then ?_
    refine VX.hit ?_
    refine VN.then ?_
    refine VC.seq ?_
    refine VC.seq ?_
    refine VC.region ?_
    refine VL.va (op_move rfl (ltn rfl)) rfl ?_
    refine VL.va (op_lens Try.underlying9 rfl (ltn rfl)) rfl ?_
    refine VL.letter (decide ((a0.size : Int) ≥ 9)) fun b2007 hb2007 => ?_
    refine VL.va (op_cmp rfl rfl (congrArg some hb2007) (ltn rfl)) rfl ?_
    refine VL.done ?_
    refine VN.then ?_
    by_cases c2008 : (a0.size : Int) ≥ 9
    · rw [if_pos c2008] at h
      obtain rfl : b2007 = true := hb2007.symm.trans (decide_eq_true c2008)
      refine VC.cond_t rfl ?_
      refine VC.seq ?_
      refine VC.region ?_
      refine VL.va (op_assign rfl (ltn rfl)) rfl ?_
      refine VL.va (op_assign rfl (ltn rfl)) rfl ?_
      refine VL.va (op_assign rfl (ltn rfl)) rfl ?_
      refine VL.done ?_
      refine VN.then ?_
      refine VC.ret ?_
      refine VR.then ?_
      simp only [Option.some.injEq, Prod.mk.injEq] at h
      obtain ⟨rfl, rfl, rfl⟩ := h
      exact VR.fn (rs := [.tmp 2, .tmp 3, .tmp 4]) [] [] [] rfl (.tmp rfl (.tmp rfl (.tmp rfl .nil))) ⟨rfl, rfl, rfl⟩ trivial rfl (by decide)
    · rw [if_neg c2008] at h
      obtain rfl : b2007 = false := hb2007.symm.trans (decide_eq_false c2008)
      refine VC.cond_f rfl ?_
      refine VC.skip ?_
      refine VN.then ?_
      refine VC.seq ?_
      refine VC.region ?_
      refine VL.va (op_assign rfl (ltn rfl)) rfl ?_
      refine VL.va (op_assign rfl (ltn rfl)) rfl ?_
      refine VL.va (op_assign rfl (ltn rfl)) rfl ?_
      refine VL.done ?_
      refine VN.then ?_
      refine VC.ret ?_
      simp only [Option.some.injEq, Prod.mk.injEq] at h
      obtain ⟨rfl, rfl, rfl⟩ := h
      exact VR.fn (rs := [.tmp 2, .tmp 3, .tmp 4]) [] [] [] rfl (.tmp rfl (.tmp rfl (.tmp rfl .nil))) ⟨rfl, rfl, rfl⟩ trivial rfl (by decide)
set_option maxHeartbeats 4000000 in
set_option maxRecDepth 100000 in
theorem pack_number.ok (k : Nat) (a0 : Int)  (r1 : ByteArray) (h : pack_number.f k a0 = some r1) :
    VCalls Try.prog 27 [.int .i64 a0] [] (fun v G own => v = .string r1 ∧ G = [] ∧ own = []) := by
  refine VCalls.intro Try.func27 rfl (len rfl) fun E hC hW hD hU => ?_
  unfold pack_number.f at h
  refine VC.seq ?_
  refine VC.region ?_
  refine VL.va (op_assign rfl (ltn rfl)) rfl ?_
  refine VL.done ?_
  refine VN.then ?_
  refine VC.seq ?_
  refine VC.region ?_
  refine VL.va (op_move rfl (ltn rfl)) rfl ?_
  replace h := Option.bind_eq_some_iff.1 h
  obtain ⟨⟨t2045, t2046⟩, hA2047, h⟩ := h
  dsimp only at h
  refine VL.sC (o_call0 FO8 (pack_Number.ok k a0 t2045 t2046 hA2047) rfl rfl (ltn rfl) (All_of .nil)) rfl ?_
  rintro _ _ _ ⟨rfl, rfl, rfl⟩
  refine VL.va (op_move rfl (ltn rfl)) rfl ?_
  refine VL.va (op_extract rfl rfl (ltn rfl)) rfl ?_
  refine VL.va (op_extract rfl rfl (ltn rfl)) rfl ?_
  refine VL.va (op_assign rfl (ltn rfl)) rfl ?_
  refine VL.va (op_assign rfl (ltn rfl)) rfl ?_
  refine VL.done ?_
  refine VN.then ?_
  refine VC.seq ?_
  refine VC.region ?_
  refine VL.va (op_move rfl (ltn rfl)) rfl ?_
  refine VL.va (op_assign rfl (ltn rfl)) rfl ?_
  refine VL.done ?_
  refine VN.then ?_
  refine VC.ret ?_
  obtain rfl := Option.some.inj h
  exact VR.fn (rs := [.tmp 2]) [] [] [] rfl (.tmp rfl .nil) ⟨rfl, rfl, rfl⟩ trivial rfl (by decide)

end Go.Proofs.Ytacenfolbmdpoaa.PPackBack
