/- Written by a program of this repo: what the program's functions do, each as a Lean function, shown of the loaded code; or a statement's row over that; no condition of its own. -/
import Derived.Test.YtipeglbeongfmaaPJournalUnusedx1
namespace Go.Proofs.Ytipeglbeongfmaa.PJournalUnused
open Go Go.RowKit Go.Proofs.YtipeglbeongfmaaV
set_option linter.unusedVariables false
set_option linter.unusedSimpArgs false

set_option maxHeartbeats 4000000 in
set_option maxRecDepth 100000 in
theorem disk_Right.ok (k : Nat) (l0_0 : List ByteArray) (l0_1 : List S55) (v0_0 : Value) (v0_1 : Value) (r1 : Bool) (h : disk_Right.f k l0_0 l0_1 = some r1) :
    VCalls Try.prog 23 [.agg #[v0_0, v0_1]] [.row v0_0 1 (l0_0.map enc_str), .row v0_1 2 (l0_1.map enc55)] (fun v G own => v = .bool r1 ∧ G = [] ∧ own = []) := by
  refine VCalls.intro Try.func23 rfl (len rfl) fun E hC hW hD hU => ?_
  unfold disk_Right.f at h
  refine VC.seq ?_
  refine VC.region ?_
  refine VL.sG (o_box rfl (.agg (.f 0 rfl (.f 1 rfl .nil))) (ltn rfl)) rfl ?_
  intro g482
  refine VL.va (op_assign rfl (ltn rfl)) rfl ?_
  refine VL.done ?_
  refine VN.then ?_
  refine VC.seq ?_
  refine VC.region ?_
  refine VL.va (op_fieldAddr FI25_0 rfl (add_at _ _ _) (ltn rfl)) rfl ?_
  refine VL.va (op_load 0 1 rfl rfl TI22 rfl (by decide) (ltn rfl)) rfl ?_
  refine VL.va (op_len (m := l0_0.length) 0 lenm Try.underlying22 rfl rfl (ltn rfl)) rfl ?_
  refine VL.sG (o_alloc Z3 ZL3 (ltn rfl)) rfl ?_
  intro g483
  refine VL.step1 (o_store 0 1 rfl rfl rfl TI3 (.c rfl) rfl (len rfl)) rfl ?_
  refine VL.done ?_
  refine VN.then ?_
  refine VC.seq ?_
  refine VC.region ?_
  refine VL.sG (o_alloc Z87 ZL87 (ltn rfl)) rfl ?_
  intro g484
  refine VL.step1 (o_store 0 1 rfl rfl rfl TI87 (.c rfl) rfl (len rfl)) rfl ?_
  refine VL.done ?_
  refine VN.then ?_
  refine VC.seq ?_
  refine VC.region ?_
  refine VL.va (op_makeFunc (vals := [.pointer (some ⟨g483, 0, none⟩), .pointer (some ⟨g484, 0, none⟩)]) rfl (ltn rfl)) rfl ?_
  refine VL.va (op_assign rfl (ltn rfl)) rfl ?_
  refine VL.done ?_
  refine VN.then ?_
  refine VC.seq ?_
  refine VC.region ?_
  refine VL.va (op_load 1 1 rfl rfl TI3 rfl (by decide) (ltn rfl)) rfl ?_
  refine VL.letter (decide ((l0_0.length : Int) ≥ 1)) fun b721 hb721 => ?_
  refine VL.va (op_cmp rfl rfl (congrArg some hb721) (ltn rfl)) rfl ?_
  refine VL.va (op_move rfl (ltn rfl)) rfl ?_
  by_cases c722 : (l0_0.length : Int) ≥ 1
  · rw [if_pos c722] at h
    obtain rfl : b721 = true := hb721.symm.trans (decide_eq_true c722)
    refine VL.va (op_load 1 1 rfl rfl TI3 rfl (by decide) (ltn rfl)) rfl ?_
    refine VL.letter (decide ((l0_0.length : Int) ≤ 512)) fun b723 hb723 => ?_
    refine VL.va (op_cmp rfl rfl (congrArg some hb723) (ltn rfl)) rfl ?_
    refine VL.va (op_pick rfl rfl (ltn rfl)) rfl ?_
    refine VL.va (op_move rfl (ltn rfl)) rfl ?_
    by_cases c724 : (l0_0.length : Int) ≤ 512
    · rw [if_pos c724] at h
      obtain rfl : b723 = true := hb723.symm.trans (decide_eq_true c724)
      refine VL.va (op_fieldAddr FI25_1 rfl (add_at _ _ _) (ltn rfl)) rfl ?_
      refine VL.va (op_load 2 1 rfl rfl TI23 rfl (by decide) (ltn rfl)) rfl ?_
      refine VL.va (op_len (m := l0_1.length) 1 lenm Try.underlying23 rfl rfl (ltn rfl)) rfl ?_
      refine VL.letter (decide ((l0_1.length : Int) ≤ 64)) fun b725 hb725 => ?_
      refine VL.va (op_cmp rfl rfl (congrArg some hb725) (ltn rfl)) rfl ?_
      refine VL.va (op_pick rfl rfl (ltn rfl)) rfl ?_
      refine VL.va (op_move rfl (ltn rfl)) rfl ?_
      by_cases c726 : (l0_1.length : Int) ≤ 64
      · rw [if_pos c726] at h
        obtain rfl : b725 = true := hb725.symm.trans (decide_eq_true c726)
        refine VL.va (op_fieldAddr FI25_0 rfl (add_at _ _ _) (ltn rfl)) rfl ?_
        refine VL.va (op_load 2 1 rfl rfl TI22 rfl (by decide) (ltn rfl)) rfl ?_
        refine VL.va (op_load 0 1 rfl rfl TI87 rfl (by decide) (ltn rfl)) rfl ?_
        replace h := Option.bind_eq_some_iff.1 h
        obtain ⟨t727, hA728, h⟩ := h
        refine VL.sC (o_call0 FO53 (slices_ContainsFunc_string_string.ok k l0_0 v0_0 t727 hA728) rfl rfl (ltn rfl) (All_of (.cons (List.mem_of_getElem? (i := 0) rfl) .nil))) rfl ?_
        rintro _ _ _ ⟨rfl, rfl, rfl⟩
        by_cases c729 : t727 = true
        · rw [if_pos c729] at h
          obtain rfl := c729
          refine VL.va (op_not rfl rfl (ltn rfl)) rfl ?_
          refine VL.va (op_pick rfl rfl (ltn rfl)) rfl ?_
          refine VL.va (op_move rfl (ltn rfl)) rfl ?_
          refine VL.un rfl rfl (ltn rfl) ?_
          refine VL.un rfl rfl (ltn rfl) ?_
          refine VL.un rfl rfl (ltn rfl) ?_
          refine VL.un rfl rfl (ltn rfl) ?_
          refine VL.un rfl rfl (ltn rfl) ?_
          refine VL.va (op_pick rfl rfl (ltn rfl)) rfl ?_
          refine VL.va (op_assign rfl (ltn rfl)) rfl ?_
          refine VL.done ?_
          refine VN.then ?_
          refine VC.ret ?_
          obtain rfl := Option.some.inj h
          exact VR.fn (rs := [.tmp 2]) [] [] [] rfl (.tmp rfl .nil) ⟨rfl, rfl, rfl⟩ trivial rfl (by decide)
        · rw [if_neg c729] at h
          obtain rfl := Bool.eq_false_iff.2 c729
          refine VL.va (op_not rfl rfl (ltn rfl)) rfl ?_
          refine VL.va (op_pick rfl rfl (ltn rfl)) rfl ?_
          refine VL.va (op_move rfl (ltn rfl)) rfl ?_
          refine VL.va (op_fieldAddr FI25_1 rfl (add_at _ _ _) (ltn rfl)) rfl ?_
          refine VL.va (op_load 2 1 rfl rfl TI23 rfl (by decide) (ltn rfl)) rfl ?_
          refine VL.va (op_move rfl (ltn rfl)) rfl ?_
          refine VL.freeze' 1 rfl ?_
          refine VL.freeze' 0 rfl ?_
          replace h := Option.bind_eq_some_iff.1 h
          obtain ⟨t730, hA731, h⟩ := h
          refine VL.sC (o_call0 FO54 (slices_ContainsFunc_api_Write_api_Write.ok k l0_1 (l0_0.length : Int) v0_1 g483 g484 t730 hA731) rfl rfl (ltn rfl) (All_of (.cons (List.mem_of_getElem? (i := 3) rfl) (.cons (List.mem_of_getElem? (i := 1) rfl) (.cons (List.mem_of_getElem? (i := 0) rfl) .nil))))) rfl ?_
          rintro _ _ _ ⟨rfl, rfl, rfl⟩
          by_cases c732 : t730 = true
          · rw [if_pos c732] at h
            obtain rfl := c732
            refine VL.va (op_not rfl rfl (ltn rfl)) rfl ?_
            refine VL.va (op_pick rfl rfl (ltn rfl)) rfl ?_
            refine VL.va (op_assign rfl (ltn rfl)) rfl ?_
            refine VL.done ?_
            refine VN.then ?_
            refine VC.ret ?_
            obtain rfl := Option.some.inj h
            exact VR.fn (rs := [.tmp 2]) [] [] [] rfl (.tmp rfl .nil) ⟨rfl, rfl, rfl⟩ trivial rfl (by decide)
          · rw [if_neg c732] at h
            obtain rfl := Bool.eq_false_iff.2 c732
            refine VL.va (op_not rfl rfl (ltn rfl)) rfl ?_
            refine VL.va (op_pick rfl rfl (ltn rfl)) rfl ?_
            refine VL.va (op_assign rfl (ltn rfl)) rfl ?_
            refine VL.done ?_
            refine VN.then ?_
            refine VC.ret ?_
            obtain rfl := Option.some.inj h
            exact VR.fn (rs := [.tmp 2]) [] [] [] rfl (.tmp rfl .nil) ⟨rfl, rfl, rfl⟩ trivial rfl (by decide)
      · rw [if_neg c726] at h
        obtain rfl : b725 = false := hb725.symm.trans (decide_eq_false c726)
        refine VL.un rfl rfl (ltn rfl) ?_
        refine VL.un rfl rfl (ltn rfl) ?_
        refine VL.un rfl rfl (ltn rfl) ?_
        refine VL.un rfl rfl (ltn rfl) ?_
        refine VL.un rfl rfl (ltn rfl) ?_
        refine VL.va (op_pick rfl rfl (ltn rfl)) rfl ?_
        refine VL.va (op_move rfl (ltn rfl)) rfl ?_
        refine VL.un rfl rfl (ltn rfl) ?_
        refine VL.un rfl rfl (ltn rfl) ?_
        refine VL.un rfl rfl (ltn rfl) ?_
        refine VL.un rfl rfl (ltn rfl) ?_
        refine VL.un rfl rfl (ltn rfl) ?_
        refine VL.va (op_pick rfl rfl (ltn rfl)) rfl ?_
        refine VL.va (op_assign rfl (ltn rfl)) rfl ?_
        refine VL.done ?_
        refine VN.then ?_
        refine VC.ret ?_
        obtain rfl := Option.some.inj h
        exact VR.fn (rs := [.tmp 2]) [] [] [] rfl (.tmp rfl .nil) ⟨rfl, rfl, rfl⟩ trivial rfl (by decide)
    · rw [if_neg c724] at h
      obtain rfl : b723 = false := hb723.symm.trans (decide_eq_false c724)
      refine VL.un rfl rfl (ltn rfl) ?_
      refine VL.un rfl rfl (ltn rfl) ?_
      refine VL.un rfl rfl (ltn rfl) ?_
      refine VL.un rfl rfl (ltn rfl) ?_
      refine VL.va (op_pick rfl rfl (ltn rfl)) rfl ?_
      refine VL.va (op_move rfl (ltn rfl)) rfl ?_
      refine VL.un rfl rfl (ltn rfl) ?_
      refine VL.un rfl rfl (ltn rfl) ?_
      refine VL.un rfl rfl (ltn rfl) ?_
      refine VL.un rfl rfl (ltn rfl) ?_
      refine VL.un rfl rfl (ltn rfl) ?_
      refine VL.va (op_pick rfl rfl (ltn rfl)) rfl ?_
      refine VL.va (op_move rfl (ltn rfl)) rfl ?_
      refine VL.un rfl rfl (ltn rfl) ?_
      refine VL.un rfl rfl (ltn rfl) ?_
      refine VL.un rfl rfl (ltn rfl) ?_
      refine VL.un rfl rfl (ltn rfl) ?_
      refine VL.un rfl rfl (ltn rfl) ?_
      refine VL.va (op_pick rfl rfl (ltn rfl)) rfl ?_
      refine VL.va (op_assign rfl (ltn rfl)) rfl ?_
      refine VL.done ?_
      refine VN.then ?_
      refine VC.ret ?_
      obtain rfl := Option.some.inj h
      exact VR.fn (rs := [.tmp 2]) [] [] [] rfl (.tmp rfl .nil) ⟨rfl, rfl, rfl⟩ trivial rfl (by decide)
  · rw [if_neg c722] at h
    obtain rfl : b721 = false := hb721.symm.trans (decide_eq_false c722)
    refine VL.un rfl rfl (ltn rfl) ?_
    refine VL.un rfl rfl (ltn rfl) ?_
    refine VL.va (op_pick rfl rfl (ltn rfl)) rfl ?_
    refine VL.va (op_move rfl (ltn rfl)) rfl ?_
    refine VL.un rfl rfl (ltn rfl) ?_
    refine VL.un rfl rfl (ltn rfl) ?_
    refine VL.un rfl rfl (ltn rfl) ?_
    refine VL.un rfl rfl (ltn rfl) ?_
    refine VL.va (op_pick rfl rfl (ltn rfl)) rfl ?_
    refine VL.va (op_move rfl (ltn rfl)) rfl ?_
    refine VL.un rfl rfl (ltn rfl) ?_
    refine VL.un rfl rfl (ltn rfl) ?_
    refine VL.un rfl rfl (ltn rfl) ?_
    refine VL.un rfl rfl (ltn rfl) ?_
    refine VL.un rfl rfl (ltn rfl) ?_
    refine VL.va (op_pick rfl rfl (ltn rfl)) rfl ?_
    refine VL.va (op_move rfl (ltn rfl)) rfl ?_
    refine VL.un rfl rfl (ltn rfl) ?_
    refine VL.un rfl rfl (ltn rfl) ?_
    refine VL.un rfl rfl (ltn rfl) ?_
    refine VL.un rfl rfl (ltn rfl) ?_
    refine VL.un rfl rfl (ltn rfl) ?_
    refine VL.va (op_pick rfl rfl (ltn rfl)) rfl ?_
    refine VL.va (op_assign rfl (ltn rfl)) rfl ?_
    refine VL.done ?_
    refine VN.then ?_
    refine VC.ret ?_
    obtain rfl := Option.some.inj h
    exact VR.fn (rs := [.tmp 2]) [] [] [] rfl (.tmp rfl .nil) ⟨rfl, rfl, rfl⟩ trivial rfl (by decide)
set_option maxHeartbeats 4000000 in
set_option maxRecDepth 100000 in
theorem journal_room.ok (a0 : Int)  (r1 : Int) (h : journal_room.f a0 = some r1) :
    VCalls Try.prog 55 [.int .i64 a0] [] (fun v G own => v = .int .i64 r1 ∧ G = [] ∧ own = []) := by
  refine VCalls.intro Try.func55 rfl (len rfl) fun E hC hW hD hU => ?_
  unfold journal_room.f at h
  refine VC.seq ?_
  refine VC.region ?_
  refine VL.va (op_assign rfl (ltn rfl)) rfl ?_
  refine VL.done ?_
  refine VN.then ?_
  refine VC.seq ?_
  refine VC.region ?_
  refine VL.va (op_move rfl (ltn rfl)) rfl ?_
  refine VL.va (op_ari64 rfl rfl rfl (ltn rfl)) rfl ?_
  refine VL.va (op_quo rfl rfl (by decide) rfl (ltn rfl)) rfl ?_
  refine VL.va (op_ari64 rfl rfl rfl (ltn rfl)) rfl ?_
  refine VL.va (op_assign rfl (ltn rfl)) rfl ?_
  refine VL.done ?_
  refine VN.then ?_
  refine VC.ret ?_
  obtain rfl := Option.some.inj h
  exact VR.fn (rs := [.tmp 2]) [] [] [] rfl (.tmp rfl .nil) ⟨rfl, rfl, rfl⟩ trivial rfl (by decide)
set_option maxHeartbeats 4000000 in
set_option maxRecDepth 100000 in
theorem journal_headOf.ok (k : Nat) (a0 : Int) (a1 : Int) (a2 : Int)  (r1 : List Int) (h : journal_headOf.f k a0 a1 a2 = some r1) :
    VCalls Try.prog 39 [.int .i64 a0, .int .i64 a1, .int .i64 a2] [] (fun v G own => v = .agg (ints .u8 r1).toArray ∧ G = [] ∧ own = []) := by
  refine VCalls.intro Try.func39 rfl (len rfl) fun E hC hW hD hU => ?_
  unfold journal_headOf.f at h
  refine VC.seq ?_
  refine VC.region ?_
  refine VL.sG (o_alloc Z74 ZL74 (ltn rfl)) rfl ?_
  intro g863
  refine VL.done ?_
  refine VN.then ?_
  refine VC.seq ?_
  refine VC.region ?_
  refine VL.sG (o_alloc Z74 ZL74 (ltn rfl)) rfl ?_
  intro g864
  refine VL.done ?_
  refine VN.then ?_
  refine VC.seq ?_
  refine VC.region ?_
  refine VL.va (op_sliceB Try.underlying74 TI5 rfl (ltn rfl)) rfl ?_
  by_cases c865 : (List.replicate 32 (0 : Int)).length = 32
  · rw [if_pos c865] at h
    refine VL.step1 (o_copyS0 0 Try.underlying41 TI5 rfl rfl rfl c865 rfl (ltn rfl)) rfl ?_
    refine VL.va (op_assign rfl (ltn rfl)) rfl ?_
    refine VL.done ?_
    refine VN.then ?_
    refine VC.seq ?_
    refine VC.region ?_
    refine VL.va (op_move rfl (ltn rfl)) rfl ?_
    refine VL.va (op_move rfl (ltn rfl)) rfl ?_
    refine VL.va (op_conv Try.underlying3 Try.underlying5 rfl rfl (ltn rfl)) rfl ?_
    by_cases c866 : 0 ≤ ((min (⟨#[116, 97, 114, 114, 121]⟩ : ByteArray).size 32) : Int)
    · rw [if_pos c866] at h
      by_cases c867 : ((min (⟨#[116, 97, 114, 114, 121]⟩ : ByteArray).size 32) : Int) < 32
      · rw [if_pos c867] at h
        refine VL.va (op_indexAddrA Try.underlying74 TI5 rfl rfl c866 c867 (ltn rfl)) rfl ?_
        by_cases c868 : (((min (⟨#[116, 97, 114, 114, 121]⟩ : ByteArray).size 32) : Int).toNat) < ((byI (⟨#[116, 97, 114, 114, 121]⟩ : ByteArray)).take (min (⟨#[116, 97, 114, 114, 121]⟩ : ByteArray).size 32) ++ (List.replicate 32 (0 : Int)).drop (min (⟨#[116, 97, 114, 114, 121]⟩ : ByteArray).size 32)).length
        · rw [if_pos c868] at h
          refine VL.step1 (o_storeE 0 rfl rfl rfl TI5 c868) rfl ?_
          refine VL.done ?_
          refine VN.then ?_
          refine VC.seq ?_
          refine VC.seq ?_
          refine VC.region ?_
          refine VL.va (op_move rfl (ltn rfl)) rfl ?_
          refine VL.done ?_
          refine VN.then ?_
          refine VC.block ?_
          refine VC.loop2 (fun (i893 : Int) (l894 : List Int) => ⟨46, [(0, .int .i64 a0), (2, .int .i64 a2), (6, .pointer (some ⟨g863, 0, none⟩)), (7, .pointer (some ⟨g864, 0, none⟩)), (8, .int .i64 ((min (⟨#[116, 97, 114, 114, 121]⟩ : ByteArray).size 32) : Int)), (17, .int .i64 i893)], [], [(g864, 74, ints .u8 l894), (g863, 74, ints .u8 (List.replicate 32 (0 : Int)))], []⟩) (fun (ml1 : Nat) (i893 : Int) (l894 : List Int) => journal_headOf.l1 k a0 a2 ml1 i893 l894 = some r1) k 0 (((byI (⟨#[116, 97, 114, 114, 121]⟩ : ByteArray)).take (min (⟨#[116, 97, 114, 114, 121]⟩ : ByteArray).size 32) ++ (List.replicate 32 (0 : Int)).drop (min (⟨#[116, 97, 114, 114, 121]⟩ : ByteArray).size 32)).set ((min (⟨#[116, 97, 114, 114, 121]⟩ : ByteArray).size 32) : Int).toNat (IntKind.u8.wrap a1)) [0, 1] [] h ⟨rfl, ⟨rfl, rfl, rfl, rfl, rfl, rfl, trivial⟩, trivial, rfl, by decide, rfl, by decide⟩ (by intros; simp [journal_headOf.l1]) ?_
          clear h
          intro ml1 ihl1 i893 l894 h
          simp only [journal_headOf.l1] at h
          refine VC.seq ?_
          refine VC.region ?_
          refine VL.letter (decide (i893 < 8)) fun b902 hb902 => ?_
          refine VL.va (op_cmp rfl rfl (congrArg some hb902) (ltn rfl)) rfl ?_
          refine VL.done ?_
          refine VN.then ?_
          refine VC.seq ?_
          by_cases c946 : i893 < 8
          · rw [if_pos c946] at h
            obtain rfl : b902 = true := hb902.symm.trans (decide_eq_true c946)
            refine VC.cond_t rfl ?_
            refine VC.skip ?_
            refine VN.then ?_
            refine VC.seq ?_
            refine VC.block ?_
            refine VC.seq ?_
            refine VC.region ?_
            refine VL.va (op_move rfl (ltn rfl)) rfl ?_
            refine VL.va (op_assign rfl (ltn rfl)) rfl ?_
            refine VL.done ?_
            refine VN.then ?_
            refine VC.region ?_
            refine VL.va (op_move rfl (ltn rfl)) rfl ?_
            refine VL.va (op_ari64 rfl rfl rfl (ltn rfl)) rfl ?_
            refine VL.va (op_move rfl (ltn rfl)) rfl ?_
            refine VL.va (op_ari64 rfl rfl rfl (ltn rfl)) rfl ?_
            refine VL.va (op_move rfl (ltn rfl)) rfl ?_
            refine VL.va (op_move rfl (ltn rfl)) rfl ?_
            refine VL.va (op_ari64 rfl rfl rfl (ltn rfl)) rfl ?_
            by_cases c947 : 0 ≤ wrap64 (8 * i893)
            · rw [if_pos c947] at h
              refine VL.va (op_shr rfl rfl c947 rfl (ltn rfl)) rfl ?_
              refine VL.va (op_conv Try.underlying3 Try.underlying5 rfl rfl (ltn rfl)) rfl ?_
              by_cases c948 : 0 ≤ wrap64 ((wrap64 (((min (⟨#[116, 97, 114, 114, 121]⟩ : ByteArray).size 32) : Int) + 1)) + i893)
              · rw [if_pos c948] at h
                by_cases c949 : (wrap64 ((wrap64 (((min (⟨#[116, 97, 114, 114, 121]⟩ : ByteArray).size 32) : Int) + 1)) + i893)) < 32
                · rw [if_pos c949] at h
                  refine VL.va (op_indexAddrA Try.underlying74 TI5 rfl rfl c948 c949 (ltn rfl)) rfl ?_
                  by_cases c950 : ((wrap64 ((wrap64 (((min (⟨#[116, 97, 114, 114, 121]⟩ : ByteArray).size 32) : Int) + 1)) + i893)).toNat) < l894.length
                  · rw [if_pos c950] at h
                    refine VL.step1 (o_storeE 0 rfl rfl rfl TI5 c950) rfl ?_
                    refine VL.done ?_
                    refine VN.block ?_
                    refine VN.then ?_
                    refine VC.region ?_
                    refine VL.va (op_ari64 rfl rfl rfl (ltn rfl)) rfl ?_
                    refine VL.va (op_move rfl (ltn rfl)) rfl ?_
                    refine VL.done ?_
                    refine VN.again [0, 1] [] (ihl1 (wrap64 (i893 + 1)) (l894.set (wrap64 ((wrap64 (((min (⟨#[116, 97, 114, 114, 121]⟩ : ByteArray).size 32) : Int) + 1)) + i893)).toNat (IntKind.u8.wrap (a0.fdiv (2 ^ min (wrap64 (8 * i893)).toNat IntKind.i64.bits)))) h) ⟨rfl, ⟨rfl, rfl, rfl, rfl, rfl, rfl, trivial⟩, trivial, rfl, by decide, rfl, by decide⟩
                  · rw [if_neg c950] at h; cases h
                · rw [if_neg c949] at h; cases h
              · rw [if_neg c948] at h; cases h
            · rw [if_neg c947] at h; cases h
          · rw [if_neg c946] at h
            obtain rfl : b902 = false := hb902.symm.trans (decide_eq_false c946)
            refine VC.cond_f rfl ?_
            refine VC.exit ?_
            refine VX.then ?_
            refine VX.then ?_
            refine VX.hit ?_
            refine VN.then ?_
            refine VC.seq ?_
            refine VC.seq ?_
            refine VC.region ?_
            refine VL.va (op_move rfl (ltn rfl)) rfl ?_
            refine VL.done ?_
            refine VN.then ?_
            refine VC.block ?_
            refine VC.loop2 (fun (i975 : Int) (l976 : List Int) => ⟨46, [(2, .int .i64 a2), (6, .pointer (some ⟨g863, 0, none⟩)), (7, .pointer (some ⟨g864, 0, none⟩)), (8, .int .i64 ((min (⟨#[116, 97, 114, 114, 121]⟩ : ByteArray).size 32) : Int)), (31, .int .i64 i975)], [], [(g864, 74, ints .u8 l976), (g863, 74, ints .u8 (List.replicate 32 (0 : Int)))], []⟩) (fun (ml5 : Nat) (i975 : Int) (l976 : List Int) => journal_headOf.l5 k a2 ml5 i975 l976 = some r1) k 0 l894 [0, 1] [] h ⟨rfl, ⟨rfl, rfl, rfl, rfl, rfl, trivial⟩, trivial, rfl, by decide, rfl, by decide⟩ (by intros; simp [journal_headOf.l5]) ?_
            clear h
            intro ml5 ihl5 i975 l976 h
            simp only [journal_headOf.l5] at h
            refine VC.seq ?_
            refine VC.region ?_
            refine VL.letter (decide (i975 < 4)) fun b984 hb984 => ?_
            refine VL.va (op_cmp rfl rfl (congrArg some hb984) (ltn rfl)) rfl ?_
            refine VL.done ?_
            refine VN.then ?_
            refine VC.seq ?_
            by_cases c987 : i975 < 4
            · rw [if_pos c987] at h
              obtain rfl : b984 = true := hb984.symm.trans (decide_eq_true c987)
              refine VC.cond_t rfl ?_
              refine VC.skip ?_
              refine VN.then ?_
              refine VC.seq ?_
              refine VC.block ?_
              refine VC.seq ?_
              refine VC.region ?_
              refine VL.va (op_move rfl (ltn rfl)) rfl ?_
              refine VL.va (op_assign rfl (ltn rfl)) rfl ?_
              refine VL.done ?_
              refine VN.then ?_
              refine VC.region ?_
              refine VL.va (op_move rfl (ltn rfl)) rfl ?_
              refine VL.va (op_ari64 rfl rfl rfl (ltn rfl)) rfl ?_
              refine VL.va (op_move rfl (ltn rfl)) rfl ?_
              refine VL.va (op_ari64 rfl rfl rfl (ltn rfl)) rfl ?_
              refine VL.va (op_move rfl (ltn rfl)) rfl ?_
              refine VL.va (op_move rfl (ltn rfl)) rfl ?_
              refine VL.va (op_ari64 rfl rfl rfl (ltn rfl)) rfl ?_
              by_cases c988 : 0 ≤ wrap64 (8 * i975)
              · rw [if_pos c988] at h
                refine VL.va (op_shr rfl rfl c988 rfl (ltn rfl)) rfl ?_
                refine VL.va (op_conv Try.underlying3 Try.underlying5 rfl rfl (ltn rfl)) rfl ?_
                by_cases c989 : 0 ≤ wrap64 ((wrap64 (((min (⟨#[116, 97, 114, 114, 121]⟩ : ByteArray).size 32) : Int) + 9)) + i975)
                · rw [if_pos c989] at h
                  by_cases c990 : (wrap64 ((wrap64 (((min (⟨#[116, 97, 114, 114, 121]⟩ : ByteArray).size 32) : Int) + 9)) + i975)) < 32
                  · rw [if_pos c990] at h
                    refine VL.va (op_indexAddrA Try.underlying74 TI5 rfl rfl c989 c990 (ltn rfl)) rfl ?_
                    by_cases c991 : ((wrap64 ((wrap64 (((min (⟨#[116, 97, 114, 114, 121]⟩ : ByteArray).size 32) : Int) + 9)) + i975)).toNat) < l976.length
                    · rw [if_pos c991] at h
                      refine VL.step1 (o_storeE 0 rfl rfl rfl TI5 c991) rfl ?_
                      refine VL.done ?_
                      refine VN.block ?_
                      refine VN.then ?_
                      refine VC.region ?_
                      refine VL.va (op_ari64 rfl rfl rfl (ltn rfl)) rfl ?_
                      refine VL.va (op_move rfl (ltn rfl)) rfl ?_
                      refine VL.done ?_
                      refine VN.again [0, 1] [] (ihl5 (wrap64 (i975 + 1)) (l976.set (wrap64 ((wrap64 (((min (⟨#[116, 97, 114, 114, 121]⟩ : ByteArray).size 32) : Int) + 9)) + i975)).toNat (IntKind.u8.wrap (a2.fdiv (2 ^ min (wrap64 (8 * i975)).toNat IntKind.i64.bits)))) h) ⟨rfl, ⟨rfl, rfl, rfl, rfl, rfl, trivial⟩, trivial, rfl, by decide, rfl, by decide⟩
                    · rw [if_neg c991] at h; cases h
                  · rw [if_neg c990] at h; cases h
                · rw [if_neg c989] at h; cases h
              · rw [if_neg c988] at h; cases h
            · rw [if_neg c987] at h
              obtain rfl : b984 = false := hb984.symm.trans (decide_eq_false c987)
              refine VC.cond_f rfl ?_
              refine VC.exit ?_
              refine VX.then ?_
              refine VX.then ?_
              refine VX.hit ?_
              refine VN.then ?_
              refine VC.seq ?_
              refine VC.region ?_
              by_cases c992 : l976.length = 32
              · rw [if_pos c992] at h
                refine VL.va (op_loadA 0 rfl rfl TI74 c992 (ltn rfl)) rfl ?_
                refine VL.step1 (o_storeA 1 rfl rfl rfl TI74 c992 c865) rfl ?_
                refine VL.done ?_
                refine VN.then ?_
                refine VC.ret ?_
                obtain rfl := Option.some.inj h
                exact VR.fn (rs := [.cell 6 74]) [] [] [] rfl (.cellA 1 rfl rfl TI74 c992 .nil) ⟨rfl, rfl, rfl⟩ trivial rfl (by decide)
              · rw [if_neg c992] at h; cases h
        · rw [if_neg c868] at h; cases h
      · rw [if_neg c867] at h; cases h
    · rw [if_neg c866] at h; cases h
  · rw [if_neg c865] at h; cases h

end Go.Proofs.Ytipeglbeongfmaa.PJournalUnused
