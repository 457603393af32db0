/- Written by a program of this repo: what the program's functions do, each as a Lean function, shown of the loaded code; or a statement's row over that; no condition of its own. -/
import Derived.Test.YthgoagnennjagaaPQueueOrdersx4
namespace Go.Proofs.Ythgoagnennjagaa.PQueueOrders
open Go Go.RowKit Go.Proofs.YthgoagnennjagaaV
set_option linter.unusedVariables false
set_option linter.unusedSimpArgs false

set_option maxHeartbeats 4000000 in
set_option maxRecDepth 100000 in
theorem queue_Sorted.ok (k : Nat) (l0 : List S23) (v0 : Value) (r1 : List S23) (r2 : Int) (h : queue_Sorted.f k l0 = some (r1, r2)) :
    VCalls Try.prog 9 [v0] [.row v0 3 (l0.map enc23)] (fun v G own => ∃ w0 : Value, v = .tuple #[w0, .int .i64 r2] ∧ G = [] ∧ own = [(w0, 24, 3, r1.map enc23)]) := by
  refine VCalls.intro Try.func9 rfl (len rfl) fun E hC => ?_
  unfold queue_Sorted.f at h
  refine VC.seq ?_
  refine VC.region ?_
  refine VL.va (op_assign rfl (ltn rfl)) rfl ?_
  refine VL.va (op_assign rfl (ltn rfl)) rfl ?_
  refine VL.done ?_
  refine VN.then ?_
  refine VC.seq ?_
  refine VC.region ?_
  refine VL.va (op_move rfl (ltn rfl)) rfl ?_
  replace h := Option.bind_eq_some_iff.1 h
  obtain ⟨⟨r111457, t111458⟩, hA111459, h⟩ := h
  dsimp only at h
  refine VL.sC (o_call0 FO8 (queue_Make.ok k l0 v0 r111457 t111458 hA111459) rfl rfl (ltn rfl) (All_of (.cons (List.mem_of_getElem? (i := 0) rfl) .nil))) rfl ?_
  rintro _ _ _ ⟨v111461, rfl, rfl, rfl⟩
  refine VL.va (op_move rfl (ltn rfl)) rfl ?_
  refine VL.va (op_extract rfl rfl (ltn rfl)) rfl ?_
  refine VL.va (op_extract rfl rfl (ltn rfl)) rfl ?_
  refine VL.va (op_assign rfl (ltn rfl)) rfl ?_
  refine VL.va (op_assign rfl (ltn rfl)) rfl ?_
  refine VL.done ?_
  refine VN.then ?_
  refine VC.seq ?_
  refine VC.seq ?_
  refine VC.region ?_
  refine VL.va (op_move rfl (ltn rfl)) rfl ?_
  refine VL.letter ((t111458 != 0)) fun b111465 hb111465 => ?_
  refine VL.va (op_cmp rfl rfl (congrArg some hb111465) (ltn rfl)) rfl ?_
  refine VL.done ?_
  refine VN.then ?_
  by_cases c111466 : t111458 = 0
  · rw [if_pos c111466] at h
    obtain rfl : b111465 = false := hb111465.symm.trans (bne_eq_false_iff_eq.2 c111466)
    refine VC.cond_f rfl ?_
    refine VC.skip ?_
    refine VN.then ?_
    refine VC.seq ?_
    refine VC.region ?_
    refine VL.va (op_move rfl (ltn rfl)) rfl ?_
    refine VL.sG (o_alloc Z40 ZL40 (ltn rfl)) rfl ?_
    intro g111467
    refine VL.step1 (o_store 0 1 rfl rfl rfl TI40 (.r 0 rfl) rfl (len rfl)) rfl ?_
    refine VL.done ?_
    refine VN.then ?_
    refine VC.seq ?_
    refine VC.region ?_
    refine VL.va (op_assign rfl (ltn rfl)) rfl ?_
    refine VL.done ?_
    refine VN.then ?_
    refine VC.seq ?_
    refine VC.block ?_
    refine VC.nilRow' 24 3 ?_
    refine VC.loop4 (fun (v174094 : Value) (l174095 : List S23) (v174098 : Value) (l174099 : List S23) => ⟨33, [(2, .slice none 0 0), (3, .int .i64 0), (6, .pointer (some ⟨g111467, 0, none⟩)), (7, v174094)], [], [(g111467, 40, [v174098])], [(v174094, 24, 3, l174095.map enc23), (v174098, 24, 3, l174099.map enc23)]⟩) (fun (ml41 : Nat) (v174094 : Value) (l174095 : List S23) (v174098 : Value) (l174099 : List S23) => queue_Sorted.l41 k ml41 l174095 l174099 = some (r1, r2)) k (.slice none 0 0) ([] : List S23) v111461 r111457 [0] [0, 1] h ⟨rfl, ⟨rfl, rfl, rfl, rfl, trivial⟩, trivial, rfl, by decide, rfl, by decide⟩ (by intros; simp [queue_Sorted.l41]) ?_
    clear h
    intro ml41 ihl41 v174094 l174095 v174098 l174099 h
    simp only [queue_Sorted.l41] at h
    refine VC.seq ?_
    refine VC.seq ?_
    refine VC.region ?_
    refine VL.va (op_makeIface Try.underlying42 (fun _ h => by cases h) rfl (ltn rfl)) rfl ?_
    refine VL.inl (vals := [.iface 42 (.pointer (some ⟨g111467, 0, none⟩))]) (caps := []) Try.func24 FO24 rfl rfl rfl (len rfl) (ltn rfl) rfl ?_
    refine VC.seq ?_
    refine VC.region ?_
    refine VL.va (op_assign rfl (ltn rfl)) rfl ?_
    refine VL.done ?_
    refine VN.then ?_
    refine VC.seq ?_
    refine VC.region ?_
    refine VL.va (op_move rfl (ltn rfl)) rfl ?_
    refine VL.inle (vals := [v174098]) Try.func54 rfl (ope_meth_v 0 1 MI42_Len Try.underlying42 FO54 rfl rfl TI40 rfl (by decide) rfl rfl) (len rfl) (by rintro d ⟨⟩; exact ltn rfl) rfl ?_
    refine VC.seq ?_
    refine VC.region ?_
    refine VL.va (op_assign rfl (ltn rfl)) rfl ?_
    refine VL.done ?_
    refine VN.then ?_
    refine VC.seq ?_
    refine VC.region ?_
    refine VL.va (op_move rfl (ltn rfl)) rfl ?_
    refine VL.va (op_len_own (m := l174099.length) 1 lenm Try.underlying40 rfl rfl (ltn rfl)) rfl ?_
    refine VL.va (op_assign rfl (ltn rfl)) rfl ?_
    refine VL.done ?_
    refine VN.then ?_
    refine VC.ret ?_
    refine VR.inl (rs := [.tmp 2]) (.int .i64 (l174099.length : Int)) rfl (.tmp rfl .nil) rfl ?_
    refine VL.va (op_assign rfl (ltn rfl)) rfl ?_
    refine VL.done ?_
    refine VN.then ?_
    refine VC.ret ?_
    refine VR.inl (rs := [.tmp 2]) (.int .i64 (l174099.length : Int)) rfl (.tmp rfl .nil) rfl ?_
    refine VL.letter (decide ((l174099.length : Int) > 0)) fun b187981 hb187981 => ?_
    refine VL.va (op_cmp rfl rfl (congrArg some hb187981) (ltn rfl)) rfl ?_
    refine VL.done ?_
    refine VN.then ?_
    by_cases c187982 : (l174099.length : Int) > 0
    · rw [if_pos c187982] at h
      obtain rfl : b187981 = true := hb187981.symm.trans (decide_eq_true c187982)
      refine VC.cond_t rfl ?_
      refine VC.skip ?_
      refine VN.then ?_
      refine VC.block ?_
      refine VC.seq ?_
      refine VC.region ?_
      refine VL.va (op_makeIface Try.underlying42 (fun _ h => by cases h) rfl (ltn rfl)) rfl ?_
      refine VL.inl (vals := [.iface 42 (.pointer (some ⟨g111467, 0, none⟩))]) (caps := []) Try.func25 FO25 rfl rfl rfl (len rfl) (ltn rfl) rfl ?_
      refine VC.seq ?_
      refine VC.region ?_
      refine VL.va (op_assign rfl (ltn rfl)) rfl ?_
      refine VL.done ?_
      refine VN.then ?_
      refine VC.seq ?_
      refine VC.region ?_
      refine VL.va (op_move rfl (ltn rfl)) rfl ?_
      refine VL.inle (vals := [v174098]) Try.func54 rfl (ope_meth_v 0 1 MI42_Len Try.underlying42 FO54 rfl rfl TI40 rfl (by decide) rfl rfl) (len rfl) (by rintro d ⟨⟩; exact ltn rfl) rfl ?_
      refine VC.seq ?_
      refine VC.region ?_
      refine VL.va (op_assign rfl (ltn rfl)) rfl ?_
      refine VL.done ?_
      refine VN.then ?_
      refine VC.seq ?_
      refine VC.region ?_
      refine VL.va (op_move rfl (ltn rfl)) rfl ?_
      refine VL.va (op_len_own (m := l174099.length) 1 lenm Try.underlying40 rfl rfl (ltn rfl)) rfl ?_
      refine VL.va (op_assign rfl (ltn rfl)) rfl ?_
      refine VL.done ?_
      refine VN.then ?_
      refine VC.ret ?_
      refine VR.inl (rs := [.tmp 2]) (.int .i64 (l174099.length : Int)) rfl (.tmp rfl .nil) rfl ?_
      refine VL.va (op_ari64 rfl rfl rfl (ltn rfl)) rfl ?_
      refine VL.va (op_assign rfl (ltn rfl)) rfl ?_
      refine VL.done ?_
      refine VN.then ?_
      refine VC.seq ?_
      refine VC.region ?_
      refine VL.va (op_move rfl (ltn rfl)) rfl ?_
      refine VL.va (op_move rfl (ltn rfl)) rfl ?_
      replace h := Option.bind_eq_some_iff.1 h
      obtain ⟨r194841, hA194842, h⟩ := h
      refine VL.step1 (ope_ownd (vals := [v174098, .int .i64 0, .int .i64 (wrap64 ((l174099.length : Int) - 1))]) 1 rfl (ope_meth_v 0 1 MI42_Swap Try.underlying42 FO56 rfl rfl TI40 rfl (by decide) rfl rfl) (queue_waits_Swap.ok l174099 0 (wrap64 ((l174099.length : Int) - 1)) v174098 r194841 hA194842) (by simp) (ltn rfl)) rfl ?_
      refine VL.done ?_
      refine VN.then ?_
      refine VC.join2 (fun (v201830 : Value) (l201831 : List S23) => ⟨15, [(0, .iface 42 (.pointer (some ⟨g111467, 0, none⟩))), (2, .nilIface)], [], [(g111467, 40, [v201830])], [(v201830, 24, 3, l201831.map enc23), (v174094, 24, 3, l174095.map enc23)]⟩) (fun (v201830 : Value) (l201831 : List S23) => queue_Sorted.j77 k (queue_Sorted.l41 k ml41) l174095 l201831 = some (r1, r2)) ?_ ?_
      · refine VC.region ?_
        refine VL.va (op_move rfl (ltn rfl)) rfl ?_
        refine VL.va (op_move rfl (ltn rfl)) rfl ?_
        refine VL.inl (vals := [.iface 42 (.pointer (some ⟨g111467, 0, none⟩)), .int .i64 0, .int .i64 (wrap64 ((l174099.length : Int) - 1))]) (caps := []) Try.func31 FO31 rfl rfl rfl (len rfl) (ltn rfl) rfl ?_
        refine VC.seq ?_
        refine VC.region ?_
        refine VL.va (op_assign rfl (ltn rfl)) rfl ?_
        refine VL.done ?_
        refine VN.then ?_
        refine VC.seq ?_
        refine VC.region ?_
        refine VL.va (op_move rfl (ltn rfl)) rfl ?_
        refine VL.va (op_assign rfl (ltn rfl)) rfl ?_
        refine VL.done ?_
        refine VN.then ?_
        refine VC.seq ?_
        refine VC.block ?_
        refine VC.loop3 (fun (i201218 : Int) (v201220 : Value) (l201221 : List S23) => ⟨48, [(0, .iface 42 (.pointer (some ⟨g111467, 0, none⟩))), (1, .int .i64 0), (2, .int .i64 (wrap64 ((l174099.length : Int) - 1))), (6, .bool false), (7, .int .i64 i201218)], [], [(g111467, 40, [v201220])], [(v201220, 24, 3, l201221.map enc23), (v174094, 24, 3, l174095.map enc23)]⟩) (fun (ml80 : Nat) (i201218 : Int) (v201220 : Value) (l201221 : List S23) => queue_Sorted.l80 k (queue_Sorted.l41 k ml41) l174095 l174099 ml80 i201218 l201221 = some (r1, r2)) k 0 v174098 r194841 [0] [1, 0] h ⟨rfl, ⟨rfl, rfl, rfl, rfl, rfl, trivial⟩, trivial, rfl, by decide, rfl, by decide⟩ (by intros; simp [queue_Sorted.l80]) ?_
        clear h
        intro ml80 ihl80 i201218 v201220 l201221 h
        simp only [queue_Sorted.l80] at h
        refine VC.block ?_
        refine VC.seq ?_
        refine VC.region ?_
        refine VL.va (op_move rfl (ltn rfl)) rfl ?_
        refine VL.va (op_ari64 rfl rfl rfl (ltn rfl)) rfl ?_
        refine VL.va (op_ari64 rfl rfl rfl (ltn rfl)) rfl ?_
        refine VL.va (op_assign rfl (ltn rfl)) rfl ?_
        refine VL.done ?_
        refine VN.then ?_
        refine VC.seq ?_
        refine VC.join3 (fun (q201683 : Bool) (q201684 : Bool) (q201685 : Bool) => ⟨48, [(0, .iface 42 (.pointer (some ⟨g111467, 0, none⟩))), (1, .int .i64 0), (2, .int .i64 (wrap64 ((l174099.length : Int) - 1))), (6, .bool false), (7, .int .i64 i201218), (8, .int .i64 (wrap64 ((wrap64 (2 * i201218)) + 1))), (12, .int .i64 i201218), (13, .int .i64 (wrap64 (2 * i201218))), (14, .int .i64 (wrap64 ((wrap64 (2 * i201218)) + 1))), (15, .int .i64 (wrap64 ((wrap64 (2 * i201218)) + 1))), (16, .int .i64 (wrap64 ((l174099.length : Int) - 1))), (17, .bool q201683), (18, .bool q201684), (21, .bool q201685)], [], [(g111467, 40, [v201220])], [(v174094, 24, 3, l174095.map enc23), (v201220, 24, 3, l201221.map enc23)]⟩) (fun (q201683 : Bool) (q201684 : Bool) (q201685 : Bool) => queue_Sorted.j81 k (queue_Sorted.l41 k ml41) (queue_Sorted.l80 k (queue_Sorted.l41 k ml41) l174095 l174099 ml80) i201218 l174095 l174099 l201221 q201683 q201684 q201685 = some (r1, r2)) ?_ ?_
        · refine VC.region ?_
          refine VL.va (op_move rfl (ltn rfl)) rfl ?_
          refine VL.va (op_move rfl (ltn rfl)) rfl ?_
          refine VL.letter (decide ((wrap64 ((wrap64 (2 * i201218)) + 1)) ≥ (wrap64 ((l174099.length : Int) - 1)))) fun b201680 hb201680 => ?_
          refine VL.va (op_cmp rfl rfl (congrArg some hb201680) (ltn rfl)) rfl ?_
          refine VL.va (op_move rfl (ltn rfl)) rfl ?_
          by_cases c201681 : (wrap64 ((wrap64 (2 * i201218)) + 1)) ≥ (wrap64 ((l174099.length : Int) - 1))
          · rw [if_pos c201681] at h
            obtain rfl : b201680 = true := hb201680.symm.trans (decide_eq_true c201681)
            refine VL.un rfl rfl (ltn rfl) ?_
            refine VL.un rfl rfl (ltn rfl) ?_
            refine VL.va (op_pick rfl rfl (ltn rfl)) rfl ?_
            refine VL.done ?_
            refine VN.meet3 true true true [0] [1, 0] h ⟨rfl, ⟨rfl, rfl, rfl, rfl, rfl, rfl, rfl, rfl, rfl, rfl, rfl, rfl, rfl, rfl, trivial⟩, trivial, rfl, by decide, rfl, by decide⟩
          · rw [if_neg c201681] at h
            obtain rfl : b201680 = false := hb201680.symm.trans (decide_eq_false c201681)
            refine VL.va (op_move rfl (ltn rfl)) rfl ?_
            refine VL.letter (decide ((wrap64 ((wrap64 (2 * i201218)) + 1)) < 0)) fun b201682 hb201682 => ?_
            refine VL.va (op_cmp rfl rfl (congrArg some hb201682) (ltn rfl)) rfl ?_
            refine VL.va (op_pick rfl rfl (ltn rfl)) rfl ?_
            refine VL.done ?_
            subst hb201682
            refine VN.meet3 false false (decide ((wrap64 ((wrap64 (2 * i201218)) + 1)) < 0)) [0] [1, 0] h ⟨rfl, ⟨rfl, rfl, rfl, rfl, rfl, rfl, rfl, rfl, rfl, rfl, rfl, rfl, rfl, rfl, trivial⟩, trivial, rfl, by decide, rfl, by decide⟩
        clear h
        intro q201683 q201684 q201685 h
        unfold queue_Sorted.j81 at h
        by_cases c201686 : q201685 = true
        · rw [if_pos c201686] at h
          obtain rfl := c201686
          refine VC.cond_t rfl ?_
          refine VC.exit ?_
          refine VX.then ?_
          refine VX.miss (by decide) ?_
          refine VX.then ?_
          refine VX.hit ?_
          refine VN.then ?_
          refine VC.seq ?_
          refine VC.region ?_
          refine VL.va (op_move rfl (ltn rfl)) rfl ?_
          refine VL.va (op_move rfl (ltn rfl)) rfl ?_
          refine VL.letter (decide (i201218 > 0)) fun b201687 hb201687 => ?_
          refine VL.va (op_cmp rfl rfl (congrArg some hb201687) (ltn rfl)) rfl ?_
          refine VL.va (op_assign rfl (ltn rfl)) rfl ?_
          refine VL.done ?_
          refine VN.then ?_
          refine VC.ret ?_
          refine VR.inl (rs := [.tmp 6]) (.bool b201687) rfl (.tmp rfl .nil) rfl ?_
          refine VL.done ?_
          refine VN.meet2 v201220 l201221 [0] [1, 0] h ⟨rfl, ⟨rfl, rfl, trivial⟩, trivial, rfl, by decide, rfl, by decide⟩
        · rw [if_neg c201686] at h
          obtain rfl := Bool.eq_false_iff.2 c201686
          refine VC.cond_f rfl ?_
          refine VC.skip ?_
          refine VN.then ?_
          refine VC.seq ?_
          refine VC.region ?_
          refine VL.va (op_move rfl (ltn rfl)) rfl ?_
          refine VL.va (op_assign rfl (ltn rfl)) rfl ?_
          refine VL.done ?_
          refine VN.then ?_
          refine VC.seq ?_
          refine VC.seq ?_
          refine VC.region ?_
          refine VL.va (op_move rfl (ltn rfl)) rfl ?_
          refine VL.va (op_ari64 rfl rfl rfl (ltn rfl)) rfl ?_
          refine VL.va (op_assign rfl (ltn rfl)) rfl ?_
          refine VL.done ?_
          refine VN.then ?_
          refine VC.seq ?_
          refine VC.region ?_
          refine VL.va (op_move rfl (ltn rfl)) rfl ?_
          refine VL.va (op_move rfl (ltn rfl)) rfl ?_
          refine VL.letter (decide ((wrap64 ((wrap64 ((wrap64 (2 * i201218)) + 1)) + 1)) < (wrap64 ((l174099.length : Int) - 1)))) fun b201716 hb201716 => ?_
          refine VL.va (op_cmp rfl rfl (congrArg some hb201716) (ltn rfl)) rfl ?_
          refine VL.va (op_move rfl (ltn rfl)) rfl ?_
          by_cases c201717 : (wrap64 ((wrap64 ((wrap64 (2 * i201218)) + 1)) + 1)) < (wrap64 ((l174099.length : Int) - 1))
          · rw [if_pos c201717] at h
            obtain rfl : b201716 = true := hb201716.symm.trans (decide_eq_true c201717)
            refine VL.va (op_move rfl (ltn rfl)) rfl ?_
            refine VL.va (op_move rfl (ltn rfl)) rfl ?_
            refine VL.va (op_move rfl (ltn rfl)) rfl ?_
            refine VL.inle (vals := [v201220, .int .i64 (wrap64 ((wrap64 ((wrap64 (2 * i201218)) + 1)) + 1)), .int .i64 (wrap64 ((wrap64 (2 * i201218)) + 1))]) Try.func55 rfl (ope_meth_v 0 1 MI42_Less Try.underlying42 FO55 rfl rfl TI40 rfl (by decide) rfl rfl) (len rfl) (by rintro d ⟨⟩; exact ltn rfl) rfl ?_
            refine VC.seq ?_
            refine VC.region ?_
            refine VL.va (op_assign rfl (ltn rfl)) rfl ?_
            refine VL.done ?_
            refine VN.then ?_
            by_cases c201718 : 0 ≤ wrap64 ((wrap64 ((wrap64 (2 * i201218)) + 1)) + 1)
            · rw [if_pos c201718] at h
              replace h := Option.bind_eq_some_iff.1 h
              obtain ⟨x201719, hx201719, h⟩ := h
              by_cases c201720 : 0 ≤ wrap64 ((wrap64 (2 * i201218)) + 1)
              · rw [if_pos c201720] at h
                replace h := Option.bind_eq_some_iff.1 h
                obtain ⟨x201721, hx201721, h⟩ := h
                replace h := Option.bind_eq_some_iff.1 h
                obtain ⟨t201722, hA201723, h⟩ := h
                refine VC.letter (decide (t201722 < 0)) fun b201724 hb201724 => ?_
                refine VC.openR (m := l201221.length) 1 lenm rfl (pos_get hx201719) ?_
                rintro g201240 n201241 rfl
                refine VC.join0 (⟨17, [(6, .bool b201724)], [], [(g111467, 40, [(.slice (some ⟨g201240, 0, none⟩) l201221.length n201241)])], [(v174094, 24, 3, l174095.map enc23), ((.slice (some ⟨g201240, 0, none⟩) l201221.length n201241), 24, 3, l201221.map enc23)]⟩) (True) ?_ ?_
                · refine VC.draw ⟨0, [], [], [], [((.slice (some ⟨g201240, 0, none⟩) l201221.length n201241), 24, 3, l201221.map enc23)]⟩ (by kernel_rfl) rfl (by kernel_rfl) (n := 11) (listed := LB 11 0) ?_
                  refine VA.va (i := 0) (listed' := LB 11 1) rfl (op_move rfl (ltn rfl)) rfl (by kernel_rfl) (by kernel_rfl) (by kernel_rfl) (by kernel_rfl) ⟨trivial, trivial, ⟨⟨1, rfl⟩, trivial⟩⟩ (fun _ _ _ h => h) ?_
                  refine VA.va (i := 1) (listed' := LB 11 3) rfl (op_move rfl (ltn rfl)) rfl (by kernel_rfl) (by kernel_rfl) (by kernel_rfl) (by kernel_rfl) ⟨trivial, trivial, ⟨⟨1, rfl⟩, trivial⟩⟩ (fun _ _ _ h => h) ?_
                  refine VA.va (i := 2) (listed' := LB 11 7) rfl (op_indexAddr Try.underlying40 TI24 rfl rfl c201718 (lt_get c201718 hx201719) (add_zero_at _ _) (ltn rfl)) rfl (by kernel_rfl) (by kernel_rfl) (by kernel_rfl) (by kernel_rfl) ⟨trivial, trivial, ⟨⟨1, rfl⟩, trivial⟩⟩ (fun _ _ _ h => h) ?_
                  refine VA.va (i := 3) (listed' := LB 11 15) rfl (op_load_own (sz := 3) (o := 0) 0 (wrap64 ((wrap64 ((wrap64 (2 * i201218)) + 1)) + 1)).toNat 3 rfl rfl (get_map hx201719) TI24 rfl (fun h => absurd h (by decide)) (ltn rfl)) rfl (by kernel_rfl) (by kernel_rfl) (by kernel_rfl) (by kernel_rfl) ⟨trivial, trivial, ⟨⟨1, rfl⟩, trivial⟩⟩ (fun _ _ _ h => h) ?_
                  refine VA.va (i := 4) (listed' := LB 11 31) rfl (op_move rfl (ltn rfl)) rfl (by kernel_rfl) (by kernel_rfl) (by kernel_rfl) (by kernel_rfl) ⟨trivial, trivial, ⟨⟨1, rfl⟩, trivial⟩⟩ (fun _ _ _ h => h) ?_
                  refine VA.va (i := 5) (listed' := LB 11 63) rfl (op_move rfl (ltn rfl)) rfl (by kernel_rfl) (by kernel_rfl) (by kernel_rfl) (by kernel_rfl) ⟨trivial, trivial, ⟨⟨1, rfl⟩, trivial⟩⟩ (fun _ _ _ h => h) ?_
                  refine VA.va (i := 6) (listed' := LB 11 127) rfl (op_indexAddr Try.underlying40 TI24 rfl rfl c201720 (lt_get c201720 hx201721) (add_zero_at _ _) (ltn rfl)) rfl (by kernel_rfl) (by kernel_rfl) (by kernel_rfl) (by kernel_rfl) ⟨trivial, trivial, ⟨⟨1, rfl⟩, trivial⟩⟩ (fun _ _ _ h => h) ?_
                  refine VA.va (i := 7) (listed' := LB 11 255) rfl (op_load_own (sz := 3) (o := 0) 0 (wrap64 ((wrap64 (2 * i201218)) + 1)).toNat 3 rfl rfl (get_map hx201721) TI24 rfl (fun h => absurd h (by decide)) (ltn rfl)) rfl (by kernel_rfl) (by kernel_rfl) (by kernel_rfl) (by kernel_rfl) ⟨trivial, trivial, ⟨⟨1, rfl⟩, trivial⟩⟩ (fun _ _ _ h => h) ?_
                  refine VA.oneC (i := 8) (listed' := LB 11 511) (by kernel_rfl) rfl (o_call0 FO26 (queue_compare.ok k x201719.f0 x201719.f1 x201719.f2 x201721.f0 x201721.f1 x201721.f2 t201722 hA201723) rfl rfl (ltn rfl) (All_of .nil)) rfl (by kernel_rfl) ?_
                  rintro _ _ _ ⟨rfl, rfl, rfl⟩
                  refine ⟨⟨trivial, trivial, ⟨⟨1, rfl⟩, trivial⟩⟩, ?_⟩
                  refine VA.va (i := 9) (listed' := LB 11 1023) rfl (op_cmp rfl rfl (congrArg some hb201724) (ltn rfl)) rfl (by kernel_rfl) (by kernel_rfl) (by kernel_rfl) (by kernel_rfl) ⟨trivial, trivial, ⟨⟨1, rfl⟩, trivial⟩⟩ (fun _ _ _ h => h) ?_
                  refine VA.va (i := 10) (listed' := LB 11 2047) rfl (op_assign rfl (ltn rfl)) rfl (by kernel_rfl) (by kernel_rfl) (by kernel_rfl) (by kernel_rfl) ⟨trivial, trivial, ⟨⟨1, rfl⟩, trivial⟩⟩ (fun _ _ _ h => h) ?_
                  refine VA.done (by kernel_rfl) ?_
                  exact VN.meet0  [0] [0, 1] trivial ⟨rfl, ⟨rfl, trivial⟩, trivial, rfl, by decide, rfl, by decide⟩
                intro _
                refine VC.ret ?_
                refine VR.inl (rs := [.tmp 6]) (.bool b201724) rfl (.tmp rfl .nil) rfl ?_
                refine VL.va (op_pick rfl rfl (ltn rfl)) rfl ?_
                refine VL.done ?_
                refine VN.then ?_
                by_cases c201725 : t201722 < 0
                · rw [if_pos c201725] at h
                  obtain rfl : b201724 = true := hb201724.symm.trans (decide_eq_true c201725)
                  refine VC.cond_t rfl ?_
                  refine VC.region ?_
                  refine VL.va (op_move rfl (ltn rfl)) rfl ?_
                  refine VL.va (op_assign rfl (ltn rfl)) rfl ?_
                  refine VL.done ?_
                  refine VN.then ?_
                  refine VC.seq ?_
                  refine VC.seq ?_
                  refine VC.region ?_
                  refine VL.va (op_move rfl (ltn rfl)) rfl ?_
                  refine VL.va (op_move rfl (ltn rfl)) rfl ?_
                  refine VL.va (op_move rfl (ltn rfl)) rfl ?_
                  refine VL.inle (vals := [(.slice (some ⟨g201240, 0, none⟩) l201221.length n201241), .int .i64 (wrap64 ((wrap64 ((wrap64 (2 * i201218)) + 1)) + 1)), .int .i64 i201218]) Try.func55 rfl (ope_meth_v 0 1 MI42_Less Try.underlying42 FO55 rfl rfl TI40 rfl (by decide) rfl rfl) (len rfl) (by rintro d ⟨⟩; exact ltn rfl) rfl ?_
                  refine VC.seq ?_
                  refine VC.region ?_
                  refine VL.va (op_assign rfl (ltn rfl)) rfl ?_
                  refine VL.done ?_
                  refine VN.then ?_
                  replace h := Option.bind_eq_some_iff.1 h
                  obtain ⟨x201748, hx201748, h⟩ := h
                  by_cases c201749 : 0 ≤ i201218
                  · rw [if_pos c201749] at h
                    replace h := Option.bind_eq_some_iff.1 h
                    obtain ⟨x201750, hx201750, h⟩ := h
                    replace h := Option.bind_eq_some_iff.1 h
                    obtain ⟨t201751, hA201752, h⟩ := h
                    refine VC.letter (decide (t201751 < 0)) fun b201753 hb201753 => ?_
                    refine VC.join0 (⟨17, [(6, .bool b201753)], [], [(g111467, 40, [(.slice (some ⟨g201240, 0, none⟩) l201221.length n201241)])], [(v174094, 24, 3, l174095.map enc23), ((.slice (some ⟨g201240, 0, none⟩) l201221.length n201241), 24, 3, l201221.map enc23)]⟩) (True) ?_ ?_
                    · refine VC.draw ⟨0, [], [], [], [((.slice (some ⟨g201240, 0, none⟩) l201221.length n201241), 24, 3, l201221.map enc23)]⟩ (by kernel_rfl) rfl (by kernel_rfl) (n := 11) (listed := LB 11 0) ?_
                      refine VA.va (i := 0) (listed' := LB 11 1) rfl (op_move rfl (ltn rfl)) rfl (by kernel_rfl) (by kernel_rfl) (by kernel_rfl) (by kernel_rfl) ⟨trivial, trivial, ⟨⟨1, rfl⟩, trivial⟩⟩ (fun _ _ _ h => h) ?_
                      refine VA.va (i := 1) (listed' := LB 11 3) rfl (op_move rfl (ltn rfl)) rfl (by kernel_rfl) (by kernel_rfl) (by kernel_rfl) (by kernel_rfl) ⟨trivial, trivial, ⟨⟨1, rfl⟩, trivial⟩⟩ (fun _ _ _ h => h) ?_
                      refine VA.va (i := 2) (listed' := LB 11 7) rfl (op_indexAddr Try.underlying40 TI24 rfl rfl c201718 (lt_get c201718 hx201748) (add_zero_at _ _) (ltn rfl)) rfl (by kernel_rfl) (by kernel_rfl) (by kernel_rfl) (by kernel_rfl) ⟨trivial, trivial, ⟨⟨1, rfl⟩, trivial⟩⟩ (fun _ _ _ h => h) ?_
                      refine VA.va (i := 3) (listed' := LB 11 15) rfl (op_load_own (sz := 3) (o := 0) 0 (wrap64 ((wrap64 ((wrap64 (2 * i201218)) + 1)) + 1)).toNat 3 rfl rfl (get_map hx201748) TI24 rfl (fun h => absurd h (by decide)) (ltn rfl)) rfl (by kernel_rfl) (by kernel_rfl) (by kernel_rfl) (by kernel_rfl) ⟨trivial, trivial, ⟨⟨1, rfl⟩, trivial⟩⟩ (fun _ _ _ h => h) ?_
                      refine VA.va (i := 4) (listed' := LB 11 31) rfl (op_move rfl (ltn rfl)) rfl (by kernel_rfl) (by kernel_rfl) (by kernel_rfl) (by kernel_rfl) ⟨trivial, trivial, ⟨⟨1, rfl⟩, trivial⟩⟩ (fun _ _ _ h => h) ?_
                      refine VA.va (i := 5) (listed' := LB 11 63) rfl (op_move rfl (ltn rfl)) rfl (by kernel_rfl) (by kernel_rfl) (by kernel_rfl) (by kernel_rfl) ⟨trivial, trivial, ⟨⟨1, rfl⟩, trivial⟩⟩ (fun _ _ _ h => h) ?_
                      refine VA.va (i := 6) (listed' := LB 11 127) rfl (op_indexAddr Try.underlying40 TI24 rfl rfl c201749 (lt_get c201749 hx201750) (add_zero_at _ _) (ltn rfl)) rfl (by kernel_rfl) (by kernel_rfl) (by kernel_rfl) (by kernel_rfl) ⟨trivial, trivial, ⟨⟨1, rfl⟩, trivial⟩⟩ (fun _ _ _ h => h) ?_
                      refine VA.va (i := 7) (listed' := LB 11 255) rfl (op_load_own (sz := 3) (o := 0) 0 i201218.toNat 3 rfl rfl (get_map hx201750) TI24 rfl (fun h => absurd h (by decide)) (ltn rfl)) rfl (by kernel_rfl) (by kernel_rfl) (by kernel_rfl) (by kernel_rfl) ⟨trivial, trivial, ⟨⟨1, rfl⟩, trivial⟩⟩ (fun _ _ _ h => h) ?_
                      refine VA.oneC (i := 8) (listed' := LB 11 511) (by kernel_rfl) rfl (o_call0 FO26 (queue_compare.ok k x201748.f0 x201748.f1 x201748.f2 x201750.f0 x201750.f1 x201750.f2 t201751 hA201752) rfl rfl (ltn rfl) (All_of .nil)) rfl (by kernel_rfl) ?_
                      rintro _ _ _ ⟨rfl, rfl, rfl⟩
                      refine ⟨⟨trivial, trivial, ⟨⟨1, rfl⟩, trivial⟩⟩, ?_⟩
                      refine VA.va (i := 9) (listed' := LB 11 1023) rfl (op_cmp rfl rfl (congrArg some hb201753) (ltn rfl)) rfl (by kernel_rfl) (by kernel_rfl) (by kernel_rfl) (by kernel_rfl) ⟨trivial, trivial, ⟨⟨1, rfl⟩, trivial⟩⟩ (fun _ _ _ h => h) ?_
                      refine VA.va (i := 10) (listed' := LB 11 2047) rfl (op_assign rfl (ltn rfl)) rfl (by kernel_rfl) (by kernel_rfl) (by kernel_rfl) (by kernel_rfl) ⟨trivial, trivial, ⟨⟨1, rfl⟩, trivial⟩⟩ (fun _ _ _ h => h) ?_
                      refine VA.done (by kernel_rfl) ?_
                      exact VN.meet0  [0] [0, 1] trivial ⟨rfl, ⟨rfl, trivial⟩, trivial, rfl, by decide, rfl, by decide⟩
                    intro _
                    refine VC.ret ?_
                    refine VR.inl (rs := [.tmp 6]) (.bool b201753) rfl (.tmp rfl .nil) rfl ?_
                    by_cases c201754 : t201751 < 0
                    · rw [if_pos c201754] at h
                      obtain rfl : b201753 = true := hb201753.symm.trans (decide_eq_true c201754)
                      refine VL.va (op_not rfl rfl (ltn rfl)) rfl ?_
                      refine VL.done ?_
                      refine VN.then ?_
                      refine VC.cond_f rfl ?_
                      refine VC.skip ?_
                      refine VN.then ?_
                      refine VC.seq ?_
                      refine VC.region ?_
                      refine VL.va (op_move rfl (ltn rfl)) rfl ?_
                      refine VL.va (op_move rfl (ltn rfl)) rfl ?_
                      refine VL.va (op_move rfl (ltn rfl)) rfl ?_
                      replace h := Option.bind_eq_some_iff.1 h
                      obtain ⟨r201755, hA201756, h⟩ := h
                      refine VL.step1 (ope_ownd (vals := [(.slice (some ⟨g201240, 0, none⟩) l201221.length n201241), .int .i64 i201218, .int .i64 (wrap64 ((wrap64 ((wrap64 (2 * i201218)) + 1)) + 1))]) 1 rfl (ope_meth_v 0 1 MI42_Swap Try.underlying42 FO56 rfl rfl TI40 rfl (by decide) rfl rfl) (queue_waits_Swap.ok l201221 i201218 (wrap64 ((wrap64 ((wrap64 (2 * i201218)) + 1)) + 1)) (.slice (some ⟨g201240, 0, none⟩) l201221.length n201241) r201755 hA201756) (by simp) (ltn rfl)) rfl ?_
                      refine VL.done ?_
                      refine VN.then ?_
                      refine VC.region ?_
                      refine VL.va (op_move rfl (ltn rfl)) rfl ?_
                      refine VL.va (op_assign rfl (ltn rfl)) rfl ?_
                      refine VL.done ?_
                      refine VN.block ?_
                      refine VN.again [0] [1, 0] (ihl80 (wrap64 ((wrap64 ((wrap64 (2 * i201218)) + 1)) + 1)) (.slice (some ⟨g201240, 0, none⟩) l201221.length n201241) r201755 h) ⟨rfl, ⟨rfl, rfl, rfl, rfl, rfl, trivial⟩, trivial, rfl, by decide, rfl, by decide⟩
                    · rw [if_neg c201754] at h
                      obtain rfl : b201753 = false := hb201753.symm.trans (decide_eq_false c201754)
                      refine VL.va (op_not rfl rfl (ltn rfl)) rfl ?_
                      refine VL.done ?_
                      refine VN.then ?_
                      refine VC.cond_t rfl ?_
                      refine VC.exit ?_
                      refine VX.then ?_
                      refine VX.miss (by decide) ?_
                      refine VX.then ?_
                      refine VX.hit ?_
                      refine VN.then ?_
                      refine VC.seq ?_
                      refine VC.region ?_
                      refine VL.va (op_move rfl (ltn rfl)) rfl ?_
                      refine VL.va (op_move rfl (ltn rfl)) rfl ?_
                      refine VL.letter (decide (i201218 > 0)) fun b201758 hb201758 => ?_
                      refine VL.va (op_cmp rfl rfl (congrArg some hb201758) (ltn rfl)) rfl ?_
                      refine VL.va (op_assign rfl (ltn rfl)) rfl ?_
                      refine VL.done ?_
                      refine VN.then ?_
                      refine VC.ret ?_
                      refine VR.inl (rs := [.tmp 6]) (.bool b201758) rfl (.tmp rfl .nil) rfl ?_
                      refine VL.done ?_
                      refine VN.meet2 (.slice (some ⟨g201240, 0, none⟩) l201221.length n201241) l201221 [0] [1, 0] h ⟨rfl, ⟨rfl, rfl, trivial⟩, trivial, rfl, by decide, rfl, by decide⟩
                  · rw [if_neg c201749] at h; cases h
                · rw [if_neg c201725] at h
                  obtain rfl : b201724 = false := hb201724.symm.trans (decide_eq_false c201725)
                  refine VC.cond_f rfl ?_
                  refine VC.skip ?_
                  refine VN.then ?_
                  refine VC.seq ?_
                  refine VC.seq ?_
                  refine VC.region ?_
                  refine VL.va (op_move rfl (ltn rfl)) rfl ?_
                  refine VL.va (op_move rfl (ltn rfl)) rfl ?_
                  refine VL.va (op_move rfl (ltn rfl)) rfl ?_
                  refine VL.inle (vals := [(.slice (some ⟨g201240, 0, none⟩) l201221.length n201241), .int .i64 (wrap64 ((wrap64 (2 * i201218)) + 1)), .int .i64 i201218]) Try.func55 rfl (ope_meth_v 0 1 MI42_Less Try.underlying42 FO55 rfl rfl TI40 rfl (by decide) rfl rfl) (len rfl) (by rintro d ⟨⟩; exact ltn rfl) rfl ?_
                  refine VC.seq ?_
                  refine VC.region ?_
                  refine VL.va (op_assign rfl (ltn rfl)) rfl ?_
                  refine VL.done ?_
                  refine VN.then ?_
                  replace h := Option.bind_eq_some_iff.1 h
                  obtain ⟨x201781, hx201781, h⟩ := h
                  by_cases c201782 : 0 ≤ i201218
                  · rw [if_pos c201782] at h
                    replace h := Option.bind_eq_some_iff.1 h
                    obtain ⟨x201783, hx201783, h⟩ := h
                    replace h := Option.bind_eq_some_iff.1 h
                    obtain ⟨t201784, hA201785, h⟩ := h
                    refine VC.letter (decide (t201784 < 0)) fun b201786 hb201786 => ?_
                    refine VC.join0 (⟨17, [(6, .bool b201786)], [], [(g111467, 40, [(.slice (some ⟨g201240, 0, none⟩) l201221.length n201241)])], [(v174094, 24, 3, l174095.map enc23), ((.slice (some ⟨g201240, 0, none⟩) l201221.length n201241), 24, 3, l201221.map enc23)]⟩) (True) ?_ ?_
                    · refine VC.draw ⟨0, [], [], [], [((.slice (some ⟨g201240, 0, none⟩) l201221.length n201241), 24, 3, l201221.map enc23)]⟩ (by kernel_rfl) rfl (by kernel_rfl) (n := 11) (listed := LB 11 0) ?_
                      refine VA.va (i := 0) (listed' := LB 11 1) rfl (op_move rfl (ltn rfl)) rfl (by kernel_rfl) (by kernel_rfl) (by kernel_rfl) (by kernel_rfl) ⟨trivial, trivial, ⟨⟨1, rfl⟩, trivial⟩⟩ (fun _ _ _ h => h) ?_
                      refine VA.va (i := 1) (listed' := LB 11 3) rfl (op_move rfl (ltn rfl)) rfl (by kernel_rfl) (by kernel_rfl) (by kernel_rfl) (by kernel_rfl) ⟨trivial, trivial, ⟨⟨1, rfl⟩, trivial⟩⟩ (fun _ _ _ h => h) ?_
                      refine VA.va (i := 2) (listed' := LB 11 7) rfl (op_indexAddr Try.underlying40 TI24 rfl rfl c201720 (lt_get c201720 hx201781) (add_zero_at _ _) (ltn rfl)) rfl (by kernel_rfl) (by kernel_rfl) (by kernel_rfl) (by kernel_rfl) ⟨trivial, trivial, ⟨⟨1, rfl⟩, trivial⟩⟩ (fun _ _ _ h => h) ?_
                      refine VA.va (i := 3) (listed' := LB 11 15) rfl (op_load_own (sz := 3) (o := 0) 0 (wrap64 ((wrap64 (2 * i201218)) + 1)).toNat 3 rfl rfl (get_map hx201781) TI24 rfl (fun h => absurd h (by decide)) (ltn rfl)) rfl (by kernel_rfl) (by kernel_rfl) (by kernel_rfl) (by kernel_rfl) ⟨trivial, trivial, ⟨⟨1, rfl⟩, trivial⟩⟩ (fun _ _ _ h => h) ?_
                      refine VA.va (i := 4) (listed' := LB 11 31) rfl (op_move rfl (ltn rfl)) rfl (by kernel_rfl) (by kernel_rfl) (by kernel_rfl) (by kernel_rfl) ⟨trivial, trivial, ⟨⟨1, rfl⟩, trivial⟩⟩ (fun _ _ _ h => h) ?_
                      refine VA.va (i := 5) (listed' := LB 11 63) rfl (op_move rfl (ltn rfl)) rfl (by kernel_rfl) (by kernel_rfl) (by kernel_rfl) (by kernel_rfl) ⟨trivial, trivial, ⟨⟨1, rfl⟩, trivial⟩⟩ (fun _ _ _ h => h) ?_
                      refine VA.va (i := 6) (listed' := LB 11 127) rfl (op_indexAddr Try.underlying40 TI24 rfl rfl c201782 (lt_get c201782 hx201783) (add_zero_at _ _) (ltn rfl)) rfl (by kernel_rfl) (by kernel_rfl) (by kernel_rfl) (by kernel_rfl) ⟨trivial, trivial, ⟨⟨1, rfl⟩, trivial⟩⟩ (fun _ _ _ h => h) ?_
                      refine VA.va (i := 7) (listed' := LB 11 255) rfl (op_load_own (sz := 3) (o := 0) 0 i201218.toNat 3 rfl rfl (get_map hx201783) TI24 rfl (fun h => absurd h (by decide)) (ltn rfl)) rfl (by kernel_rfl) (by kernel_rfl) (by kernel_rfl) (by kernel_rfl) ⟨trivial, trivial, ⟨⟨1, rfl⟩, trivial⟩⟩ (fun _ _ _ h => h) ?_
                      refine VA.oneC (i := 8) (listed' := LB 11 511) (by kernel_rfl) rfl (o_call0 FO26 (queue_compare.ok k x201781.f0 x201781.f1 x201781.f2 x201783.f0 x201783.f1 x201783.f2 t201784 hA201785) rfl rfl (ltn rfl) (All_of .nil)) rfl (by kernel_rfl) ?_
                      rintro _ _ _ ⟨rfl, rfl, rfl⟩
                      refine ⟨⟨trivial, trivial, ⟨⟨1, rfl⟩, trivial⟩⟩, ?_⟩
                      refine VA.va (i := 9) (listed' := LB 11 1023) rfl (op_cmp rfl rfl (congrArg some hb201786) (ltn rfl)) rfl (by kernel_rfl) (by kernel_rfl) (by kernel_rfl) (by kernel_rfl) ⟨trivial, trivial, ⟨⟨1, rfl⟩, trivial⟩⟩ (fun _ _ _ h => h) ?_
                      refine VA.va (i := 10) (listed' := LB 11 2047) rfl (op_assign rfl (ltn rfl)) rfl (by kernel_rfl) (by kernel_rfl) (by kernel_rfl) (by kernel_rfl) ⟨trivial, trivial, ⟨⟨1, rfl⟩, trivial⟩⟩ (fun _ _ _ h => h) ?_
                      refine VA.done (by kernel_rfl) ?_
                      exact VN.meet0  [0] [0, 1] trivial ⟨rfl, ⟨rfl, trivial⟩, trivial, rfl, by decide, rfl, by decide⟩
                    intro _
                    refine VC.ret ?_
                    refine VR.inl (rs := [.tmp 6]) (.bool b201786) rfl (.tmp rfl .nil) rfl ?_
                    by_cases c201787 : t201784 < 0
                    · rw [if_pos c201787] at h
                      obtain rfl : b201786 = true := hb201786.symm.trans (decide_eq_true c201787)
                      refine VL.va (op_not rfl rfl (ltn rfl)) rfl ?_
                      refine VL.done ?_
                      refine VN.then ?_
                      refine VC.cond_f rfl ?_
                      refine VC.skip ?_
                      refine VN.then ?_
                      refine VC.seq ?_
                      refine VC.region ?_
                      refine VL.va (op_move rfl (ltn rfl)) rfl ?_
                      refine VL.va (op_move rfl (ltn rfl)) rfl ?_
                      refine VL.va (op_move rfl (ltn rfl)) rfl ?_
                      replace h := Option.bind_eq_some_iff.1 h
                      obtain ⟨r201788, hA201789, h⟩ := h
                      refine VL.step1 (ope_ownd (vals := [(.slice (some ⟨g201240, 0, none⟩) l201221.length n201241), .int .i64 i201218, .int .i64 (wrap64 ((wrap64 (2 * i201218)) + 1))]) 1 rfl (ope_meth_v 0 1 MI42_Swap Try.underlying42 FO56 rfl rfl TI40 rfl (by decide) rfl rfl) (queue_waits_Swap.ok l201221 i201218 (wrap64 ((wrap64 (2 * i201218)) + 1)) (.slice (some ⟨g201240, 0, none⟩) l201221.length n201241) r201788 hA201789) (by simp) (ltn rfl)) rfl ?_
                      refine VL.done ?_
                      refine VN.then ?_
                      refine VC.region ?_
                      refine VL.va (op_move rfl (ltn rfl)) rfl ?_
                      refine VL.va (op_assign rfl (ltn rfl)) rfl ?_
                      refine VL.done ?_
                      refine VN.block ?_
                      refine VN.again [0] [1, 0] (ihl80 (wrap64 ((wrap64 (2 * i201218)) + 1)) (.slice (some ⟨g201240, 0, none⟩) l201221.length n201241) r201788 h) ⟨rfl, ⟨rfl, rfl, rfl, rfl, rfl, trivial⟩, trivial, rfl, by decide, rfl, by decide⟩
                    · rw [if_neg c201787] at h
                      obtain rfl : b201786 = false := hb201786.symm.trans (decide_eq_false c201787)
                      refine VL.va (op_not rfl rfl (ltn rfl)) rfl ?_
                      refine VL.done ?_
                      refine VN.then ?_
                      refine VC.cond_t rfl ?_
                      refine VC.exit ?_
                      refine VX.then ?_
                      refine VX.miss (by decide) ?_
                      refine VX.then ?_
                      refine VX.hit ?_
                      refine VN.then ?_
                      refine VC.seq ?_
                      refine VC.region ?_
                      refine VL.va (op_move rfl (ltn rfl)) rfl ?_
                      refine VL.va (op_move rfl (ltn rfl)) rfl ?_
                      refine VL.letter (decide (i201218 > 0)) fun b201791 hb201791 => ?_
                      refine VL.va (op_cmp rfl rfl (congrArg some hb201791) (ltn rfl)) rfl ?_
                      refine VL.va (op_assign rfl (ltn rfl)) rfl ?_
                      refine VL.done ?_
                      refine VN.then ?_
                      refine VC.ret ?_
                      refine VR.inl (rs := [.tmp 6]) (.bool b201791) rfl (.tmp rfl .nil) rfl ?_
                      refine VL.done ?_
                      refine VN.meet2 (.slice (some ⟨g201240, 0, none⟩) l201221.length n201241) l201221 [0] [1, 0] h ⟨rfl, ⟨rfl, rfl, trivial⟩, trivial, rfl, by decide, rfl, by decide⟩
                  · rw [if_neg c201782] at h; cases h
              · rw [if_neg c201720] at h; cases h
            · rw [if_neg c201718] at h; cases h
          · rw [if_neg c201717] at h
            obtain rfl : b201716 = false := hb201716.symm.trans (decide_eq_false c201717)
            refine VL.un rfl rfl (ltn rfl) ?_
            refine VL.un rfl rfl (ltn rfl) ?_
            refine VL.un rfl rfl (ltn rfl) ?_
            refine VL.un rfl rfl (ltn rfl) ?_
            refine VL.va (op_pick rfl rfl (ltn rfl)) rfl ?_
            refine VL.done ?_
            refine VN.then ?_
            refine VC.cond_f rfl ?_
            refine VC.skip ?_
            refine VN.then ?_
            refine VC.seq ?_
            refine VC.seq ?_
            refine VC.region ?_
            refine VL.va (op_move rfl (ltn rfl)) rfl ?_
            refine VL.va (op_move rfl (ltn rfl)) rfl ?_
            refine VL.va (op_move rfl (ltn rfl)) rfl ?_
            refine VL.inle (vals := [v201220, .int .i64 (wrap64 ((wrap64 (2 * i201218)) + 1)), .int .i64 i201218]) Try.func55 rfl (ope_meth_v 0 1 MI42_Less Try.underlying42 FO55 rfl rfl TI40 rfl (by decide) rfl rfl) (len rfl) (by rintro d ⟨⟩; exact ltn rfl) rfl ?_
            refine VC.seq ?_
            refine VC.region ?_
            refine VL.va (op_assign rfl (ltn rfl)) rfl ?_
            refine VL.done ?_
            refine VN.then ?_
            by_cases c201817 : 0 ≤ wrap64 ((wrap64 (2 * i201218)) + 1)
            · rw [if_pos c201817] at h
              replace h := Option.bind_eq_some_iff.1 h
              obtain ⟨x201818, hx201818, h⟩ := h
              by_cases c201819 : 0 ≤ i201218
              · rw [if_pos c201819] at h
                replace h := Option.bind_eq_some_iff.1 h
                obtain ⟨x201820, hx201820, h⟩ := h
                replace h := Option.bind_eq_some_iff.1 h
                obtain ⟨t201821, hA201822, h⟩ := h
                refine VC.letter (decide (t201821 < 0)) fun b201823 hb201823 => ?_
                refine VC.openR (m := l201221.length) 1 lenm rfl (pos_get hx201818) ?_
                rintro g201240 n201241 rfl
                refine VC.join0 (⟨17, [(6, .bool b201823)], [], [(g111467, 40, [(.slice (some ⟨g201240, 0, none⟩) l201221.length n201241)])], [(v174094, 24, 3, l174095.map enc23), ((.slice (some ⟨g201240, 0, none⟩) l201221.length n201241), 24, 3, l201221.map enc23)]⟩) (True) ?_ ?_
                · refine VC.draw ⟨0, [], [], [], [((.slice (some ⟨g201240, 0, none⟩) l201221.length n201241), 24, 3, l201221.map enc23)]⟩ (by kernel_rfl) rfl (by kernel_rfl) (n := 11) (listed := LB 11 0) ?_
                  refine VA.va (i := 0) (listed' := LB 11 1) rfl (op_move rfl (ltn rfl)) rfl (by kernel_rfl) (by kernel_rfl) (by kernel_rfl) (by kernel_rfl) ⟨trivial, trivial, ⟨⟨1, rfl⟩, trivial⟩⟩ (fun _ _ _ h => h) ?_
                  refine VA.va (i := 1) (listed' := LB 11 3) rfl (op_move rfl (ltn rfl)) rfl (by kernel_rfl) (by kernel_rfl) (by kernel_rfl) (by kernel_rfl) ⟨trivial, trivial, ⟨⟨1, rfl⟩, trivial⟩⟩ (fun _ _ _ h => h) ?_
                  refine VA.va (i := 2) (listed' := LB 11 7) rfl (op_indexAddr Try.underlying40 TI24 rfl rfl c201817 (lt_get c201817 hx201818) (add_zero_at _ _) (ltn rfl)) rfl (by kernel_rfl) (by kernel_rfl) (by kernel_rfl) (by kernel_rfl) ⟨trivial, trivial, ⟨⟨1, rfl⟩, trivial⟩⟩ (fun _ _ _ h => h) ?_
                  refine VA.va (i := 3) (listed' := LB 11 15) rfl (op_load_own (sz := 3) (o := 0) 0 (wrap64 ((wrap64 (2 * i201218)) + 1)).toNat 3 rfl rfl (get_map hx201818) TI24 rfl (fun h => absurd h (by decide)) (ltn rfl)) rfl (by kernel_rfl) (by kernel_rfl) (by kernel_rfl) (by kernel_rfl) ⟨trivial, trivial, ⟨⟨1, rfl⟩, trivial⟩⟩ (fun _ _ _ h => h) ?_
                  refine VA.va (i := 4) (listed' := LB 11 31) rfl (op_move rfl (ltn rfl)) rfl (by kernel_rfl) (by kernel_rfl) (by kernel_rfl) (by kernel_rfl) ⟨trivial, trivial, ⟨⟨1, rfl⟩, trivial⟩⟩ (fun _ _ _ h => h) ?_
                  refine VA.va (i := 5) (listed' := LB 11 63) rfl (op_move rfl (ltn rfl)) rfl (by kernel_rfl) (by kernel_rfl) (by kernel_rfl) (by kernel_rfl) ⟨trivial, trivial, ⟨⟨1, rfl⟩, trivial⟩⟩ (fun _ _ _ h => h) ?_
                  refine VA.va (i := 6) (listed' := LB 11 127) rfl (op_indexAddr Try.underlying40 TI24 rfl rfl c201819 (lt_get c201819 hx201820) (add_zero_at _ _) (ltn rfl)) rfl (by kernel_rfl) (by kernel_rfl) (by kernel_rfl) (by kernel_rfl) ⟨trivial, trivial, ⟨⟨1, rfl⟩, trivial⟩⟩ (fun _ _ _ h => h) ?_
                  refine VA.va (i := 7) (listed' := LB 11 255) rfl (op_load_own (sz := 3) (o := 0) 0 i201218.toNat 3 rfl rfl (get_map hx201820) TI24 rfl (fun h => absurd h (by decide)) (ltn rfl)) rfl (by kernel_rfl) (by kernel_rfl) (by kernel_rfl) (by kernel_rfl) ⟨trivial, trivial, ⟨⟨1, rfl⟩, trivial⟩⟩ (fun _ _ _ h => h) ?_
                  refine VA.oneC (i := 8) (listed' := LB 11 511) (by kernel_rfl) rfl (o_call0 FO26 (queue_compare.ok k x201818.f0 x201818.f1 x201818.f2 x201820.f0 x201820.f1 x201820.f2 t201821 hA201822) rfl rfl (ltn rfl) (All_of .nil)) rfl (by kernel_rfl) ?_
                  rintro _ _ _ ⟨rfl, rfl, rfl⟩
                  refine ⟨⟨trivial, trivial, ⟨⟨1, rfl⟩, trivial⟩⟩, ?_⟩
                  refine VA.va (i := 9) (listed' := LB 11 1023) rfl (op_cmp rfl rfl (congrArg some hb201823) (ltn rfl)) rfl (by kernel_rfl) (by kernel_rfl) (by kernel_rfl) (by kernel_rfl) ⟨trivial, trivial, ⟨⟨1, rfl⟩, trivial⟩⟩ (fun _ _ _ h => h) ?_
                  refine VA.va (i := 10) (listed' := LB 11 2047) rfl (op_assign rfl (ltn rfl)) rfl (by kernel_rfl) (by kernel_rfl) (by kernel_rfl) (by kernel_rfl) ⟨trivial, trivial, ⟨⟨1, rfl⟩, trivial⟩⟩ (fun _ _ _ h => h) ?_
                  refine VA.done (by kernel_rfl) ?_
                  exact VN.meet0  [0] [0, 1] trivial ⟨rfl, ⟨rfl, trivial⟩, trivial, rfl, by decide, rfl, by decide⟩
                intro _
                refine VC.ret ?_
                refine VR.inl (rs := [.tmp 6]) (.bool b201823) rfl (.tmp rfl .nil) rfl ?_
                by_cases c201824 : t201821 < 0
                · rw [if_pos c201824] at h
                  obtain rfl : b201823 = true := hb201823.symm.trans (decide_eq_true c201824)
                  refine VL.va (op_not rfl rfl (ltn rfl)) rfl ?_
                  refine VL.done ?_
                  refine VN.then ?_
                  refine VC.cond_f rfl ?_
                  refine VC.skip ?_
                  refine VN.then ?_
                  refine VC.seq ?_
                  refine VC.region ?_
                  refine VL.va (op_move rfl (ltn rfl)) rfl ?_
                  refine VL.va (op_move rfl (ltn rfl)) rfl ?_
                  refine VL.va (op_move rfl (ltn rfl)) rfl ?_
                  replace h := Option.bind_eq_some_iff.1 h
                  obtain ⟨r201825, hA201826, h⟩ := h
                  refine VL.step1 (ope_ownd (vals := [(.slice (some ⟨g201240, 0, none⟩) l201221.length n201241), .int .i64 i201218, .int .i64 (wrap64 ((wrap64 (2 * i201218)) + 1))]) 1 rfl (ope_meth_v 0 1 MI42_Swap Try.underlying42 FO56 rfl rfl TI40 rfl (by decide) rfl rfl) (queue_waits_Swap.ok l201221 i201218 (wrap64 ((wrap64 (2 * i201218)) + 1)) (.slice (some ⟨g201240, 0, none⟩) l201221.length n201241) r201825 hA201826) (by simp) (ltn rfl)) rfl ?_
                  refine VL.done ?_
                  refine VN.then ?_
                  refine VC.region ?_
                  refine VL.va (op_move rfl (ltn rfl)) rfl ?_
                  refine VL.va (op_assign rfl (ltn rfl)) rfl ?_
                  refine VL.done ?_
                  refine VN.block ?_
                  refine VN.again [0] [1, 0] (ihl80 (wrap64 ((wrap64 (2 * i201218)) + 1)) (.slice (some ⟨g201240, 0, none⟩) l201221.length n201241) r201825 h) ⟨rfl, ⟨rfl, rfl, rfl, rfl, rfl, trivial⟩, trivial, rfl, by decide, rfl, by decide⟩
                · rw [if_neg c201824] at h
                  obtain rfl : b201823 = false := hb201823.symm.trans (decide_eq_false c201824)
                  refine VL.va (op_not rfl rfl (ltn rfl)) rfl ?_
                  refine VL.done ?_
                  refine VN.then ?_
                  refine VC.cond_t rfl ?_
                  refine VC.exit ?_
                  refine VX.then ?_
                  refine VX.miss (by decide) ?_
                  refine VX.then ?_
                  refine VX.hit ?_
                  refine VN.then ?_
                  refine VC.seq ?_
                  refine VC.region ?_
                  refine VL.va (op_move rfl (ltn rfl)) rfl ?_
                  refine VL.va (op_move rfl (ltn rfl)) rfl ?_
                  refine VL.letter (decide (i201218 > 0)) fun b201828 hb201828 => ?_
                  refine VL.va (op_cmp rfl rfl (congrArg some hb201828) (ltn rfl)) rfl ?_
                  refine VL.va (op_assign rfl (ltn rfl)) rfl ?_
                  refine VL.done ?_
                  refine VN.then ?_
                  refine VC.ret ?_
                  refine VR.inl (rs := [.tmp 6]) (.bool b201828) rfl (.tmp rfl .nil) rfl ?_
                  refine VL.done ?_
                  refine VN.meet2 (.slice (some ⟨g201240, 0, none⟩) l201221.length n201241) l201221 [0] [1, 0] h ⟨rfl, ⟨rfl, rfl, trivial⟩, trivial, rfl, by decide, rfl, by decide⟩
              · rw [if_neg c201819] at h; cases h
            · rw [if_neg c201817] at h; cases h
      clear h
      intro v201830 l201831 h
      unfold queue_Sorted.j77 at h
      refine VC.seq ?_
      refine VC.region ?_
      refine VL.va (op_move rfl (ltn rfl)) rfl ?_
      refine VL.inle (vals := [.pointer (some ⟨g111467, 0, none⟩)]) Try.func57 rfl (ope_meth_p MI42_Pop Try.underlying42 FO57 rfl rfl) (len rfl) (by rintro d ⟨⟩; exact ltn rfl) rfl ?_
      refine VC.seq ?_
      refine VC.region ?_
      refine VL.va (op_assign rfl (ltn rfl)) rfl ?_
      refine VL.done ?_
      refine VN.then ?_
      refine VC.seq ?_
      refine VC.region ?_
      refine VL.va (op_move rfl (ltn rfl)) rfl ?_
      refine VL.va (op_nilCheck rfl (ltn rfl)) rfl ?_
      refine VL.va (op_load 0 1 rfl rfl TI40 rfl (by decide) (ltn rfl)) rfl ?_
      refine VL.va (op_len_own (m := l201831.length) 0 lenm Try.underlying40 rfl rfl (ltn rfl)) rfl ?_
      refine VL.va (op_ari64 rfl rfl rfl (ltn rfl)) rfl ?_
      refine VL.va (op_assign rfl (ltn rfl)) rfl ?_
      refine VL.done ?_
      refine VN.then ?_
      refine VC.seq ?_
      refine VC.region ?_
      refine VL.va (op_move rfl (ltn rfl)) rfl ?_
      refine VL.va (op_nilCheck rfl (ltn rfl)) rfl ?_
      refine VL.va (op_load 0 1 rfl rfl TI40 rfl (by decide) (ltn rfl)) rfl ?_
      refine VL.va (op_move rfl (ltn rfl)) rfl ?_
      by_cases c201840 : 0 ≤ wrap64 ((l201831.length : Int) - 1)
      · rw [if_pos c201840] at h
        replace h := Option.bind_eq_some_iff.1 h
        obtain ⟨x201841, hx201841, h⟩ := h
        refine VL.openR (m := l201831.length) 0 lenm rfl (pos_get hx201841) ?_
        rintro g201842 n201843 rfl
        refine VL.va (op_indexAddr Try.underlying40 TI24 rfl rfl c201840 (lt_get c201840 hx201841) (add_zero_at _ _) (ltn rfl)) rfl ?_
        refine VL.va (op_load_own (sz := 3) (o := 0) 0 (wrap64 ((l201831.length : Int) - 1)).toNat 3 rfl rfl (get_map hx201841) TI24 rfl (fun h => absurd h (by decide)) (ltn rfl)) rfl ?_
        refine VL.sG (o_alloc Z24 ZL24 (ltn rfl)) rfl ?_
        intro g201844
        refine VL.step1 (o_store 0 3 rfl rfl rfl TI24 (.agg (.of rfl)) rfl (len rfl)) rfl ?_
        refine VL.done ?_
        refine VN.then ?_
        refine VC.seq ?_
        refine VC.region ?_
        refine VL.va (op_move rfl (ltn rfl)) rfl ?_
        refine VL.va (op_move rfl (ltn rfl)) rfl ?_
        refine VL.va (op_nilCheck rfl (ltn rfl)) rfl ?_
        refine VL.va (op_load 1 1 rfl rfl TI40 rfl (by decide) (ltn rfl)) rfl ?_
        refine VL.va (op_move rfl (ltn rfl)) rfl ?_
        by_cases c201845 : (wrap64 ((l201831.length : Int) - 1)) ≤ (l201831.length : Int)
        · rw [if_pos c201845] at h
          refine VL.sG (o_cutOwn (m := l201831.length) (h := ((wrap64 ((l201831.length : Int) - 1)).toNat)) (es3 := List.map enc23 (l201831.take ((wrap64 ((l201831.length : Int) - 1)).toNat))) 0 lenm (List.map_take.symm) Try.underlying40 TI24 rfl rfl ⟨rfl, ⟨_, _, rfl, c201840, rfl⟩, by omega, by omega⟩ (ltn rfl)) rfl ?_
          intro v201847
          refine VL.va (op_nilCheck rfl (ltn rfl)) rfl ?_
          refine VL.step1 (o_store 1 1 rfl rfl rfl TI40 (.r 0 rfl) rfl (len rfl)) rfl ?_
          refine VL.done ?_
          refine VN.then ?_
          refine VC.seq ?_
          refine VC.region ?_
          refine VL.va (op_load 0 3 rfl rfl TI24 rfl (fun h => absurd h (by decide)) (ltn rfl)) rfl ?_
          refine VL.va (op_makeIface Try.underlying24 (fun _ h => by cases h) rfl (ltn rfl)) rfl ?_
          refine VL.va (op_assign rfl (ltn rfl)) rfl ?_
          refine VL.done ?_
          refine VN.then ?_
          refine VC.ret ?_
          refine VR.inl (rs := [.tmp 2]) (.iface 24 (.agg #[.int .i64 x201841.f0, .int .i64 x201841.f1, .int .i64 x201841.f2])) rfl (.tmp rfl .nil) rfl ?_
          refine VL.va (op_assign rfl (ltn rfl)) rfl ?_
          refine VL.done ?_
          refine VN.then ?_
          refine VC.ret ?_
          refine VR.inl (rs := [.tmp 2]) (.iface 24 (.agg #[.int .i64 x201841.f0, .int .i64 x201841.f1, .int .i64 x201841.f2])) rfl (.tmp rfl .nil) rfl ?_
          refine VL.va (op_assertOk Try.underlying24 (fun _ h => by cases h) rfl (ltn rfl)) rfl ?_
          refine VL.va (op_move rfl (ltn rfl)) rfl ?_
          refine VL.va (op_extract rfl rfl (ltn rfl)) rfl ?_
          refine VL.va (op_extract rfl rfl (ltn rfl)) rfl ?_
          refine VL.sG (o_alloc Z24 ZL24 (ltn rfl)) rfl ?_
          intro g201848
          refine VL.step1 (o_store 0 3 rfl rfl rfl TI24 (.agg (.of rfl)) rfl (len rfl)) rfl ?_
          refine VL.va (op_assign rfl (ltn rfl)) rfl ?_
          refine VL.done ?_
          refine VN.then ?_
          refine VC.region ?_
          refine VL.va (op_move rfl (ltn rfl)) rfl ?_
          refine VL.va (op_load 0 3 rfl rfl TI24 rfl (fun h => absurd h (by decide)) (ltn rfl)) rfl ?_
          refine VL.sG (o_buildSlice (vals := [(0, .agg #[.int .i64 x201841.f0, .int .i64 x201841.f1, .int .i64 x201841.f2])]) (cells := #[.int .i64 x201841.f0, .int .i64 x201841.f1, .int .i64 x201841.f2]) (es := List.map enc23 ([x201841] : List S23)) Try.underlying22 TI24 Z24 rfl (by decide) (by decide) (by kernel_rfl) (by kernel_rfl) rfl (flat_map enc23_ok _) (ltn rfl)) rfl ?_
          intro v201850
          by_cases c201851 : (l174095.length + ([x201841] : List S23).length) * 24 ≤ 140737488355328
          · rw [if_pos c201851] at h
            refine VL.sG (o_append 2 appm Try.underlying22 EI24 rfl rfl rfl (.inr ⟨0, _, rfl⟩) (bndm c201851) (ltn rfl)) rfl ?_
            intro v201852
            refine VL.va (op_assign rfl (ltn rfl)) rfl ?_
            refine VL.done ?_
            refine VN.block ?_
            refine VN.again [2] [2, 1] (ihl41 v201852 (l174095 ++ ([x201841] : List S23)) v201847 (l201831.take ((wrap64 ((l201831.length : Int) - 1)).toNat)) h) ⟨rfl, ⟨rfl, rfl, rfl, rfl, trivial⟩, trivial, rfl, by decide, rfl, by decide⟩
          · rw [if_neg c201851] at h; cases h
        · rw [if_neg c201845] at h; cases h
      · rw [if_neg c201840] at h; cases h
    · rw [if_neg c187982] at h
      obtain rfl : b187981 = false := hb187981.symm.trans (decide_eq_false c187982)
      refine VC.cond_f rfl ?_
      refine VC.exit ?_
      refine VX.then ?_
      refine VX.then ?_
      refine VX.hit ?_
      refine VN.then ?_
      refine VC.seq ?_
      refine VC.region ?_
      refine VL.va (op_move rfl (ltn rfl)) rfl ?_
      refine VL.va (op_assign rfl (ltn rfl)) rfl ?_
      refine VL.va (op_assign rfl (ltn rfl)) rfl ?_
      refine VL.done ?_
      refine VN.then ?_
      refine VC.ret ?_
      simp only [Option.some.injEq, Prod.mk.injEq] at h
      obtain ⟨rfl, rfl⟩ := h
      exact VR.fn (rs := [.tmp 2, .tmp 3]) [] [(v174094, 24, 3, l174095.map enc23)] [0] rfl (.tmp rfl (.tmp rfl .nil)) ⟨v174094, rfl, rfl, rfl⟩ trivial rfl (by decide)
  · rw [if_neg c111466] at h
    obtain rfl : b111465 = true := hb111465.symm.trans (bne_iff_ne.2 c111466)
    refine VC.cond_t rfl ?_
    refine VC.seq ?_
    refine VC.region ?_
    refine VL.va (op_move rfl (ltn rfl)) rfl ?_
    refine VL.va (op_assign rfl (ltn rfl)) rfl ?_
    refine VL.va (op_assign rfl (ltn rfl)) rfl ?_
    refine VL.done ?_
    refine VN.then ?_
    refine VC.ret ?_
    refine VR.then ?_
    simp only [Option.some.injEq, Prod.mk.injEq] at h
    obtain ⟨rfl, rfl⟩ := h
    refine VR.nilRow' 24 3 ?_
    exact VR.fn (rs := [.tmp 2, .tmp 3]) [] [((.slice none 0 0), 24, 3, ([] : List S23).map enc23)] [0] rfl (.tmp rfl (.tmp rfl .nil)) ⟨(.slice none 0 0), rfl, rfl, rfl⟩ trivial rfl (by decide)

end Go.Proofs.Ythgoagnennjagaa.PQueueOrders
