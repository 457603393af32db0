/- Written by a program of this repo: what the program's functions do, each as a Lean function, shown of the loaded code; or a statement's row over that; no condition of its own. -/
import Derived.Test.YthgoagnennjagaaPQueueTopx1
namespace Go.Proofs.Ythgoagnennjagaa.PQueueTop
open Go Go.RowKit Go.Proofs.YthgoagnennjagaaV
set_option linter.unusedVariables false
set_option linter.unusedSimpArgs false

set_option maxHeartbeats 4000000 in
set_option maxRecDepth 100000 in
theorem queue_Push.ok (k : Nat) (l0 : List S23) (a1_0 : Int) (a1_1 : Int) (a1_2 : Int) (v0 : Value) (r1 : List S23) (r2 : Int) (h : queue_Push.f k l0 a1_0 a1_1 a1_2 = some (r1, r2)) :
    VCalls Try.prog 18 [v0, .agg #[.int .i64 a1_0, .int .i64 a1_1, .int .i64 a1_2]] [.row v0 3 (l0.map enc23)] (fun v G own => ∃ w0 : Value, v = .tuple #[w0, .int .i64 r2] ∧ G = [] ∧ own = [(w0, 24, 3, r1.map enc23)]) := by
  refine VCalls.intro Try.func18 rfl (len rfl) fun E hC => ?_
  unfold queue_Push.f at h
  refine VC.seq ?_
  refine VC.region ?_
  refine VL.sG (o_box rfl (.agg (.of rfl)) (ltn rfl)) rfl ?_
  intro g8
  refine VL.va (op_assign rfl (ltn rfl)) rfl ?_
  refine VL.va (op_assign rfl (ltn rfl)) rfl ?_
  refine VL.done ?_
  refine VN.then ?_
  refine VC.seq ?_
  refine VC.block ?_
  refine VC.seq ?_
  refine VC.region ?_
  refine VL.va (op_move rfl (ltn rfl)) rfl ?_
  replace h := Option.bind_eq_some_iff.1 h
  obtain ⟨t420, hA421, h⟩ := h
  refine VL.sC (o_call0 FO12 (queue_Right.ok k l0 v0 t420 hA421) rfl rfl (ltn rfl) (All_of (.cons (List.mem_of_getElem? (i := 0) rfl) .nil))) rfl ?_
  rintro _ _ _ ⟨rfl, rfl, rfl⟩
  by_cases c422 : t420 = true
  · rw [if_pos c422] at h
    obtain rfl := c422
    refine VL.va (op_not rfl rfl (ltn rfl)) rfl ?_
    refine VL.va (op_move rfl (ltn rfl)) rfl ?_
    refine VL.va (op_load 0 3 rfl rfl TI24 rfl (fun h => absurd h (by decide)) (ltn rfl)) rfl ?_
    replace h := Option.bind_eq_some_iff.1 h
    obtain ⟨t423, hA424, h⟩ := h
    refine VL.sC (o_call0 FO27 (queue_may.ok a1_0 a1_1 a1_2 t423 hA424) rfl rfl (ltn rfl) (All_of .nil)) rfl ?_
    rintro _ _ _ ⟨rfl, rfl, rfl⟩
    by_cases c425 : t423 = true
    · rw [if_pos c425] at h
      obtain rfl := c425
      refine VL.va (op_not rfl rfl (ltn rfl)) rfl ?_
      refine VL.va (op_pick rfl rfl (ltn rfl)) rfl ?_
      refine VL.va (op_assign rfl (ltn rfl)) rfl ?_
      refine VL.done ?_
      refine VN.then ?_
      refine VC.cond_f rfl ?_
      refine VC.seq ?_
      refine VC.region ?_
      refine VL.va (op_move rfl (ltn rfl)) rfl ?_
      refine VL.va (op_len (m := l0.length) 0 lenm Try.underlying22 rfl rfl (ltn rfl)) rfl ?_
      refine VL.letter (((l0.length : Int) == 64)) fun b426 hb426 => ?_
      refine VL.va (op_cmp rfl rfl (congrArg some hb426) (ltn rfl)) rfl ?_
      refine VL.va (op_assign rfl (ltn rfl)) rfl ?_
      refine VL.done ?_
      refine VN.then ?_
      by_cases c427 : (l0.length : Int) = 64
      · rw [if_pos c427] at h
        obtain rfl : b426 = true := hb426.symm.trans (beq_iff_eq.2 c427)
        refine VC.cond_t rfl ?_
        refine VC.seq ?_
        refine VC.region ?_
        refine VL.va (op_assign rfl (ltn rfl)) rfl ?_
        refine VL.va (op_assign rfl (ltn rfl)) rfl ?_
        refine VL.done ?_
        refine VN.then ?_
        refine VC.ret ?_
        refine VR.block ?_
        refine VR.then ?_
        simp only [Option.some.injEq, Prod.mk.injEq] at h
        obtain ⟨rfl, rfl⟩ := h
        refine VR.nilRow' 24 3 ?_
        exact VR.fn (rs := [.tmp 4, .tmp 5]) [] [((.slice none 0 0), 24, 3, ([] : List S23).map enc23)] [0] rfl (.tmp rfl (.tmp rfl .nil)) ⟨(.slice none 0 0), rfl, rfl, rfl⟩ trivial rfl (by decide)
      · rw [if_neg c427] at h
        obtain rfl : b426 = false := hb426.symm.trans (beq_eq_false_iff_ne.2 c427)
        refine VC.cond_f rfl ?_
        refine VC.skip ?_
        refine VN.block ?_
        refine VN.then ?_
        refine VC.seq ?_
        refine VC.region ?_
        refine VL.va (op_move rfl (ltn rfl)) rfl ?_
        replace h := Option.bind_eq_some_iff.1 h
        obtain ⟨r429, hA430, h⟩ := h
        refine VL.sC (o_call_b0 FO22 (slices_Clone_api_Wait_api_Wait.ok l0 v0 r429 hA430) rfl rfl (ltn rfl) (All_of (.cons (.inl (List.mem_of_getElem? (i := 0) rfl)) .nil)) (by rintro _ _ _ ⟨_, rfl, rfl, rfl⟩; rfl)) rfl ?_
        rintro v432 _ _ ⟨_, rfl, rfl, rfl⟩
        refine VL.sG (o_alloc Z40 ZL40 (ltn rfl)) rfl ?_
        intro g433
        refine VL.step1 (o_store 0 1 rfl rfl rfl TI40 (.r 0 rfl) rfl (len rfl)) rfl ?_
        refine VL.done ?_
        refine VN.then ?_
        refine VC.seq ?_
        refine VC.region ?_
        refine VL.va (op_makeIface Try.underlying42 (fun _ h => by cases h) rfl (ltn rfl)) rfl ?_
        refine VL.va (op_load 1 3 rfl rfl TI24 rfl (fun h => absurd h (by decide)) (ltn rfl)) rfl ?_
        refine VL.va (op_makeIface Try.underlying24 (fun _ h => by cases h) rfl (ltn rfl)) rfl ?_
        refine VL.inl (vals := [.iface 42 (.pointer (some ⟨g433, 0, none⟩)), .iface 24 (.agg #[.int .i64 a1_0, .int .i64 a1_1, .int .i64 a1_2])]) (caps := []) Try.func28 FO28 rfl rfl rfl (len rfl) (ltn rfl) rfl ?_
        refine VC.seq ?_
        refine VC.region ?_
        refine VL.va (op_move rfl (ltn rfl)) rfl ?_
        refine VL.va (op_move rfl (ltn rfl)) rfl ?_
        refine VL.inle (vals := [.pointer (some ⟨g433, 0, none⟩), .iface 24 (.agg #[.int .i64 a1_0, .int .i64 a1_1, .int .i64 a1_2])]) Try.func58 rfl (ope_meth_p MI42_Push Try.underlying42 FO58 rfl rfl) (len rfl) (by rintro d ⟨⟩; exact ltn rfl) rfl ?_
        refine VC.seq ?_
        refine VC.region ?_
        refine VL.va (op_move rfl (ltn rfl)) rfl ?_
        refine VL.va (op_assertOk Try.underlying24 (fun _ h => by cases h) rfl (ltn rfl)) rfl ?_
        refine VL.va (op_move rfl (ltn rfl)) rfl ?_
        refine VL.va (op_extract rfl rfl (ltn rfl)) rfl ?_
        refine VL.va (op_extract rfl rfl (ltn rfl)) rfl ?_
        refine VL.sG (o_alloc Z24 ZL24 (ltn rfl)) rfl ?_
        intro g881
        refine VL.step1 (o_store 0 3 rfl rfl rfl TI24 (.agg (.of rfl)) rfl (len rfl)) rfl ?_
        refine VL.va (op_assign rfl (ltn rfl)) rfl ?_
        refine VL.done ?_
        refine VN.then ?_
        refine VC.seq ?_
        refine VC.region ?_
        refine VL.va (op_move rfl (ltn rfl)) rfl ?_
        refine VL.done ?_
        refine VN.then ?_
        refine VC.cond_t rfl ?_
        by_cases c884 : (r429.length + ([(⟨a1_0, a1_1, a1_2⟩ : S23)] : List S23).length) * 24 ≤ 140737488355328
        · rw [if_pos c884] at h
          refine VC.stop1 (fun (v885 : Value) => ⟨20, [], [], [(g433, 40, [v885])], [(v885, 24, 3, (r429 ++ ([(⟨a1_0, a1_1, a1_2⟩ : S23)] : List S23)).map enc23)]⟩) (fun (v885 : Value) => True) ?_ ?_
          · refine VC.drawB ⟨0, [], [], [(g881, 24, [.int .i64 a1_0, .int .i64 a1_1, .int .i64 a1_2])], []⟩ [6, 8] ⟨0, [], [], [(g433, 40, [v432])], []⟩ (by kernel_rfl) rfl (by kernel_rfl) (n := 9) (listed := LB 9 0) ?_
            refine VB.va (i := 0) (listed' := LB 9 1) rfl (op_move rfl (ltn rfl)) rfl (by kernel_rfl) (by kernel_rfl) (by kernel_rfl) (by kernel_rfl) (by decide) (PartP.on ⟨trivial, ⟨⟨0, rfl⟩, trivial⟩, trivial⟩ ⟨trivial, ⟨⟨1, rfl⟩, trivial⟩, trivial⟩) (fun _ _ _ h => h) ?_
            refine VB.va (i := 1) (listed' := LB 9 3) rfl (op_move rfl (ltn rfl)) rfl (by kernel_rfl) (by kernel_rfl) (by kernel_rfl) (by kernel_rfl) (by decide) (PartP.on ⟨trivial, ⟨⟨0, rfl⟩, trivial⟩, trivial⟩ ⟨trivial, ⟨⟨1, rfl⟩, trivial⟩, trivial⟩) (fun _ _ _ h => h) ?_
            refine VB.va (i := 2) (listed' := LB 9 7) rfl (op_nilCheck rfl (ltn rfl)) rfl (by kernel_rfl) (by kernel_rfl) (by kernel_rfl) (by kernel_rfl) (by decide) (PartP.on ⟨trivial, ⟨⟨0, rfl⟩, trivial⟩, trivial⟩ ⟨trivial, ⟨⟨1, rfl⟩, trivial⟩, trivial⟩) (fun _ _ _ h => h) ?_
            refine VB.vb (i := 3) (listed' := LB 9 15) rfl (op_load 0 1 rfl rfl TI40 rfl (by decide) (ltn rfl)) rfl (by kernel_rfl) (by kernel_rfl) (by kernel_rfl) (by kernel_rfl) (by kernel_rfl) (by kernel_rfl) (PartP.on ⟨trivial, ⟨⟨0, rfl⟩, trivial⟩, trivial⟩ ⟨trivial, ⟨⟨1, rfl⟩, trivial⟩, trivial⟩) (fun _ _ _ h => h) ?_
            refine VB.va (i := 4) (listed' := LB 9 31) rfl (op_load 0 3 rfl rfl TI24 rfl (fun h => absurd h (by decide)) (ltn rfl)) rfl (by kernel_rfl) (by kernel_rfl) (by kernel_rfl) (by kernel_rfl) (by decide) (PartP.on ⟨trivial, ⟨⟨0, rfl⟩, trivial⟩, trivial⟩ ⟨trivial, ⟨⟨1, rfl⟩, trivial⟩, trivial⟩) (fun _ _ _ h => h) ?_
            refine VB.oneG (i := 5) (listed' := LB 9 63) (by kernel_rfl) rfl (o_buildSlice (vals := [(0, .agg #[.int .i64 a1_0, .int .i64 a1_1, .int .i64 a1_2])]) (cells := #[.int .i64 a1_0, .int .i64 a1_1, .int .i64 a1_2]) (es := List.map enc23 ([(⟨a1_0, a1_1, a1_2⟩ : S23)] : List S23)) Try.underlying40 TI24 Z24 rfl (by decide) (by decide) (by kernel_rfl) (by kernel_rfl) rfl (flat_map enc23_ok _) (ltn rfl)) rfl (by kernel_rfl) (fun _ => (PartP.on ⟨trivial, ⟨⟨0, rfl⟩, trivial⟩, trivial⟩ ⟨trivial, ⟨⟨1, rfl⟩, trivial⟩, trivial⟩)) ?_
            intro v883
            refine VB.oneG (i := 6) (listed' := LB 9 127) (by kernel_rfl) rfl (o_append 1 appm Try.underlying40 EI24 rfl rfl rfl (.inr ⟨0, _, rfl⟩) (bndm c884) (ltn rfl)) rfl (by kernel_rfl) (fun _ => (PartP.off (by kernel_rfl) ⟨trivial, ⟨⟨0, rfl⟩, trivial⟩, trivial⟩)) ?_
            intro v885
            refine VB.va (i := 7) (listed' := LB 9 255) rfl (op_nilCheck rfl (ltn rfl)) rfl (by kernel_rfl) (by kernel_rfl) (by kernel_rfl) (by kernel_rfl) (by decide) (PartP.off (by kernel_rfl) ⟨trivial, ⟨⟨0, rfl⟩, trivial⟩, trivial⟩) (fun _ _ _ h => h) ?_
            refine VB.one1 (i := 8) (listed' := LB 9 511) (by kernel_rfl) rfl (o_store 1 1 rfl rfl rfl TI40 (.r 1 rfl) rfl (len rfl)) rfl (by kernel_rfl) (PartP.off (by kernel_rfl) ⟨trivial, ⟨⟨0, rfl⟩, trivial⟩, trivial⟩) ?_
            refine VB.done (by kernel_rfl) ?_
            exact VN.meet1 v885 [1] [1] trivial ⟨rfl, trivial, trivial, rfl, by decide, rfl, by decide⟩
          intro v885 _
          refine VN.inl (rs := []) (.tuple #[]) rfl .nil rfl ?_
          refine VL.done ?_
          refine VN.then ?_
          refine VC.region ?_
          refine VL.va (op_move rfl (ltn rfl)) rfl ?_
          refine VL.va (op_move rfl (ltn rfl)) rfl ?_
          refine VL.inle (vals := [v885]) Try.func54 rfl (ope_meth_v 0 1 MI42_Len Try.underlying42 FO54 rfl rfl TI40 rfl (by decide) rfl rfl) (len rfl) (by rintro d ⟨⟩; exact ltn rfl) rfl ?_
          refine VC.seq ?_
          refine VC.region ?_
          refine VL.va (op_assign rfl (ltn rfl)) rfl ?_
          refine VL.done ?_
          refine VN.then ?_
          refine VC.seq ?_
          refine VC.region ?_
          refine VL.va (op_move rfl (ltn rfl)) rfl ?_
          refine VL.va (op_len_own (m := (r429 ++ ([(⟨a1_0, a1_1, a1_2⟩ : S23)] : List S23)).length) 0 lenm Try.underlying40 rfl rfl (ltn rfl)) rfl ?_
          refine VL.va (op_assign rfl (ltn rfl)) rfl ?_
          refine VL.done ?_
          refine VN.then ?_
          refine VC.ret ?_
          refine VR.inl (rs := [.tmp 2]) (.int .i64 ((r429 ++ ([(⟨a1_0, a1_1, a1_2⟩ : S23)] : List S23)).length : Int)) rfl (.tmp rfl .nil) rfl ?_
          refine VL.va (op_ari64 rfl rfl rfl (ltn rfl)) rfl ?_
          refine VL.inl (vals := [.iface 42 (.pointer (some ⟨g433, 0, none⟩)), .int .i64 (wrap64 (((r429 ++ ([(⟨a1_0, a1_1, a1_2⟩ : S23)] : List S23)).length : Int) - 1))]) (caps := []) Try.func35 FO35 rfl rfl rfl (len rfl) (ltn rfl) rfl ?_
          refine VC.block ?_
          refine VC.loop3 (fun (i932 : Int) (v934 : Value) (l935 : List S23) => ⟨23, [(0, .iface 42 (.pointer (some ⟨g433, 0, none⟩))), (1, .int .i64 i932)], [], [(g433, 40, [v934])], [(v934, 24, 3, l935.map enc23)]⟩) (fun (ml3 : Nat) (i932 : Int) (v934 : Value) (l935 : List S23) => queue_Push.l3 k ml3 i932 l935 = some (r1, r2)) k (wrap64 (((r429 ++ ([(⟨a1_0, a1_1, a1_2⟩ : S23)] : List S23)).length : Int) - 1)) v885 (r429 ++ ([(⟨a1_0, a1_1, a1_2⟩ : S23)] : List S23)) [0] [0] h ⟨rfl, ⟨rfl, rfl, trivial⟩, trivial, rfl, by decide, rfl, by decide⟩ (by intros; simp [queue_Push.l3]) ?_
          clear h
          intro ml3 ihl3 i932 v934 l935 h
          simp only [queue_Push.l3] at h
          refine VC.block ?_
          refine VC.seq ?_
          refine VC.region ?_
          refine VL.va (op_move rfl (ltn rfl)) rfl ?_
          refine VL.va (op_ari64 rfl rfl rfl (ltn rfl)) rfl ?_
          refine VL.va (op_quo rfl rfl (by decide) rfl (ltn rfl)) rfl ?_
          refine VL.va (op_assign rfl (ltn rfl)) rfl ?_
          refine VL.done ?_
          refine VN.then ?_
          refine VC.seq ?_
          refine VC.seq ?_
          refine VC.region ?_
          refine VL.va (op_move rfl (ltn rfl)) rfl ?_
          refine VL.va (op_move rfl (ltn rfl)) rfl ?_
          refine VL.letter (((IntKind.i64.wrap ((wrap64 (i932 - 1)).tdiv 2)) == i932)) fun b1011 hb1011 => ?_
          refine VL.va (op_cmp rfl rfl (congrArg some hb1011) (ltn rfl)) rfl ?_
          refine VL.va (op_move rfl (ltn rfl)) rfl ?_
          by_cases c1012 : (IntKind.i64.wrap ((wrap64 (i932 - 1)).tdiv 2)) = i932
          · rw [if_pos c1012] at h
            obtain rfl : b1011 = true := hb1011.symm.trans (beq_iff_eq.2 c1012)
            refine VL.un rfl rfl (ltn rfl) ?_
            refine VL.un rfl rfl (ltn rfl) ?_
            refine VL.un rfl rfl (ltn rfl) ?_
            refine VL.un rfl rfl (ltn rfl) ?_
            refine VL.un rfl rfl (ltn rfl) ?_
            refine VL.va (op_pick rfl rfl (ltn rfl)) rfl ?_
            refine VL.done ?_
            refine VN.then ?_
            refine VC.cond_t rfl ?_
            refine VC.exit ?_
            refine VX.then ?_
            refine VX.miss (by decide) ?_
            refine VX.then ?_
            refine VX.hit ?_
            refine VN.inl (rs := []) (.tuple #[]) rfl .nil rfl ?_
            refine VL.done ?_
            refine VN.inl (rs := []) (.tuple #[]) rfl .nil rfl ?_
            refine VL.done ?_
            refine VN.then ?_
            refine VC.seq ?_
            refine VC.region ?_
            refine VL.va (op_load 0 1 rfl rfl TI40 rfl (by decide) (ltn rfl)) rfl ?_
            refine VL.va (op_assign rfl (ltn rfl)) rfl ?_
            refine VL.va (op_assign rfl (ltn rfl)) rfl ?_
            refine VL.done ?_
            refine VN.then ?_
            refine VC.ret ?_
            simp only [Option.some.injEq, Prod.mk.injEq] at h
            obtain ⟨rfl, rfl⟩ := h
            exact VR.fn (rs := [.tmp 4, .tmp 5]) [] [(v934, 24, 3, l935.map enc23)] [0] rfl (.tmp rfl (.tmp rfl .nil)) ⟨v934, rfl, rfl, rfl⟩ trivial rfl (by decide)
          · rw [if_neg c1012] at h
            obtain rfl : b1011 = false := hb1011.symm.trans (beq_eq_false_iff_ne.2 c1012)
            refine VL.va (op_move rfl (ltn rfl)) rfl ?_
            refine VL.va (op_move rfl (ltn rfl)) rfl ?_
            refine VL.va (op_move rfl (ltn rfl)) rfl ?_
            refine VL.inle (vals := [v934, .int .i64 i932, .int .i64 (IntKind.i64.wrap ((wrap64 (i932 - 1)).tdiv 2))]) Try.func55 rfl (ope_meth_v 0 1 MI42_Less Try.underlying42 FO55 rfl rfl TI40 rfl (by decide) rfl rfl) (len rfl) (by rintro d ⟨⟩; exact ltn rfl) rfl ?_
            refine VC.seq ?_
            refine VC.region ?_
            refine VL.va (op_assign rfl (ltn rfl)) rfl ?_
            refine VL.done ?_
            refine VN.then ?_
            by_cases c1013 : 0 ≤ i932
            · rw [if_pos c1013] at h
              replace h := Option.bind_eq_some_iff.1 h
              obtain ⟨x1014, hx1014, h⟩ := h
              by_cases c1015 : 0 ≤ IntKind.i64.wrap ((wrap64 (i932 - 1)).tdiv 2)
              · rw [if_pos c1015] at h
                replace h := Option.bind_eq_some_iff.1 h
                obtain ⟨x1016, hx1016, h⟩ := h
                replace h := Option.bind_eq_some_iff.1 h
                obtain ⟨t1017, hA1018, h⟩ := h
                refine VC.letter (decide (t1017 < 0)) fun b1019 hb1019 => ?_
                refine VC.openR (m := l935.length) 0 lenm rfl (pos_get hx1014) ?_
                rintro g940 n941 rfl
                refine VC.join0 (⟨17, [(6, .bool b1019)], [], [(g433, 40, [(.slice (some ⟨g940, 0, none⟩) l935.length n941)])], [((.slice (some ⟨g940, 0, none⟩) l935.length n941), 24, 3, l935.map enc23)]⟩) (True) ?_ ?_
                · refine VC.draw ⟨0, [], [], [], [((.slice (some ⟨g940, 0, none⟩) l935.length n941), 24, 3, l935.map enc23)]⟩ (by kernel_rfl) rfl (by kernel_rfl) (n := 11) (listed := LB 11 0) ?_
                  refine VA.va (i := 0) (listed' := LB 11 1) rfl (op_move rfl (ltn rfl)) rfl (by kernel_rfl) (by kernel_rfl) (by kernel_rfl) (by kernel_rfl) ⟨trivial, trivial, ⟨⟨0, rfl⟩, trivial⟩⟩ (fun _ _ _ h => h) ?_
                  refine VA.va (i := 1) (listed' := LB 11 3) rfl (op_move rfl (ltn rfl)) rfl (by kernel_rfl) (by kernel_rfl) (by kernel_rfl) (by kernel_rfl) ⟨trivial, trivial, ⟨⟨0, rfl⟩, trivial⟩⟩ (fun _ _ _ h => h) ?_
                  refine VA.va (i := 2) (listed' := LB 11 7) rfl (op_indexAddr Try.underlying40 TI24 rfl rfl c1013 (lt_get c1013 hx1014) (add_zero_at _ _) (ltn rfl)) rfl (by kernel_rfl) (by kernel_rfl) (by kernel_rfl) (by kernel_rfl) ⟨trivial, trivial, ⟨⟨0, rfl⟩, trivial⟩⟩ (fun _ _ _ h => h) ?_
                  refine VA.va (i := 3) (listed' := LB 11 15) rfl (op_load_own (sz := 3) (o := 0) 0 i932.toNat 3 rfl rfl (get_map hx1014) TI24 rfl (fun h => absurd h (by decide)) (ltn rfl)) rfl (by kernel_rfl) (by kernel_rfl) (by kernel_rfl) (by kernel_rfl) ⟨trivial, trivial, ⟨⟨0, rfl⟩, trivial⟩⟩ (fun _ _ _ h => h) ?_
                  refine VA.va (i := 4) (listed' := LB 11 31) rfl (op_move rfl (ltn rfl)) rfl (by kernel_rfl) (by kernel_rfl) (by kernel_rfl) (by kernel_rfl) ⟨trivial, trivial, ⟨⟨0, rfl⟩, trivial⟩⟩ (fun _ _ _ h => h) ?_
                  refine VA.va (i := 5) (listed' := LB 11 63) rfl (op_move rfl (ltn rfl)) rfl (by kernel_rfl) (by kernel_rfl) (by kernel_rfl) (by kernel_rfl) ⟨trivial, trivial, ⟨⟨0, rfl⟩, trivial⟩⟩ (fun _ _ _ h => h) ?_
                  refine VA.va (i := 6) (listed' := LB 11 127) rfl (op_indexAddr Try.underlying40 TI24 rfl rfl c1015 (lt_get c1015 hx1016) (add_zero_at _ _) (ltn rfl)) rfl (by kernel_rfl) (by kernel_rfl) (by kernel_rfl) (by kernel_rfl) ⟨trivial, trivial, ⟨⟨0, rfl⟩, trivial⟩⟩ (fun _ _ _ h => h) ?_
                  refine VA.va (i := 7) (listed' := LB 11 255) rfl (op_load_own (sz := 3) (o := 0) 0 (IntKind.i64.wrap ((wrap64 (i932 - 1)).tdiv 2)).toNat 3 rfl rfl (get_map hx1016) TI24 rfl (fun h => absurd h (by decide)) (ltn rfl)) rfl (by kernel_rfl) (by kernel_rfl) (by kernel_rfl) (by kernel_rfl) ⟨trivial, trivial, ⟨⟨0, rfl⟩, trivial⟩⟩ (fun _ _ _ h => h) ?_
                  refine VA.oneC (i := 8) (listed' := LB 11 511) (by kernel_rfl) rfl (o_call0 FO26 (queue_compare.ok k x1014.f0 x1014.f1 x1014.f2 x1016.f0 x1016.f1 x1016.f2 t1017 hA1018) rfl rfl (ltn rfl) (All_of .nil)) rfl (by kernel_rfl) ?_
                  rintro _ _ _ ⟨rfl, rfl, rfl⟩
                  refine ⟨⟨trivial, trivial, ⟨⟨0, rfl⟩, trivial⟩⟩, ?_⟩
                  refine VA.va (i := 9) (listed' := LB 11 1023) rfl (op_cmp rfl rfl (congrArg some hb1019) (ltn rfl)) rfl (by kernel_rfl) (by kernel_rfl) (by kernel_rfl) (by kernel_rfl) ⟨trivial, trivial, ⟨⟨0, rfl⟩, trivial⟩⟩ (fun _ _ _ h => h) ?_
                  refine VA.va (i := 10) (listed' := LB 11 2047) rfl (op_assign rfl (ltn rfl)) rfl (by kernel_rfl) (by kernel_rfl) (by kernel_rfl) (by kernel_rfl) ⟨trivial, trivial, ⟨⟨0, rfl⟩, trivial⟩⟩ (fun _ _ _ h => h) ?_
                  refine VA.done (by kernel_rfl) ?_
                  exact VN.meet0  [0] [0] trivial ⟨rfl, ⟨rfl, trivial⟩, trivial, rfl, by decide, rfl, by decide⟩
                intro _
                refine VC.ret ?_
                refine VR.inl (rs := [.tmp 6]) (.bool b1019) rfl (.tmp rfl .nil) rfl ?_
                by_cases c1020 : t1017 < 0
                · rw [if_pos c1020] at h
                  obtain rfl : b1019 = true := hb1019.symm.trans (decide_eq_true c1020)
                  refine VL.va (op_not rfl rfl (ltn rfl)) rfl ?_
                  refine VL.va (op_pick rfl rfl (ltn rfl)) rfl ?_
                  refine VL.done ?_
                  refine VN.then ?_
                  refine VC.cond_f rfl ?_
                  refine VC.skip ?_
                  refine VN.then ?_
                  refine VC.seq ?_
                  refine VC.region ?_
                  refine VL.va (op_move rfl (ltn rfl)) rfl ?_
                  refine VL.va (op_move rfl (ltn rfl)) rfl ?_
                  refine VL.va (op_move rfl (ltn rfl)) rfl ?_
                  replace h := Option.bind_eq_some_iff.1 h
                  obtain ⟨r1021, hA1022, h⟩ := h
                  refine VL.step1 (ope_ownd (vals := [(.slice (some ⟨g940, 0, none⟩) l935.length n941), .int .i64 (IntKind.i64.wrap ((wrap64 (i932 - 1)).tdiv 2)), .int .i64 i932]) 0 rfl (ope_meth_v 0 1 MI42_Swap Try.underlying42 FO56 rfl rfl TI40 rfl (by decide) rfl rfl) (queue_waits_Swap.ok l935 (IntKind.i64.wrap ((wrap64 (i932 - 1)).tdiv 2)) i932 (.slice (some ⟨g940, 0, none⟩) l935.length n941) r1021 hA1022) (by simp) (ltn rfl)) rfl ?_
                  refine VL.done ?_
                  refine VN.then ?_
                  refine VC.region ?_
                  refine VL.va (op_move rfl (ltn rfl)) rfl ?_
                  refine VL.va (op_assign rfl (ltn rfl)) rfl ?_
                  refine VL.done ?_
                  refine VN.block ?_
                  refine VN.again [0] [0] (ihl3 (IntKind.i64.wrap ((wrap64 (i932 - 1)).tdiv 2)) (.slice (some ⟨g940, 0, none⟩) l935.length n941) r1021 h) ⟨rfl, ⟨rfl, rfl, trivial⟩, trivial, rfl, by decide, rfl, by decide⟩
                · rw [if_neg c1020] at h
                  obtain rfl : b1019 = false := hb1019.symm.trans (decide_eq_false c1020)
                  refine VL.va (op_not rfl rfl (ltn rfl)) rfl ?_
                  refine VL.va (op_pick rfl rfl (ltn rfl)) rfl ?_
                  refine VL.done ?_
                  refine VN.then ?_
                  refine VC.cond_t rfl ?_
                  refine VC.exit ?_
                  refine VX.then ?_
                  refine VX.miss (by decide) ?_
                  refine VX.then ?_
                  refine VX.hit ?_
                  refine VN.inl (rs := []) (.tuple #[]) rfl .nil rfl ?_
                  refine VL.done ?_
                  refine VN.inl (rs := []) (.tuple #[]) rfl .nil rfl ?_
                  refine VL.done ?_
                  refine VN.then ?_
                  refine VC.seq ?_
                  refine VC.region ?_
                  refine VL.va (op_load 0 1 rfl rfl TI40 rfl (by decide) (ltn rfl)) rfl ?_
                  refine VL.va (op_assign rfl (ltn rfl)) rfl ?_
                  refine VL.va (op_assign rfl (ltn rfl)) rfl ?_
                  refine VL.done ?_
                  refine VN.then ?_
                  refine VC.ret ?_
                  simp only [Option.some.injEq, Prod.mk.injEq] at h
                  obtain ⟨rfl, rfl⟩ := h
                  exact VR.fn (rs := [.tmp 4, .tmp 5]) [] [((.slice (some ⟨g940, 0, none⟩) l935.length n941), 24, 3, l935.map enc23)] [0] rfl (.tmp rfl (.tmp rfl .nil)) ⟨(.slice (some ⟨g940, 0, none⟩) l935.length n941), rfl, rfl, rfl⟩ trivial rfl (by decide)
              · rw [if_neg c1015] at h; cases h
            · rw [if_neg c1013] at h; cases h
        · rw [if_neg c884] at h; cases h
    · rw [if_neg c425] at h
      obtain rfl := Bool.eq_false_iff.2 c425
      refine VL.va (op_not rfl rfl (ltn rfl)) rfl ?_
      refine VL.va (op_pick rfl rfl (ltn rfl)) rfl ?_
      refine VL.va (op_assign rfl (ltn rfl)) rfl ?_
      refine VL.done ?_
      refine VN.then ?_
      refine VC.cond_t rfl ?_
      refine VC.seq ?_
      refine VC.region ?_
      refine VL.va (op_assign rfl (ltn rfl)) rfl ?_
      refine VL.va (op_assign rfl (ltn rfl)) rfl ?_
      refine VL.done ?_
      refine VN.then ?_
      refine VC.ret ?_
      refine VR.block ?_
      refine VR.then ?_
      simp only [Option.some.injEq, Prod.mk.injEq] at h
      obtain ⟨rfl, rfl⟩ := h
      refine VR.nilRow' 24 3 ?_
      exact VR.fn (rs := [.tmp 4, .tmp 5]) [] [((.slice none 0 0), 24, 3, ([] : List S23).map enc23)] [0] rfl (.tmp rfl (.tmp rfl .nil)) ⟨(.slice none 0 0), rfl, rfl, rfl⟩ trivial rfl (by decide)
  · rw [if_neg c422] at h
    obtain rfl := Bool.eq_false_iff.2 c422
    refine VL.va (op_not rfl rfl (ltn rfl)) rfl ?_
    refine VL.va (op_move rfl (ltn rfl)) rfl ?_
    refine VL.un rfl rfl (ltn rfl) ?_
    refine VL.un rfl rfl (ltn rfl) ?_
    refine VL.un rfl rfl (ltn rfl) ?_
    refine VL.va (op_pick rfl rfl (ltn rfl)) rfl ?_
    refine VL.va (op_assign rfl (ltn rfl)) rfl ?_
    refine VL.done ?_
    refine VN.then ?_
    refine VC.cond_t rfl ?_
    refine VC.seq ?_
    refine VC.region ?_
    refine VL.va (op_assign rfl (ltn rfl)) rfl ?_
    refine VL.va (op_assign rfl (ltn rfl)) rfl ?_
    refine VL.done ?_
    refine VN.then ?_
    refine VC.ret ?_
    refine VR.block ?_
    refine VR.then ?_
    simp only [Option.some.injEq, Prod.mk.injEq] at h
    obtain ⟨rfl, rfl⟩ := h
    refine VR.nilRow' 24 3 ?_
    exact VR.fn (rs := [.tmp 4, .tmp 5]) [] [((.slice none 0 0), 24, 3, ([] : List S23).map enc23)] [0] rfl (.tmp rfl (.tmp rfl .nil)) ⟨(.slice none 0 0), rfl, rfl, rfl⟩ trivial rfl (by decide)

end Go.Proofs.Ythgoagnennjagaa.PQueueTop
