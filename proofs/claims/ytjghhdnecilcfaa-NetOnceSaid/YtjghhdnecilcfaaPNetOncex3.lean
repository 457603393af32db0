/- Written by a program of this repo: what the program's functions do, each as a Lean function, shown of the loaded code; or a statement's row over that; no condition of its own. -/
import Derived.Test.YtjghhdnecilcfaaPNetOncex2
namespace Go.Proofs.Ytjghhdnecilcfaa.PNetOnce
open Go Go.RowKit Go.Proofs.YtjghhdnecilcfaaV
set_option linter.unusedVariables false
set_option linter.unusedSimpArgs false

set_option maxHeartbeats 4000000 in
set_option maxRecDepth 100000 in
theorem tarrylaw15_NetOnce.ok (k : Nat) (l0 : List S25) (l1 : List Int) (v0 : Value) (v1 : Value) (r1 : Bool) (h : tarrylaw15_NetOnce.f k l0 l1 = some r1) :
    VCalls Try.prog 4 [v0, v1] [.row v0 6 (l0.map enc25), .row v1 1 (l1.map enc_inti64)] (fun v G own => v = .bool r1 ∧ G = [] ∧ own = []) := by
  refine VCalls.intro Try.func4 rfl (len rfl) fun E hC hW hD hU => ?_
  unfold tarrylaw15_NetOnce.f at h
  refine VC.seq ?_
  refine VC.region ?_
  refine VL.va (op_assign rfl (ltn rfl)) rfl ?_
  refine VL.done ?_
  refine VN.then ?_
  refine VC.seq ?_
  refine VC.region ?_
  refine VL.sG (o_alloc Z24 ZL24 (ltn rfl)) rfl ?_
  intro g3
  refine VL.done ?_
  refine VN.then ?_
  refine VC.seq ?_
  refine VC.region ?_
  refine VL.va (op_assign rfl (ltn rfl)) rfl ?_
  refine VL.done ?_
  refine VN.then ?_
  refine VC.seq ?_
  refine VC.region ?_
  refine VL.newM (o_makeMap (K := Int) (V := Int) (ke := mI) (ve := mI) (ltn rfl)) rfl ?_
  intro g4 hbg4 hnewg4
  clear hnewg4
  refine VL.va (op_assign rfl (ltn rfl)) rfl ?_
  refine VL.done ?_
  refine VN.then ?_
  refine VC.join6 (fun (v36916 : Value) (l36917 : List S25) (v36919 : Value) (l36920 : List S25) (i36921 : Int) (mp36922 : List (Int × Int)) => ⟨199, [(1, v1), (4, .bool false), (5, .pointer (some ⟨g3, 0, none⟩)), (6, v36916), (7, .map (some g4))], [.row v36919 6 (l36920.map enc25), .mp g4 (menc mI mI mp36922), .row v1 1 (l1.map enc_inti64)], [(g3, 24, [v36919, .int .i64 i36921])], [(v36916, 26, 6, l36917.map enc25)]⟩) (fun (v36916 : Value) (l36917 : List S25) (v36919 : Value) (l36920 : List S25) (i36921 : Int) (mp36922 : List (Int × Int)) => tarrylaw15_NetOnce.j854 k l1 l36917 l36920 i36921 mp36922 = some r1) ?_ ?_
  · refine VC.seq ?_
    refine VC.region ?_
    refine VL.va (op_move rfl (ltn rfl)) rfl ?_
    refine VL.va (op_len (m := l0.length) 1 lenm Try.underlying22 rfl rfl (ltn rfl)) rfl ?_
    refine VL.va (op_move rfl (ltn rfl)) rfl ?_
    refine VL.done ?_
    refine VN.then ?_
    refine VC.block ?_
    refine VC.nilRow' 26 6 ?_
    refine VC.nilFact' 6 ?_
    refine VC.loop7 (fun (v36731 : Value) (l36732 : List S25) (i36734 : Int) (v36736 : Value) (l36737 : List S25) (i36739 : Int) (mp36740 : List (Int × Int)) => ⟨199, [(1, v1), (4, .bool false), (5, .pointer (some ⟨g3, 0, none⟩)), (6, v36731), (7, .map (some g4)), (30, v0), (31, .int .i64 (l0.length : Int)), (32, .int .i64 i36734)], [.row v36736 6 (l36737.map enc25), .mp g4 (menc mI mI mp36740), .row v1 1 (l1.map enc_inti64), .row v0 6 (l0.map enc25)], [(g3, 24, [v36736, .int .i64 i36739])], [(v36731, 26, 6, l36732.map enc25)]⟩) (fun (ml855 : Nat) (v36731 : Value) (l36732 : List S25) (i36734 : Int) (v36736 : Value) (l36737 : List S25) (i36739 : Int) (mp36740 : List (Int × Int)) => tarrylaw15_NetOnce.l855 k l0 l1 ml855 l36732 i36734 l36737 i36739 mp36740 = some r1) k (.slice none 0 0) ([] : List S25) 0 (.slice none 0 0) ([] : List S25) 0 ([] : List (Int × Int)) [0] [0] h ⟨rfl, ⟨rfl, rfl, rfl, rfl, rfl, rfl, rfl, rfl, trivial⟩, ⟨⟨0, rfl⟩, ⟨1, rfl⟩, ⟨3, rfl⟩, ⟨2, rfl⟩, trivial⟩, rfl, by decide, rfl, by decide⟩ (by intros; simp [tarrylaw15_NetOnce.l855]) ?_
    clear h
    intro ml855 ihl855 v36731 l36732 i36734 v36736 l36737 i36739 mp36740 h
    simp only [tarrylaw15_NetOnce.l855] at h
    refine VC.seq ?_
    refine VC.region ?_
    refine VL.letter (decide (i36734 < (l0.length : Int))) fun b36828 hb36828 => ?_
    refine VL.va (op_cmp rfl rfl (congrArg some hb36828) (ltn rfl)) rfl ?_
    refine VL.done ?_
    refine VN.then ?_
    refine VC.seq ?_
    by_cases c36830 : i36734 < (l0.length : Int)
    · rw [if_pos c36830] at h
      obtain rfl : b36828 = true := hb36828.symm.trans (decide_eq_true c36830)
      refine VC.cond_t rfl ?_
      refine VC.skip ?_
      refine VN.then ?_
      refine VC.seq ?_
      refine VC.block ?_
      refine VC.seq ?_
      refine VC.region ?_
      refine VL.va (op_move rfl (ltn rfl)) rfl ?_
      by_cases c36873 : 0 ≤ i36734
      · rw [if_pos c36873] at h
        replace h := Option.bind_eq_some_iff.1 h
        obtain ⟨x36874, hx36874, h⟩ := h
        refine VL.open (m := l0.length) 3 lenm rfl (pos_get hx36874) ?_
        rintro ad36875 n36876 rfl
        refine VL.va (op_indexAddr Try.underlying22 TI26 rfl rfl c36873 (lt_get c36873 hx36874) rfl (ltn rfl)) rfl ?_
        refine VL.va (op_load_row (sz := 6) (o := 0) 3 i36734.toNat 6 rfl rfl (get_map hx36874) TI26 rfl (fun h => absurd h (by decide)) (ltn rfl)) rfl ?_
        refine VL.sG (o_alloc Z26 ZL26 (ltn rfl)) rfl ?_
        intro g36877
        refine VL.va (op_assign rfl (ltn rfl)) rfl ?_
        refine VL.step1 (o_store 0 6 rfl rfl rfl TI26 (.agg (.of rfl)) rfl (len rfl)) rfl ?_
        refine VL.done ?_
        refine VN.then ?_
        refine VC.seq ?_
        refine VC.seq ?_
        refine VC.region ?_
        refine VL.va (op_move rfl (ltn rfl)) rfl ?_
        refine VL.letter (decide (i36734 ≥ 20)) fun b36880 hb36880 => ?_
        refine VL.va (op_cmp rfl rfl (congrArg some hb36880) (ltn rfl)) rfl ?_
        refine VL.done ?_
        refine VN.then ?_
        by_cases c36881 : i36734 ≥ 20
        · rw [if_pos c36881] at h
          obtain rfl : b36880 = true := hb36880.symm.trans (decide_eq_true c36881)
          refine VC.cond_t rfl ?_
          refine VC.exit ?_
          refine VX.then ?_
          refine VX.miss (by decide) ?_
          refine VX.then ?_
          refine VX.then ?_
          refine VX.hit ?_
          refine VN.meet6 v36731 l36732 v36736 l36737 i36739 mp36740 [1] [0] h ⟨rfl, ⟨rfl, rfl, rfl, rfl, rfl, trivial⟩, ⟨⟨0, rfl⟩, ⟨1, rfl⟩, ⟨2, rfl⟩, trivial⟩, rfl, by decide, rfl, by decide⟩
        · rw [if_neg c36881] at h
          obtain rfl : b36880 = false := hb36880.symm.trans (decide_eq_false c36881)
          refine VC.cond_f rfl ?_
          refine VC.skip ?_
          refine VN.then ?_
          refine VC.seq ?_
          refine VC.region ?_
          refine VL.va (op_load 1 2 rfl rfl TI24 rfl (fun h => absurd h (by decide)) (ltn rfl)) rfl ?_
          refine VL.va (op_load 0 6 rfl rfl TI26 rfl (fun h => absurd h (by decide)) (ltn rfl)) rfl ?_
          replace h := Option.bind_eq_some_iff.1 h
          obtain ⟨⟨r36882, t36883, t36884, t36885⟩, hA36886, h⟩ := h
          dsimp only at h
          refine VL.sC (o_call0 FO7 (net_Post.ok k l36737 i36739 x36874.f0 x36874.f1 x36874.f2 x36874.f3 x36874.f4 x36874.f5 v36736 r36882 t36883 t36884 t36885 hA36886) rfl rfl (ltn rfl) (All_of (.cons (List.mem_of_getElem? (i := 0) rfl) .nil))) rfl ?_
          rintro _ _ _ ⟨v36888, rfl, rfl, rfl⟩
          refine VL.va (op_move rfl (ltn rfl)) rfl ?_
          refine VL.va (op_extract rfl rfl (ltn rfl)) rfl ?_
          refine VL.va (op_extract rfl rfl (ltn rfl)) rfl ?_
          refine VL.va (op_extract rfl rfl (ltn rfl)) rfl ?_
          refine VL.sG (o_alloc Z24 ZL24 (ltn rfl)) rfl ?_
          intro g36889
          refine VL.step1 (o_store 0 2 rfl rfl rfl TI24 (.agg (.f 0 rfl (.c rfl .nil))) rfl (len rfl)) rfl ?_
          refine VL.va (op_assign rfl (ltn rfl)) rfl ?_
          refine VL.va (op_assign rfl (ltn rfl)) rfl ?_
          refine VL.done ?_
          refine VN.then ?_
          refine VC.seq ?_
          refine VC.seq ?_
          refine VC.region ?_
          refine VL.va (op_move rfl (ltn rfl)) rfl ?_
          refine VL.letter ((t36885 != 0)) fun b36898 hb36898 => ?_
          refine VL.va (op_cmp rfl rfl (congrArg some hb36898) (ltn rfl)) rfl ?_
          refine VL.done ?_
          refine VN.then ?_
          by_cases c36899 : t36885 = 0
          · rw [if_pos c36899] at h
            obtain rfl : b36898 = false := hb36898.symm.trans (bne_eq_false_iff_eq.2 c36899)
            refine VC.cond_f rfl ?_
            refine VC.skip ?_
            refine VN.then ?_
            refine VC.seq ?_
            refine VC.seq ?_
            refine VC.region ?_
            refine VL.va (op_move rfl (ltn rfl)) rfl ?_
            refine VL.va (op_move rfl (ltn rfl)) rfl ?_
            refine VL.va (op_len_own (m := l36732.length) 0 lenm Try.underlying22 rfl rfl (ltn rfl)) rfl ?_
            refine VL.va (op_ari64 rfl rfl rfl (ltn rfl)) rfl ?_
            refine VL.letter ((t36884 != (wrap64 ((l36732.length : Int) + 1)))) fun b36902 hb36902 => ?_
            refine VL.va (op_cmp rfl rfl (congrArg some hb36902) (ltn rfl)) rfl ?_
            refine VL.done ?_
            refine VN.then ?_
            by_cases c36903 : t36884 = (wrap64 ((l36732.length : Int) + 1))
            · rw [if_pos c36903] at h
              obtain rfl : b36902 = false := hb36902.symm.trans (bne_eq_false_iff_eq.2 c36903)
              refine VC.cond_f rfl ?_
              refine VC.skip ?_
              refine VN.then ?_
              refine VC.seq ?_
              refine VC.region ?_
              refine VL.va (op_move rfl (ltn rfl)) rfl ?_
              refine VL.va (op_fieldAddr FI26_0 rfl (add_at _ _ _) (ltn rfl)) rfl ?_
              refine VL.step1 (o_store 1 1 rfl rfl rfl TI3 (.c rfl) rfl (len rfl)) rfl ?_
              refine VL.done ?_
              refine VN.then ?_
              by_cases c36906 : (l36732.length + ([(⟨t36884, x36874.f1, x36874.f2, x36874.f3, x36874.f4, x36874.f5⟩ : S25)] : List S25).length) * 48 ≤ 140737488355328
              · rw [if_pos c36906] at h
                refine VC.join2 (fun (v36907 : Value) (v36905 : Value) => ⟨199, [(1, v1), (4, .bool false), (5, .pointer (some ⟨g3, 0, none⟩)), (6, v36907), (7, .map (some g4)), (8, .int .i64 i36734), (9, .pointer (some ⟨g36877, 0, none⟩)), (10, .pointer (some ⟨g36889, 0, none⟩)), (11, .int .i64 t36884), (12, .int .i64 t36885), (30, (.slice (some ad36875) l0.length n36876)), (31, .int .i64 (l0.length : Int)), (32, .int .i64 i36734), (33, .bool true), (34, .int .i64 i36734), (36, .agg #[.int .i64 x36874.f0, .bool x36874.f1, .int .i64 x36874.f2, .int .i64 x36874.f3, .int .i64 x36874.f4, .bool x36874.f5]), (37, .int .i64 i36734), (38, .bool false), (39, .tuple #[.agg #[v36888, .int .i64 t36883], .int .i64 t36884, .int .i64 t36885]), (40, .agg #[v36736, .int .i64 i36739]), (41, .agg #[.int .i64 x36874.f0, .bool x36874.f1, .int .i64 x36874.f2, .int .i64 x36874.f3, .int .i64 x36874.f4, .bool x36874.f5]), (42, .tuple #[.agg #[v36888, .int .i64 t36883], .int .i64 t36884, .int .i64 t36885]), (43, .agg #[v36888, .int .i64 t36883]), (44, .int .i64 t36884), (45, .int .i64 t36885), (46, .int .i64 t36885), (47, .bool false), (50, .int .i64 t36884), (52, .int .i64 (l36732.length : Int)), (53, .int .i64 (wrap64 ((l36732.length : Int) + 1))), (54, .bool false), (55, .int .i64 t36884), (56, .pointer (some ⟨g36877, 0, none⟩)), (57, .agg #[v36888, .int .i64 t36883]), (59, .agg #[.int .i64 t36884, .bool x36874.f1, .int .i64 x36874.f2, .int .i64 x36874.f3, .int .i64 x36874.f4, .bool x36874.f5]), (60, v36905), (61, v36907)], [.row v36888 6 (r36882.map enc25), .row v36736 6 (l36737.map enc25), .mp g4 (menc mI mI mp36740), .row v1 1 (l1.map enc_inti64), .row (.slice (some ad36875) l0.length n36876) 6 (l0.map enc25)], [(g36889, 24, [v36888, .int .i64 t36883]), (g36877, 26, [.int .i64 t36884, .bool x36874.f1, .int .i64 x36874.f2, .int .i64 x36874.f3, .int .i64 x36874.f4, .bool x36874.f5]), (g3, 24, [v36888, .int .i64 t36883])], [(v36905, 26, 6, ([(⟨t36884, x36874.f1, x36874.f2, x36874.f3, x36874.f4, x36874.f5⟩ : S25)] : List S25).map enc25), (v36907, 26, 6, (l36732 ++ ([(⟨t36884, x36874.f1, x36874.f2, x36874.f3, x36874.f4, x36874.f5⟩ : S25)] : List S25)).map enc25)]⟩) (fun (v36907 : Value) (v36905 : Value) => True) ?_ ?_
                · refine VC.draw ⟨0, [], [], [(g36889, 24, [v36888, .int .i64 t36883]), (g36877, 26, [.int .i64 t36884, .bool x36874.f1, .int .i64 x36874.f2, .int .i64 x36874.f3, .int .i64 x36874.f4, .bool x36874.f5])], []⟩ (by kernel_rfl) rfl (by kernel_rfl) (n := 7) (listed := LB 7 0) ?_
                  refine VA.va (i := 0) (listed' := LB 7 1) rfl (op_load 0 2 rfl rfl TI24 rfl (fun h => absurd h (by decide)) (ltn rfl)) rfl (by kernel_rfl) (by kernel_rfl) (by kernel_rfl) (by kernel_rfl) ⟨trivial, ⟨⟨0, rfl⟩, ⟨1, rfl⟩, trivial⟩, trivial⟩ (fun _ _ _ h => h) ?_
                  refine VA.va (i := 2) (listed' := LB 7 5) rfl (op_load 1 6 rfl rfl TI26 rfl (fun h => absurd h (by decide)) (ltn rfl)) rfl (by kernel_rfl) (by kernel_rfl) (by kernel_rfl) (by kernel_rfl) ⟨trivial, ⟨⟨0, rfl⟩, ⟨1, rfl⟩, trivial⟩, trivial⟩ (fun _ _ _ h => h) ?_
                  refine VA.all [1, 3] (by kernel_rfl) (by simp) ?_
                  refine VAll.cons1 (listed' := LB 7 7) rfl ((op_move rfl (ltn rfl)).op1') rfl (by kernel_rfl) ⟨trivial, ⟨⟨0, rfl⟩, ⟨1, rfl⟩, trivial⟩, trivial⟩ ?_ ?_
                  · refine VA.oneG (i := 3) (listed' := LB 7 15) (by kernel_rfl) rfl (o_buildSlice (vals := [(0, .agg #[.int .i64 t36884, .bool x36874.f1, .int .i64 x36874.f2, .int .i64 x36874.f3, .int .i64 x36874.f4, .bool x36874.f5])]) (cells := #[.int .i64 t36884, .bool x36874.f1, .int .i64 x36874.f2, .int .i64 x36874.f3, .int .i64 x36874.f4, .bool x36874.f5]) (es := List.map enc25 ([(⟨t36884, x36874.f1, x36874.f2, x36874.f3, x36874.f4, x36874.f5⟩ : S25)] : List S25)) Try.underlying22 TI26 Z26 rfl (by decide) (by decide) (by kernel_rfl) (by kernel_rfl) rfl (flat_map enc25_ok _) (ltn rfl)) rfl (by kernel_rfl) (fun _ => ⟨trivial, ⟨⟨0, rfl⟩, ⟨1, rfl⟩, trivial⟩, trivial⟩) ?_
                    intro v36905
                    refine VA.oneG (i := 4) (listed' := LB 7 31) (by kernel_rfl) rfl (o_append 1 appm Try.underlying22 EI26 rfl rfl rfl (.inr ⟨0, _, rfl⟩) (bndm c36906) (ltn rfl)) rfl (by kernel_rfl) (fun _ => ⟨trivial, ⟨⟨0, rfl⟩, ⟨1, rfl⟩, trivial⟩, trivial⟩) ?_
                    intro v36907
                    refine VA.one1 (i := 5) (listed' := LB 7 63) (by kernel_rfl) rfl (o_store 2 2 rfl rfl rfl TI24 (.agg (.f 0 rfl (.c rfl .nil))) rfl (len rfl)) rfl (by kernel_rfl) ⟨trivial, ⟨⟨0, rfl⟩, ⟨1, rfl⟩, trivial⟩, trivial⟩ ?_
                    refine VA.more ⟨0, [], [], [(g36889, 24, [v36888, .int .i64 t36883]), (g36877, 26, [.int .i64 t36884, .bool x36874.f1, .int .i64 x36874.f2, .int .i64 x36874.f3, .int .i64 x36874.f4, .bool x36874.f5])], [(v36907, 26, 6, (l36732 ++ ([(⟨t36884, x36874.f1, x36874.f2, x36874.f3, x36874.f4, x36874.f5⟩ : S25)] : List S25)).map enc25)]⟩ ⟨trivial, ⟨⟨0, rfl⟩, ⟨1, rfl⟩, trivial⟩, trivial⟩ ?_
                    refine VA.va (i := 6) (listed' := LB 7 127) rfl (op_assign rfl (ltn rfl)) rfl (by kernel_rfl) (by kernel_rfl) (by kernel_rfl) (by kernel_rfl) ⟨trivial, ⟨⟨0, rfl⟩, ⟨1, rfl⟩, trivial⟩, ⟨⟨1, rfl⟩, trivial⟩⟩ (fun _ _ _ h => h) ?_
                    refine VA.done (by kernel_rfl) ?_
                    exact VN.meet2 v36907 v36905 [0, 1, 2] [0, 1] trivial ⟨rfl, ⟨rfl, rfl, rfl, rfl, rfl, rfl, rfl, rfl, rfl, rfl, rfl, rfl, rfl, rfl, rfl, rfl, rfl, rfl, rfl, rfl, rfl, rfl, rfl, rfl, rfl, rfl, rfl, rfl, rfl, rfl, rfl, rfl, rfl, rfl, rfl, rfl, rfl, trivial⟩, ⟨⟨0, rfl⟩, ⟨1, rfl⟩, ⟨2, rfl⟩, ⟨3, rfl⟩, ⟨4, rfl⟩, trivial⟩, rfl, by decide, rfl, by decide⟩
                  refine VAll.consG (listed' := LB 7 13) rfl (o_buildSlice (vals := [(0, .agg #[.int .i64 t36884, .bool x36874.f1, .int .i64 x36874.f2, .int .i64 x36874.f3, .int .i64 x36874.f4, .bool x36874.f5])]) (cells := #[.int .i64 t36884, .bool x36874.f1, .int .i64 x36874.f2, .int .i64 x36874.f3, .int .i64 x36874.f4, .bool x36874.f5]) (es := List.map enc25 ([(⟨t36884, x36874.f1, x36874.f2, x36874.f3, x36874.f4, x36874.f5⟩ : S25)] : List S25)) Try.underlying22 TI26 Z26 rfl (by decide) (by decide) (by kernel_rfl) (by kernel_rfl) rfl (flat_map enc25_ok _) (ltn rfl)) rfl (by kernel_rfl) (fun _ => ⟨trivial, ⟨⟨0, rfl⟩, ⟨1, rfl⟩, trivial⟩, trivial⟩) ?_ VAll.nil
                  intro v36905
                  refine VA.one1 (i := 1) (listed' := LB 7 15) (by kernel_rfl) rfl ((op_move rfl (ltn rfl)).op1') rfl (by kernel_rfl) ⟨trivial, ⟨⟨0, rfl⟩, ⟨1, rfl⟩, trivial⟩, trivial⟩ ?_
                  refine VA.oneG (i := 4) (listed' := LB 7 31) (by kernel_rfl) rfl (o_append 1 appm Try.underlying22 EI26 rfl rfl rfl (.inr ⟨0, _, rfl⟩) (bndm c36906) (ltn rfl)) rfl (by kernel_rfl) (fun _ => ⟨trivial, ⟨⟨0, rfl⟩, ⟨1, rfl⟩, trivial⟩, trivial⟩) ?_
                  intro v36907
                  refine VA.one1 (i := 5) (listed' := LB 7 63) (by kernel_rfl) rfl (o_store 2 2 rfl rfl rfl TI24 (.agg (.f 0 rfl (.c rfl .nil))) rfl (len rfl)) rfl (by kernel_rfl) ⟨trivial, ⟨⟨0, rfl⟩, ⟨1, rfl⟩, trivial⟩, trivial⟩ ?_
                  refine VA.more ⟨0, [], [], [(g36889, 24, [v36888, .int .i64 t36883]), (g36877, 26, [.int .i64 t36884, .bool x36874.f1, .int .i64 x36874.f2, .int .i64 x36874.f3, .int .i64 x36874.f4, .bool x36874.f5])], [(v36907, 26, 6, (l36732 ++ ([(⟨t36884, x36874.f1, x36874.f2, x36874.f3, x36874.f4, x36874.f5⟩ : S25)] : List S25)).map enc25)]⟩ ⟨trivial, ⟨⟨0, rfl⟩, ⟨1, rfl⟩, trivial⟩, trivial⟩ ?_
                  refine VA.va (i := 6) (listed' := LB 7 127) rfl (op_assign rfl (ltn rfl)) rfl (by kernel_rfl) (by kernel_rfl) (by kernel_rfl) (by kernel_rfl) ⟨trivial, ⟨⟨0, rfl⟩, ⟨1, rfl⟩, trivial⟩, ⟨⟨1, rfl⟩, trivial⟩⟩ (fun _ _ _ h => h) ?_
                  refine VA.done (by kernel_rfl) ?_
                  exact VN.meet2 v36907 v36905 [0, 1, 2] [0, 1] trivial ⟨rfl, ⟨rfl, rfl, rfl, rfl, rfl, rfl, rfl, rfl, rfl, rfl, rfl, rfl, rfl, rfl, rfl, rfl, rfl, rfl, rfl, rfl, rfl, rfl, rfl, rfl, rfl, rfl, rfl, rfl, rfl, rfl, rfl, rfl, rfl, rfl, rfl, rfl, rfl, trivial⟩, ⟨⟨0, rfl⟩, ⟨1, rfl⟩, ⟨2, rfl⟩, ⟨3, rfl⟩, ⟨4, rfl⟩, trivial⟩, rfl, by decide, rfl, by decide⟩
                intro v36907 v36905 _
                refine VC.region ?_
                refine VL.va (op_move rfl (ltn rfl)) rfl ?_
                refine VL.va (op_move rfl (ltn rfl)) rfl ?_
                refine VL.va (op_lookup (ke := mI) (ve := mI) (m := mp36740) (dv := 0) (k := t36884) 2 Try.underlying41 MK3 Z3 rfl rfl rfl (ltn rfl)) rfl ?_
                refine VL.va (op_ari64 rfl rfl rfl (ltn rfl)) rfl ?_
                refine VL.step1 (o_mapUpdate (ke := mI) (ve := mI) (m := mp36740) (k := t36884) (v' := (wrap64 ((mget mp36740 t36884 0) + 1))) 2 Try.underlying41 MK3 hbg4 rfl ⟨trivial, trivial, trivial, trivial, trivial⟩ rfl rfl rfl) rfl ?_
                refine VL.done ?_
                refine VN.block ?_
                refine VN.then ?_
                refine VC.region ?_
                refine VL.va (op_ari64 rfl rfl rfl (ltn rfl)) rfl ?_
                refine VL.va (op_move rfl (ltn rfl)) rfl ?_
                refine VL.done ?_
                refine VN.again [2] [1] (ihl855 v36907 (l36732 ++ ([(⟨t36884, x36874.f1, x36874.f2, x36874.f3, x36874.f4, x36874.f5⟩ : S25)] : List S25)) (wrap64 (i36734 + 1)) v36888 r36882 t36883 (mset mp36740 t36884 (wrap64 ((mget mp36740 t36884 0) + 1))) h) ⟨rfl, ⟨rfl, rfl, rfl, rfl, rfl, rfl, rfl, rfl, trivial⟩, ⟨⟨0, rfl⟩, ⟨2, rfl⟩, ⟨3, rfl⟩, ⟨4, rfl⟩, trivial⟩, rfl, by decide, rfl, by decide⟩
              · rw [if_neg c36906] at h; cases h
            · rw [if_neg c36903] at h
              obtain rfl : b36902 = true := hb36902.symm.trans (bne_iff_ne.2 c36903)
              refine VC.cond_t rfl ?_
              refine VC.seq ?_
              refine VC.region ?_
              refine VL.va (op_assign rfl (ltn rfl)) rfl ?_
              refine VL.done ?_
              refine VN.then ?_
              refine VC.ret ?_
              refine VR.then ?_
              refine VR.block ?_
              refine VR.then ?_
              refine VR.then ?_
              refine VR.block ?_
              refine VR.then ?_
              cases h
          · rw [if_neg c36899] at h
            obtain rfl : b36898 = true := hb36898.symm.trans (bne_iff_ne.2 c36899)
            refine VC.cond_t rfl ?_
            refine VC.seq ?_
            refine VC.seq ?_
            refine VC.region ?_
            refine VL.va (op_load 1 6 rfl rfl TI26 rfl (fun h => absurd h (by decide)) (ltn rfl)) rfl ?_
            replace h := Option.bind_eq_some_iff.1 h
            obtain ⟨t36912, hA36913, h⟩ := h
            refine VL.sC (o_call0 FO14 (tarrylaw15_may.ok x36874.f0 x36874.f1 x36874.f2 x36874.f3 x36874.f4 x36874.f5 t36912 hA36913) rfl rfl (ltn rfl) (All_of .nil)) rfl ?_
            rintro _ _ _ ⟨rfl, rfl, rfl⟩
            refine VL.done ?_
            refine VN.then ?_
            by_cases c36914 : t36912 = true
            · rw [if_pos c36914] at h
              obtain rfl := c36914
              refine VC.cond_t rfl ?_
              refine VC.seq ?_
              refine VC.region ?_
              refine VL.va (op_assign rfl (ltn rfl)) rfl ?_
              refine VL.done ?_
              refine VN.then ?_
              refine VC.ret ?_
              refine VR.then ?_
              refine VR.then ?_
              refine VR.block ?_
              refine VR.then ?_
              refine VR.then ?_
              refine VR.block ?_
              refine VR.then ?_
              cases h
            · rw [if_neg c36914] at h
              obtain rfl := Bool.eq_false_iff.2 c36914
              refine VC.cond_f rfl ?_
              refine VC.skip ?_
              refine VN.then ?_
              refine VC.exit ?_
              refine VX.then ?_
              refine VX.hit ?_
              refine VN.then ?_
              refine VC.region ?_
              refine VL.va (op_ari64 rfl rfl rfl (ltn rfl)) rfl ?_
              refine VL.va (op_move rfl (ltn rfl)) rfl ?_
              refine VL.done ?_
              refine VN.again [2] [0] (ihl855 v36731 l36732 (wrap64 (i36734 + 1)) v36736 l36737 i36739 mp36740 h) ⟨rfl, ⟨rfl, rfl, rfl, rfl, rfl, rfl, rfl, rfl, trivial⟩, ⟨⟨1, rfl⟩, ⟨2, rfl⟩, ⟨3, rfl⟩, ⟨4, rfl⟩, trivial⟩, rfl, by decide, rfl, by decide⟩
      · rw [if_neg c36873] at h; cases h
    · rw [if_neg c36830] at h
      obtain rfl : b36828 = false := hb36828.symm.trans (decide_eq_false c36830)
      refine VC.cond_f rfl ?_
      refine VC.exit ?_
      refine VX.then ?_
      refine VX.then ?_
      refine VX.hit ?_
      refine VN.meet6 v36731 l36732 v36736 l36737 i36739 mp36740 [0] [0] h ⟨rfl, ⟨rfl, rfl, rfl, rfl, rfl, trivial⟩, ⟨⟨0, rfl⟩, ⟨1, rfl⟩, ⟨2, rfl⟩, trivial⟩, rfl, by decide, rfl, by decide⟩
  clear h
  intro v36916 l36917 v36919 l36920 i36921 mp36922 h
  unfold tarrylaw15_NetOnce.j854 at h
  refine VC.join4 (fun (v42684 : Value) (l42685 : List S25) (i42686 : Int) (mp42687 : List (Int × Int)) => ⟨199, [(4, .bool false), (5, .pointer (some ⟨g3, 0, none⟩)), (7, .map (some g4))], [.row v42684 6 (l42685.map enc25), .mp g4 (menc mI mI mp42687)], [(g3, 24, [v42684, .int .i64 i42686])], []⟩) (fun (v42684 : Value) (l42685 : List S25) (i42686 : Int) (mp42687 : List (Int × Int)) => tarrylaw15_NetOnce.j988 k l42685 i42686 mp42687 = some r1) ?_ ?_
  · refine VC.seq ?_
    refine VC.region ?_
    refine VL.va (op_move rfl (ltn rfl)) rfl ?_
    refine VL.va (op_len (m := l1.length) 2 lenm Try.underlying40 rfl rfl (ltn rfl)) rfl ?_
    refine VL.va (op_move rfl (ltn rfl)) rfl ?_
    refine VL.done ?_
    refine VN.then ?_
    refine VC.block ?_
    refine VC.loop5 (fun (i41895 : Int) (v41897 : Value) (l41898 : List S25) (i41899 : Int) (mp41900 : List (Int × Int)) => ⟨199, [(4, .bool false), (5, .pointer (some ⟨g3, 0, none⟩)), (6, v36916), (7, .map (some g4)), (67, v1), (68, .int .i64 (l1.length : Int)), (69, .int .i64 i41895)], [.row v41897 6 (l41898.map enc25), .mp g4 (menc mI mI mp41900), .row v1 1 (l1.map enc_inti64)], [(g3, 24, [v41897, .int .i64 i41899])], [(v36916, 26, 6, l36917.map enc25)]⟩) (fun (ml989 : Nat) (i41895 : Int) (v41897 : Value) (l41898 : List S25) (i41899 : Int) (mp41900 : List (Int × Int)) => tarrylaw15_NetOnce.l989 k l1 l36917 ml989 i41895 l41898 i41899 mp41900 = some r1) k 0 v36919 l36920 i36921 mp36922 [0] [0] h ⟨rfl, ⟨rfl, rfl, rfl, rfl, rfl, rfl, rfl, trivial⟩, ⟨⟨0, rfl⟩, ⟨1, rfl⟩, ⟨2, rfl⟩, trivial⟩, rfl, by decide, rfl, by decide⟩ (by intros; simp [tarrylaw15_NetOnce.l989]) ?_
    clear h
    intro ml989 ihl989 i41895 v41897 l41898 i41899 mp41900 h
    simp only [tarrylaw15_NetOnce.l989] at h
    refine VC.seq ?_
    refine VC.region ?_
    refine VL.letter (decide (i41895 < (l1.length : Int))) fun b42292 hb42292 => ?_
    refine VL.va (op_cmp rfl rfl (congrArg some hb42292) (ltn rfl)) rfl ?_
    refine VL.done ?_
    refine VN.then ?_
    refine VC.seq ?_
    by_cases c42294 : i41895 < (l1.length : Int)
    · rw [if_pos c42294] at h
      obtain rfl : b42292 = true := hb42292.symm.trans (decide_eq_true c42294)
      refine VC.cond_t rfl ?_
      refine VC.skip ?_
      refine VN.then ?_
      refine VC.seq ?_
      refine VC.block ?_
      refine VC.seq ?_
      refine VC.region ?_
      refine VL.va (op_move rfl (ltn rfl)) rfl ?_
      by_cases c42489 : 0 ≤ i41895
      · rw [if_pos c42489] at h
        replace h := Option.bind_eq_some_iff.1 h
        obtain ⟨x42490, hx42490, h⟩ := h
        refine VL.open (m := l1.length) 2 lenm rfl (pos_get hx42490) ?_
        rintro ad42491 n42492 rfl
        refine VL.va (op_indexAddr Try.underlying40 TI3 rfl rfl c42489 (lt_get c42489 hx42490) rfl (ltn rfl)) rfl ?_
        refine VL.va (op_load_row (sz := 1) (o := 0) 2 i41895.toNat 1 rfl rfl (get_map hx42490) TI3 rfl (by decide) (ltn rfl)) rfl ?_
        refine VL.va (op_assign rfl (ltn rfl)) rfl ?_
        refine VL.va (op_assign rfl (ltn rfl)) rfl ?_
        refine VL.done ?_
        refine VN.then ?_
        refine VC.seq ?_
        refine VC.region ?_
        refine VL.va (op_fieldAddr FI24_0 rfl (add_at _ _ _) (ltn rfl)) rfl ?_
        refine VL.va (op_load 0 1 rfl rfl TI22 rfl (by decide) (ltn rfl)) rfl ?_
        refine VL.va (op_len (m := l41898.length) 0 lenm Try.underlying22 rfl rfl (ltn rfl)) rfl ?_
        refine VL.va (op_assign rfl (ltn rfl)) rfl ?_
        refine VL.done ?_
        refine VN.then ?_
        refine VC.seq ?_
        refine VC.join3 (fun (q42596 : Bool) (q42597 : Bool) (q42598 : Bool) => ⟨199, [(4, .bool false), (5, .pointer (some ⟨g3, 0, none⟩)), (6, v36916), (7, .map (some g4)), (13, .int .i64 i41895), (14, .int .i64 x42490), (15, .int .i64 (l41898.length : Int)), (67, (.slice (some ad42491) l1.length n42492)), (68, .int .i64 (l1.length : Int)), (69, .int .i64 i41895), (70, .bool true), (71, .int .i64 i41895), (73, .int .i64 x42490), (74, .pointer (some ⟨g3, 0, none⟩)), (75, v41897), (76, .int .i64 (l41898.length : Int)), (77, .int .i64 i41895), (78, .bool q42596), (79, .bool q42597), (82, .bool q42598)], [.mp g4 (menc mI mI mp41900), .row (.slice (some ad42491) l1.length n42492) 1 (l1.map enc_inti64), .row v41897 6 (l41898.map enc25)], [(g3, 24, [v41897, .int .i64 i41899])], [(v36916, 26, 6, l36917.map enc25)]⟩) (fun (q42596 : Bool) (q42597 : Bool) (q42598 : Bool) => tarrylaw15_NetOnce.j991 k (tarrylaw15_NetOnce.l989 k l1 l36917 ml989) i41895 i41899 l36917 l41898 mp41900 x42490 q42596 q42597 q42598 = some r1) ?_ ?_
        · refine VC.region ?_
          refine VL.va (op_move rfl (ltn rfl)) rfl ?_
          refine VL.letter (decide (i41895 ≥ 40)) fun b42593 hb42593 => ?_
          refine VL.va (op_cmp rfl rfl (congrArg some hb42593) (ltn rfl)) rfl ?_
          refine VL.va (op_move rfl (ltn rfl)) rfl ?_
          by_cases c42594 : i41895 ≥ 40
          · rw [if_pos c42594] at h
            obtain rfl : b42593 = true := hb42593.symm.trans (decide_eq_true c42594)
            refine VL.un rfl rfl (ltn rfl) ?_
            refine VL.un rfl rfl (ltn rfl) ?_
            refine VL.va (op_pick rfl rfl (ltn rfl)) rfl ?_
            refine VL.done ?_
            refine VN.meet3 true true true [0] [0] h ⟨rfl, ⟨rfl, rfl, rfl, rfl, rfl, rfl, rfl, rfl, rfl, rfl, rfl, rfl, rfl, rfl, rfl, rfl, rfl, rfl, rfl, rfl, trivial⟩, ⟨⟨1, rfl⟩, ⟨2, rfl⟩, ⟨0, rfl⟩, trivial⟩, rfl, by decide, rfl, by decide⟩
          · rw [if_neg c42594] at h
            obtain rfl : b42593 = false := hb42593.symm.trans (decide_eq_false c42594)
            refine VL.va (op_move rfl (ltn rfl)) rfl ?_
            refine VL.letter (((l41898.length : Int) == 0)) fun b42595 hb42595 => ?_
            refine VL.va (op_cmp rfl rfl (congrArg some hb42595) (ltn rfl)) rfl ?_
            refine VL.va (op_pick rfl rfl (ltn rfl)) rfl ?_
            refine VL.done ?_
            subst hb42595
            refine VN.meet3 false false ((l41898.length : Int) == 0) [0] [0] h ⟨rfl, ⟨rfl, rfl, rfl, rfl, rfl, rfl, rfl, rfl, rfl, rfl, rfl, rfl, rfl, rfl, rfl, rfl, rfl, rfl, rfl, rfl, trivial⟩, ⟨⟨1, rfl⟩, ⟨2, rfl⟩, ⟨0, rfl⟩, trivial⟩, rfl, by decide, rfl, by decide⟩
        clear h
        intro q42596 q42597 q42598 h
        unfold tarrylaw15_NetOnce.j991 at h
        by_cases c42599 : q42598 = true
        · rw [if_pos c42599] at h
          obtain rfl := c42599
          refine VC.cond_t rfl ?_
          refine VC.exit ?_
          refine VX.then ?_
          refine VX.miss (by decide) ?_
          refine VX.then ?_
          refine VX.then ?_
          refine VX.hit ?_
          refine VN.meet4 v41897 l41898 i41899 mp41900 [0] [] h ⟨rfl, ⟨rfl, rfl, rfl, trivial⟩, ⟨⟨2, rfl⟩, ⟨0, rfl⟩, trivial⟩, rfl, by decide, rfl, by decide⟩
        · rw [if_neg c42599] at h
          obtain rfl := Bool.eq_false_iff.2 c42599
          refine VC.cond_f rfl ?_
          refine VC.skip ?_
          refine VN.then ?_
          refine VC.seq ?_
          refine VC.region ?_
          refine VL.va (op_move rfl (ltn rfl)) rfl ?_
          refine VL.va (op_quo rfl rfl (by decide) rfl (ltn rfl)) rfl ?_
          refine VL.va (op_move rfl (ltn rfl)) rfl ?_
          by_cases c42600 : (l41898.length : Int) ≠ 0
          · rw [if_pos c42600] at h
            refine VL.va (op_rem rfl rfl c42600 rfl (ltn rfl)) rfl ?_
            refine VL.va (op_move rfl (ltn rfl)) rfl ?_
            refine VL.va (op_ari64 rfl rfl rfl (ltn rfl)) rfl ?_
            refine VL.va (op_move rfl (ltn rfl)) rfl ?_
            refine VL.va (op_rem rfl rfl c42600 rfl (ltn rfl)) rfl ?_
            refine VL.va (op_assign rfl (ltn rfl)) rfl ?_
            refine VL.done ?_
            refine VN.then ?_
            refine VC.seq ?_
            refine VC.region ?_
            refine VL.va (op_fieldAddr FI24_0 rfl (add_at _ _ _) (ltn rfl)) rfl ?_
            refine VL.va (op_load 0 1 rfl rfl TI22 rfl (by decide) (ltn rfl)) rfl ?_
            refine VL.va (op_move rfl (ltn rfl)) rfl ?_
            by_cases c42601 : 0 ≤ (wrap64 (((IntKind.i64.wrap (x42490.tdiv 3)).tmod (l41898.length : Int)) + (l41898.length : Int))).tmod (l41898.length : Int)
            · rw [if_pos c42601] at h
              replace h := Option.bind_eq_some_iff.1 h
              obtain ⟨x42602, hx42602, h⟩ := h
              refine VL.open (m := l41898.length) 2 lenm rfl (pos_get hx42602) ?_
              rintro ad42603 n42604 rfl
              refine VL.va (op_indexAddr Try.underlying22 TI26 rfl rfl c42601 (lt_get c42601 hx42602) rfl (ltn rfl)) rfl ?_
              refine VL.va (op_fieldAddr FI26_0 rfl (add_add _ _ _) (ltn rfl)) rfl ?_
              refine VL.va (op_load_row (sz := 6) (o := 0) 2 ((wrap64 (((IntKind.i64.wrap (x42490.tdiv 3)).tmod (l41898.length : Int)) + (l41898.length : Int))).tmod (l41898.length : Int)).toNat 1 rfl rfl (get_map hx42602) TI3 rfl (by decide) (ltn rfl)) rfl ?_
              refine VL.va (op_assign rfl (ltn rfl)) rfl ?_
              refine VL.done ?_
              refine VN.then ?_
              refine VC.seq ?_
              refine VC.region ?_
              refine VL.va (op_move rfl (ltn rfl)) rfl ?_
              refine VL.va (op_rem rfl rfl (by decide) rfl (ltn rfl)) rfl ?_
              refine VL.va (op_ari64 rfl rfl rfl (ltn rfl)) rfl ?_
              refine VL.va (op_rem rfl rfl (by decide) rfl (ltn rfl)) rfl ?_
              refine VL.done ?_
              refine VN.then ?_
              refine VC.block ?_
              refine VC.seq ?_
              refine VC.region ?_
              refine VL.letter ((((wrap64 ((x42490.tmod 3) + 3)).tmod 3) == 0)) fun b42605 hb42605 => ?_
              refine VL.va (op_cmp rfl rfl (congrArg some hb42605) (ltn rfl)) rfl ?_
              refine VL.va (op_assign rfl (ltn rfl)) rfl ?_
              refine VL.done ?_
              refine VN.then ?_
              by_cases c42606 : ((wrap64 ((x42490.tmod 3) + 3)).tmod 3) = 0
              · rw [if_pos c42606] at h
                obtain rfl : b42605 = true := hb42605.symm.trans (beq_iff_eq.2 c42606)
                refine VC.cond_t rfl ?_
                refine VC.seq ?_
                refine VC.region ?_
                refine VL.va (op_load 0 2 rfl rfl TI24 rfl (fun h => absurd h (by decide)) (ltn rfl)) rfl ?_
                refine VL.va (op_move rfl (ltn rfl)) rfl ?_
                replace h := Option.bind_eq_some_iff.1 h
                obtain ⟨⟨r42607, t42608, t42609, t42610, t42611, t42612, t42613, t42614, t42615⟩, hA42616, h⟩ := h
                dsimp only at h
                refine VL.sC (o_call0 FO8 (net_Take.ok k l41898 i41899 ((wrap64 (((IntKind.i64.wrap (x42490.tdiv 3)).tmod (l41898.length : Int)) + (l41898.length : Int))).tmod (l41898.length : Int)) (.slice (some ad42603) l41898.length n42604) r42607 t42608 t42609 t42610 t42611 t42612 t42613 t42614 t42615 hA42616) rfl rfl (ltn rfl) (All_of (.cons (List.mem_of_getElem? (i := 2) rfl) .nil))) rfl ?_
                rintro _ _ _ ⟨v42618, rfl, rfl, rfl⟩
                refine VL.va (op_move rfl (ltn rfl)) rfl ?_
                refine VL.va (op_extract rfl rfl (ltn rfl)) rfl ?_
                refine VL.va (op_extract rfl rfl (ltn rfl)) rfl ?_
                refine VL.va (op_extract rfl rfl (ltn rfl)) rfl ?_
                refine VL.sG (o_alloc Z24 ZL24 (ltn rfl)) rfl ?_
                intro g42619
                refine VL.sG (o_alloc Z26 ZL26 (ltn rfl)) rfl ?_
                intro g42620
                refine VL.step1 (o_store 1 2 rfl rfl rfl TI24 (.agg (.f 0 rfl (.c rfl .nil))) rfl (len rfl)) rfl ?_
                refine VL.step1 (o_store 0 6 rfl rfl rfl TI26 (.agg (.of rfl)) rfl (len rfl)) rfl ?_
                refine VL.va (op_assign rfl (ltn rfl)) rfl ?_
                refine VL.done ?_
                refine VN.then ?_
                refine VC.seq ?_
                refine VC.letter ((t42615 != 0)) fun b42633 hb42633 => ?_
                by_cases c42634 : t42615 = 0
                · rw [if_pos c42634] at h
                  obtain rfl : b42633 = false := hb42633.symm.trans (bne_eq_false_iff_eq.2 c42634)
                  refine VC.letter (decide (x42602.f0 < 1)) fun b42635 hb42635 => ?_
                  by_cases c42636 : x42602.f0 < 1
                  · rw [if_pos c42636] at h
                    obtain rfl : b42635 = true := hb42635.symm.trans (decide_eq_true c42636)
                    refine VC.join0 (⟨199, [(4, .bool false), (5, .pointer (some ⟨g3, 0, none⟩)), (6, v36916), (7, .map (some g4)), (13, .int .i64 i41895), (14, .int .i64 x42490), (15, .int .i64 (l41898.length : Int)), (16, .int .i64 ((wrap64 (((IntKind.i64.wrap (x42490.tdiv 3)).tmod (l41898.length : Int)) + (l41898.length : Int))).tmod (l41898.length : Int))), (17, .int .i64 x42602.f0), (18, .pointer (some ⟨g42619, 0, none⟩)), (19, .pointer (some ⟨g42620, 0, none⟩)), (20, .int .i64 t42615), (67, (.slice (some ad42491) l1.length n42492)), (68, .int .i64 (l1.length : Int)), (69, .int .i64 i41895), (70, .bool true), (71, .int .i64 i41895), (73, .int .i64 x42490), (74, .pointer (some ⟨g3, 0, none⟩)), (75, (.slice (some ad42603) l41898.length n42604)), (76, .int .i64 (l41898.length : Int)), (77, .int .i64 i41895), (78, .bool q42596), (79, .bool q42597), (82, .bool false), (83, .int .i64 x42490), (84, .int .i64 (IntKind.i64.wrap (x42490.tdiv 3))), (85, .int .i64 (l41898.length : Int)), (86, .int .i64 ((IntKind.i64.wrap (x42490.tdiv 3)).tmod (l41898.length : Int))), (87, .int .i64 (l41898.length : Int)), (88, .int .i64 (wrap64 (((IntKind.i64.wrap (x42490.tdiv 3)).tmod (l41898.length : Int)) + (l41898.length : Int)))), (89, .int .i64 (l41898.length : Int)), (90, .int .i64 ((wrap64 (((IntKind.i64.wrap (x42490.tdiv 3)).tmod (l41898.length : Int)) + (l41898.length : Int))).tmod (l41898.length : Int))), (91, .pointer (some ⟨g3, 0, none⟩)), (92, (.slice (some ad42603) l41898.length n42604)), (93, .int .i64 ((wrap64 (((IntKind.i64.wrap (x42490.tdiv 3)).tmod (l41898.length : Int)) + (l41898.length : Int))).tmod (l41898.length : Int))), (96, .int .i64 x42602.f0), (97, .int .i64 x42490), (98, .int .i64 (x42490.tmod 3)), (99, .int .i64 (wrap64 ((x42490.tmod 3) + 3))), (100, .int .i64 ((wrap64 ((x42490.tmod 3) + 3)).tmod 3)), (110, .bool true), (111, .bool true), (112, .tuple #[.agg #[v42618, .int .i64 t42608], .agg #[.int .i64 t42609, .bool t42610, .int .i64 t42611, .int .i64 t42612, .int .i64 t42613, .bool t42614], .int .i64 t42615]), (113, .agg #[(.slice (some ad42603) l41898.length n42604), .int .i64 i41899]), (114, .int .i64 ((wrap64 (((IntKind.i64.wrap (x42490.tdiv 3)).tmod (l41898.length : Int)) + (l41898.length : Int))).tmod (l41898.length : Int))), (115, .tuple #[.agg #[v42618, .int .i64 t42608], .agg #[.int .i64 t42609, .bool t42610, .int .i64 t42611, .int .i64 t42612, .int .i64 t42613, .bool t42614], .int .i64 t42615]), (116, .agg #[v42618, .int .i64 t42608]), (117, .agg #[.int .i64 t42609, .bool t42610, .int .i64 t42611, .int .i64 t42612, .int .i64 t42613, .bool t42614]), (118, .int .i64 t42615), (119, .int .i64 t42615), (120, .bool false), (121, .bool false), (122, .int .i64 x42602.f0), (123, .bool true), (124, .bool true), (125, .bool true), (126, undef), (127, undef), (128, undef), (129, undef), (130, .bool true), (131, .bool true), (132, undef), (133, undef), (134, undef), (135, undef), (136, undef), (137, undef), (138, undef), (139, .bool true), (140, .bool true), (141, undef), (142, undef), (143, undef), (144, undef), (145, .bool true)], [.row v42618 6 (r42607.map enc25), .mp g4 (menc mI mI mp41900), .row (.slice (some ad42491) l1.length n42492) 1 (l1.map enc_inti64), .row (.slice (some ad42603) l41898.length n42604) 6 (l41898.map enc25)], [(g42620, 26, [.int .i64 t42609, .bool t42610, .int .i64 t42611, .int .i64 t42612, .int .i64 t42613, .bool t42614]), (g42619, 24, [v42618, .int .i64 t42608]), (g3, 24, [(.slice (some ad42603) l41898.length n42604), .int .i64 i41899])], [(v36916, 26, 6, l36917.map enc25)]⟩) (True) ?_ ?_
                    · refine VC.draw ⟨0, [], [], [], []⟩ (by kernel_rfl) rfl (by kernel_rfl) (n := 27) (listed := LB 27 0) ?_
                      refine VA.va (i := 0) (listed' := LB 27 1) rfl (op_move rfl (ltn rfl)) rfl (by kernel_rfl) (by kernel_rfl) (by kernel_rfl) (by kernel_rfl) ⟨trivial, trivial, trivial⟩ (fun _ _ _ h => h) ?_
                      refine VA.va (i := 1) (listed' := LB 27 3) rfl (op_cmp rfl rfl (congrArg some hb42633) (ltn rfl)) rfl (by kernel_rfl) (by kernel_rfl) (by kernel_rfl) (by kernel_rfl) ⟨trivial, trivial, trivial⟩ (fun _ _ _ h => h) ?_
                      refine VA.va (i := 2) (listed' := LB 27 7) rfl (op_move rfl (ltn rfl)) rfl (by kernel_rfl) (by kernel_rfl) (by kernel_rfl) (by kernel_rfl) ⟨trivial, trivial, trivial⟩ (fun _ _ _ h => h) ?_
                      refine VA.va (i := 3) (listed' := LB 27 15) rfl (op_move rfl (ltn rfl)) rfl (by kernel_rfl) (by kernel_rfl) (by kernel_rfl) (by kernel_rfl) ⟨trivial, trivial, trivial⟩ (fun _ _ _ h => h) ?_
                      refine VA.va (i := 4) (listed' := LB 27 31) rfl (op_cmp rfl rfl (congrArg some hb42635) (ltn rfl)) rfl (by kernel_rfl) (by kernel_rfl) (by kernel_rfl) (by kernel_rfl) ⟨trivial, trivial, trivial⟩ (fun _ _ _ h => h) ?_
                      refine VA.va (i := 5) (listed' := LB 27 63) rfl (op_pick rfl rfl (ltn rfl)) rfl (by kernel_rfl) (by kernel_rfl) (by kernel_rfl) (by kernel_rfl) ⟨trivial, trivial, trivial⟩ (fun _ _ _ h => h) ?_
                      refine VA.va (i := 6) (listed' := LB 27 127) rfl (op_move rfl (ltn rfl)) rfl (by kernel_rfl) (by kernel_rfl) (by kernel_rfl) (by kernel_rfl) ⟨trivial, trivial, trivial⟩ (fun _ _ _ h => h) ?_
                      refine VA.un (i := 7) (listed' := LB 27 255) rfl rfl rfl (ltn rfl) (by kernel_rfl) (by kernel_rfl) (by kernel_rfl) (by kernel_rfl) ⟨trivial, trivial, trivial⟩ (fun _ _ _ h => h) ?_
                      refine VA.un (i := 8) (listed' := LB 27 511) rfl rfl rfl (ltn rfl) (by kernel_rfl) (by kernel_rfl) (by kernel_rfl) (by kernel_rfl) ⟨trivial, trivial, trivial⟩ (fun _ _ _ h => h) ?_
                      refine VA.un (i := 9) (listed' := LB 27 1023) rfl rfl rfl (ltn rfl) (by kernel_rfl) (by kernel_rfl) (by kernel_rfl) (by kernel_rfl) ⟨trivial, trivial, trivial⟩ (fun _ _ _ h => h) ?_
                      refine VA.un (i := 10) (listed' := LB 27 2047) rfl rfl rfl (ltn rfl) (by kernel_rfl) (by kernel_rfl) (by kernel_rfl) (by kernel_rfl) ⟨trivial, trivial, trivial⟩ (fun _ _ _ h => h) ?_
                      refine VA.va (i := 11) (listed' := LB 27 4095) rfl (op_pick rfl rfl (ltn rfl)) rfl (by kernel_rfl) (by kernel_rfl) (by kernel_rfl) (by kernel_rfl) ⟨trivial, trivial, trivial⟩ (fun _ _ _ h => h) ?_
                      refine VA.va (i := 12) (listed' := LB 27 8191) rfl (op_move rfl (ltn rfl)) rfl (by kernel_rfl) (by kernel_rfl) (by kernel_rfl) (by kernel_rfl) ⟨trivial, trivial, trivial⟩ (fun _ _ _ h => h) ?_
                      refine VA.un (i := 13) (listed' := LB 27 16383) rfl rfl rfl (ltn rfl) (by kernel_rfl) (by kernel_rfl) (by kernel_rfl) (by kernel_rfl) ⟨trivial, trivial, trivial⟩ (fun _ _ _ h => h) ?_
                      refine VA.un (i := 14) (listed' := LB 27 32767) rfl rfl rfl (ltn rfl) (by kernel_rfl) (by kernel_rfl) (by kernel_rfl) (by kernel_rfl) ⟨trivial, trivial, trivial⟩ (fun _ _ _ h => h) ?_
                      refine VA.un (i := 15) (listed' := LB 27 65535) rfl rfl rfl (ltn rfl) (by kernel_rfl) (by kernel_rfl) (by kernel_rfl) (by kernel_rfl) ⟨trivial, trivial, trivial⟩ (fun _ _ _ h => h) ?_
                      refine VA.un (i := 16) (listed' := LB 27 131071) rfl rfl rfl (ltn rfl) (by kernel_rfl) (by kernel_rfl) (by kernel_rfl) (by kernel_rfl) ⟨trivial, trivial, trivial⟩ (fun _ _ _ h => h) ?_
                      refine VA.un (i := 17) (listed' := LB 27 262143) rfl rfl rfl (ltn rfl) (by kernel_rfl) (by kernel_rfl) (by kernel_rfl) (by kernel_rfl) ⟨trivial, trivial, trivial⟩ (fun _ _ _ h => h) ?_
                      refine VA.un (i := 18) (listed' := LB 27 524287) rfl rfl rfl (ltn rfl) (by kernel_rfl) (by kernel_rfl) (by kernel_rfl) (by kernel_rfl) ⟨trivial, trivial, trivial⟩ (fun _ _ _ h => h) ?_
                      refine VA.un (i := 19) (listed' := LB 27 1048575) rfl rfl rfl (ltn rfl) (by kernel_rfl) (by kernel_rfl) (by kernel_rfl) (by kernel_rfl) ⟨trivial, trivial, trivial⟩ (fun _ _ _ h => h) ?_
                      refine VA.va (i := 20) (listed' := LB 27 2097151) rfl (op_pick rfl rfl (ltn rfl)) rfl (by kernel_rfl) (by kernel_rfl) (by kernel_rfl) (by kernel_rfl) ⟨trivial, trivial, trivial⟩ (fun _ _ _ h => h) ?_
                      refine VA.va (i := 21) (listed' := LB 27 4194303) rfl (op_move rfl (ltn rfl)) rfl (by kernel_rfl) (by kernel_rfl) (by kernel_rfl) (by kernel_rfl) ⟨trivial, trivial, trivial⟩ (fun _ _ _ h => h) ?_
                      refine VA.un (i := 22) (listed' := LB 27 8388607) rfl rfl rfl (ltn rfl) (by kernel_rfl) (by kernel_rfl) (by kernel_rfl) (by kernel_rfl) ⟨trivial, trivial, trivial⟩ (fun _ _ _ h => h) ?_
                      refine VA.un (i := 23) (listed' := LB 27 16777215) rfl rfl rfl (ltn rfl) (by kernel_rfl) (by kernel_rfl) (by kernel_rfl) (by kernel_rfl) ⟨trivial, trivial, trivial⟩ (fun _ _ _ h => h) ?_
                      refine VA.un (i := 24) (listed' := LB 27 33554431) rfl rfl rfl (ltn rfl) (by kernel_rfl) (by kernel_rfl) (by kernel_rfl) (by kernel_rfl) ⟨trivial, trivial, trivial⟩ (fun _ _ _ h => h) ?_
                      refine VA.un (i := 25) (listed' := LB 27 67108863) rfl rfl rfl (ltn rfl) (by kernel_rfl) (by kernel_rfl) (by kernel_rfl) (by kernel_rfl) ⟨trivial, trivial, trivial⟩ (fun _ _ _ h => h) ?_
                      refine VA.va (i := 26) (listed' := LB 27 134217727) rfl (op_pick rfl rfl (ltn rfl)) rfl (by kernel_rfl) (by kernel_rfl) (by kernel_rfl) (by kernel_rfl) ⟨trivial, trivial, trivial⟩ (fun _ _ _ h => h) ?_
                      refine VA.done (by kernel_rfl) ?_
                      exact VN.meet0  [0, 1, 2] [0] trivial ⟨rfl, ⟨rfl, rfl, rfl, rfl, rfl, rfl, rfl, rfl, rfl, rfl, rfl, rfl, rfl, rfl, rfl, rfl, rfl, rfl, rfl, rfl, rfl, rfl, rfl, rfl, rfl, rfl, rfl, rfl, rfl, rfl, rfl, rfl, rfl, rfl, rfl, rfl, rfl, rfl, rfl, rfl, rfl, rfl, rfl, rfl, rfl, rfl, rfl, rfl, rfl, rfl, rfl, rfl, rfl, rfl, rfl, rfl, rfl, rfl, rfl, rfl, rfl, rfl, rfl, rfl, rfl, rfl, rfl, rfl, rfl, rfl, rfl, rfl, rfl, rfl, rfl, rfl, rfl, trivial⟩, ⟨⟨0, rfl⟩, ⟨1, rfl⟩, ⟨2, rfl⟩, ⟨3, rfl⟩, trivial⟩, rfl, by decide, rfl, by decide⟩
                    intro _
                    refine VC.cond_t rfl ?_
                    refine VC.seq ?_
                    refine VC.region ?_
                    refine VL.va (op_assign rfl (ltn rfl)) rfl ?_
                    refine VL.done ?_
                    refine VN.then ?_
                    refine VC.ret ?_
                    refine VR.then ?_
                    refine VR.block ?_
                    refine VR.block ?_
                    refine VR.then ?_
                    refine VR.then ?_
                    refine VR.block ?_
                    refine VR.then ?_
                    cases h
                  · rw [if_neg c42636] at h
                    obtain rfl : b42635 = false := hb42635.symm.trans (decide_eq_false c42636)
                    refine VC.letter (decide (x42602.f0 > (l36917.length : Int))) fun b42637 hb42637 => ?_
                    by_cases c42638 : x42602.f0 > (l36917.length : Int)
                    · rw [if_pos c42638] at h
                      obtain rfl : b42637 = true := hb42637.symm.trans (decide_eq_true c42638)
                      refine VC.join0 (⟨199, [(4, .bool false), (5, .pointer (some ⟨g3, 0, none⟩)), (6, v36916), (7, .map (some g4)), (13, .int .i64 i41895), (14, .int .i64 x42490), (15, .int .i64 (l41898.length : Int)), (16, .int .i64 ((wrap64 (((IntKind.i64.wrap (x42490.tdiv 3)).tmod (l41898.length : Int)) + (l41898.length : Int))).tmod (l41898.length : Int))), (17, .int .i64 x42602.f0), (18, .pointer (some ⟨g42619, 0, none⟩)), (19, .pointer (some ⟨g42620, 0, none⟩)), (20, .int .i64 t42615), (67, (.slice (some ad42491) l1.length n42492)), (68, .int .i64 (l1.length : Int)), (69, .int .i64 i41895), (70, .bool true), (71, .int .i64 i41895), (73, .int .i64 x42490), (74, .pointer (some ⟨g3, 0, none⟩)), (75, (.slice (some ad42603) l41898.length n42604)), (76, .int .i64 (l41898.length : Int)), (77, .int .i64 i41895), (78, .bool q42596), (79, .bool q42597), (82, .bool false), (83, .int .i64 x42490), (84, .int .i64 (IntKind.i64.wrap (x42490.tdiv 3))), (85, .int .i64 (l41898.length : Int)), (86, .int .i64 ((IntKind.i64.wrap (x42490.tdiv 3)).tmod (l41898.length : Int))), (87, .int .i64 (l41898.length : Int)), (88, .int .i64 (wrap64 (((IntKind.i64.wrap (x42490.tdiv 3)).tmod (l41898.length : Int)) + (l41898.length : Int)))), (89, .int .i64 (l41898.length : Int)), (90, .int .i64 ((wrap64 (((IntKind.i64.wrap (x42490.tdiv 3)).tmod (l41898.length : Int)) + (l41898.length : Int))).tmod (l41898.length : Int))), (91, .pointer (some ⟨g3, 0, none⟩)), (92, (.slice (some ad42603) l41898.length n42604)), (93, .int .i64 ((wrap64 (((IntKind.i64.wrap (x42490.tdiv 3)).tmod (l41898.length : Int)) + (l41898.length : Int))).tmod (l41898.length : Int))), (96, .int .i64 x42602.f0), (97, .int .i64 x42490), (98, .int .i64 (x42490.tmod 3)), (99, .int .i64 (wrap64 ((x42490.tmod 3) + 3))), (100, .int .i64 ((wrap64 ((x42490.tmod 3) + 3)).tmod 3)), (110, .bool true), (111, .bool true), (112, .tuple #[.agg #[v42618, .int .i64 t42608], .agg #[.int .i64 t42609, .bool t42610, .int .i64 t42611, .int .i64 t42612, .int .i64 t42613, .bool t42614], .int .i64 t42615]), (113, .agg #[(.slice (some ad42603) l41898.length n42604), .int .i64 i41899]), (114, .int .i64 ((wrap64 (((IntKind.i64.wrap (x42490.tdiv 3)).tmod (l41898.length : Int)) + (l41898.length : Int))).tmod (l41898.length : Int))), (115, .tuple #[.agg #[v42618, .int .i64 t42608], .agg #[.int .i64 t42609, .bool t42610, .int .i64 t42611, .int .i64 t42612, .int .i64 t42613, .bool t42614], .int .i64 t42615]), (116, .agg #[v42618, .int .i64 t42608]), (117, .agg #[.int .i64 t42609, .bool t42610, .int .i64 t42611, .int .i64 t42612, .int .i64 t42613, .bool t42614]), (118, .int .i64 t42615), (119, .int .i64 t42615), (120, .bool false), (121, .bool false), (122, .int .i64 x42602.f0), (123, .bool false), (124, .bool false), (125, .bool false), (126, .int .i64 x42602.f0), (127, v36916), (128, .int .i64 (l36917.length : Int)), (129, .bool true), (130, .bool true), (131, .bool true), (132, undef), (133, undef), (134, undef), (135, undef), (136, undef), (137, undef), (138, undef), (139, .bool true), (140, .bool true), (141, undef), (142, undef), (143, undef), (144, undef), (145, .bool true)], [.row v42618 6 (r42607.map enc25), .mp g4 (menc mI mI mp41900), .row (.slice (some ad42491) l1.length n42492) 1 (l1.map enc_inti64), .row (.slice (some ad42603) l41898.length n42604) 6 (l41898.map enc25)], [(g42620, 26, [.int .i64 t42609, .bool t42610, .int .i64 t42611, .int .i64 t42612, .int .i64 t42613, .bool t42614]), (g42619, 24, [v42618, .int .i64 t42608]), (g3, 24, [(.slice (some ad42603) l41898.length n42604), .int .i64 i41899])], [(v36916, 26, 6, l36917.map enc25)]⟩) (True) ?_ ?_
                      · refine VC.draw ⟨0, [], [], [], [(v36916, 26, 6, l36917.map enc25)]⟩ (by kernel_rfl) rfl (by kernel_rfl) (n := 27) (listed := LB 27 0) ?_
                        refine VA.va (i := 0) (listed' := LB 27 1) rfl (op_move rfl (ltn rfl)) rfl (by kernel_rfl) (by kernel_rfl) (by kernel_rfl) (by kernel_rfl) ⟨trivial, trivial, ⟨⟨0, rfl⟩, trivial⟩⟩ (fun _ _ _ h => h) ?_
                        refine VA.va (i := 1) (listed' := LB 27 3) rfl (op_cmp rfl rfl (congrArg some hb42633) (ltn rfl)) rfl (by kernel_rfl) (by kernel_rfl) (by kernel_rfl) (by kernel_rfl) ⟨trivial, trivial, ⟨⟨0, rfl⟩, trivial⟩⟩ (fun _ _ _ h => h) ?_
                        refine VA.va (i := 2) (listed' := LB 27 7) rfl (op_move rfl (ltn rfl)) rfl (by kernel_rfl) (by kernel_rfl) (by kernel_rfl) (by kernel_rfl) ⟨trivial, trivial, ⟨⟨0, rfl⟩, trivial⟩⟩ (fun _ _ _ h => h) ?_
                        refine VA.va (i := 3) (listed' := LB 27 15) rfl (op_move rfl (ltn rfl)) rfl (by kernel_rfl) (by kernel_rfl) (by kernel_rfl) (by kernel_rfl) ⟨trivial, trivial, ⟨⟨0, rfl⟩, trivial⟩⟩ (fun _ _ _ h => h) ?_
                        refine VA.va (i := 4) (listed' := LB 27 31) rfl (op_cmp rfl rfl (congrArg some hb42635) (ltn rfl)) rfl (by kernel_rfl) (by kernel_rfl) (by kernel_rfl) (by kernel_rfl) ⟨trivial, trivial, ⟨⟨0, rfl⟩, trivial⟩⟩ (fun _ _ _ h => h) ?_
                        refine VA.va (i := 5) (listed' := LB 27 63) rfl (op_pick rfl rfl (ltn rfl)) rfl (by kernel_rfl) (by kernel_rfl) (by kernel_rfl) (by kernel_rfl) ⟨trivial, trivial, ⟨⟨0, rfl⟩, trivial⟩⟩ (fun _ _ _ h => h) ?_
                        refine VA.va (i := 6) (listed' := LB 27 127) rfl (op_move rfl (ltn rfl)) rfl (by kernel_rfl) (by kernel_rfl) (by kernel_rfl) (by kernel_rfl) ⟨trivial, trivial, ⟨⟨0, rfl⟩, trivial⟩⟩ (fun _ _ _ h => h) ?_
                        refine VA.va (i := 7) (listed' := LB 27 255) rfl (op_move rfl (ltn rfl)) rfl (by kernel_rfl) (by kernel_rfl) (by kernel_rfl) (by kernel_rfl) ⟨trivial, trivial, ⟨⟨0, rfl⟩, trivial⟩⟩ (fun _ _ _ h => h) ?_
                        refine VA.va (i := 8) (listed' := LB 27 511) rfl (op_move rfl (ltn rfl)) rfl (by kernel_rfl) (by kernel_rfl) (by kernel_rfl) (by kernel_rfl) ⟨trivial, trivial, ⟨⟨0, rfl⟩, trivial⟩⟩ (fun _ _ _ h => h) ?_
                        refine VA.va (i := 9) (listed' := LB 27 1023) rfl (op_len_own (m := l36917.length) 0 lenm Try.underlying22 rfl rfl (ltn rfl)) rfl (by kernel_rfl) (by kernel_rfl) (by kernel_rfl) (by kernel_rfl) ⟨trivial, trivial, ⟨⟨0, rfl⟩, trivial⟩⟩ (fun _ _ _ h => h) ?_
                        refine VA.va (i := 10) (listed' := LB 27 2047) rfl (op_cmp rfl rfl (congrArg some hb42637) (ltn rfl)) rfl (by kernel_rfl) (by kernel_rfl) (by kernel_rfl) (by kernel_rfl) ⟨trivial, trivial, ⟨⟨0, rfl⟩, trivial⟩⟩ (fun _ _ _ h => h) ?_
                        refine VA.va (i := 11) (listed' := LB 27 4095) rfl (op_pick rfl rfl (ltn rfl)) rfl (by kernel_rfl) (by kernel_rfl) (by kernel_rfl) (by kernel_rfl) ⟨trivial, trivial, ⟨⟨0, rfl⟩, trivial⟩⟩ (fun _ _ _ h => h) ?_
                        refine VA.va (i := 12) (listed' := LB 27 8191) rfl (op_move rfl (ltn rfl)) rfl (by kernel_rfl) (by kernel_rfl) (by kernel_rfl) (by kernel_rfl) ⟨trivial, trivial, ⟨⟨0, rfl⟩, trivial⟩⟩ (fun _ _ _ h => h) ?_
                        refine VA.un (i := 13) (listed' := LB 27 16383) rfl rfl rfl (ltn rfl) (by kernel_rfl) (by kernel_rfl) (by kernel_rfl) (by kernel_rfl) ⟨trivial, trivial, ⟨⟨0, rfl⟩, trivial⟩⟩ (fun _ _ _ h => h) ?_
                        refine VA.un (i := 14) (listed' := LB 27 32767) rfl rfl rfl (ltn rfl) (by kernel_rfl) (by kernel_rfl) (by kernel_rfl) (by kernel_rfl) ⟨trivial, trivial, ⟨⟨0, rfl⟩, trivial⟩⟩ (fun _ _ _ h => h) ?_
                        refine VA.un (i := 15) (listed' := LB 27 65535) rfl rfl rfl (ltn rfl) (by kernel_rfl) (by kernel_rfl) (by kernel_rfl) (by kernel_rfl) ⟨trivial, trivial, ⟨⟨0, rfl⟩, trivial⟩⟩ (fun _ _ _ h => h) ?_
                        refine VA.un (i := 16) (listed' := LB 27 131071) rfl rfl rfl (ltn rfl) (by kernel_rfl) (by kernel_rfl) (by kernel_rfl) (by kernel_rfl) ⟨trivial, trivial, ⟨⟨0, rfl⟩, trivial⟩⟩ (fun _ _ _ h => h) ?_
                        refine VA.un (i := 17) (listed' := LB 27 262143) rfl rfl rfl (ltn rfl) (by kernel_rfl) (by kernel_rfl) (by kernel_rfl) (by kernel_rfl) ⟨trivial, trivial, ⟨⟨0, rfl⟩, trivial⟩⟩ (fun _ _ _ h => h) ?_
                        refine VA.un (i := 18) (listed' := LB 27 524287) rfl rfl rfl (ltn rfl) (by kernel_rfl) (by kernel_rfl) (by kernel_rfl) (by kernel_rfl) ⟨trivial, trivial, ⟨⟨0, rfl⟩, trivial⟩⟩ (fun _ _ _ h => h) ?_
                        refine VA.un (i := 19) (listed' := LB 27 1048575) rfl rfl rfl (ltn rfl) (by kernel_rfl) (by kernel_rfl) (by kernel_rfl) (by kernel_rfl) ⟨trivial, trivial, ⟨⟨0, rfl⟩, trivial⟩⟩ (fun _ _ _ h => h) ?_
                        refine VA.va (i := 20) (listed' := LB 27 2097151) rfl (op_pick rfl rfl (ltn rfl)) rfl (by kernel_rfl) (by kernel_rfl) (by kernel_rfl) (by kernel_rfl) ⟨trivial, trivial, ⟨⟨0, rfl⟩, trivial⟩⟩ (fun _ _ _ h => h) ?_
                        refine VA.va (i := 21) (listed' := LB 27 4194303) rfl (op_move rfl (ltn rfl)) rfl (by kernel_rfl) (by kernel_rfl) (by kernel_rfl) (by kernel_rfl) ⟨trivial, trivial, ⟨⟨0, rfl⟩, trivial⟩⟩ (fun _ _ _ h => h) ?_
                        refine VA.un (i := 22) (listed' := LB 27 8388607) rfl rfl rfl (ltn rfl) (by kernel_rfl) (by kernel_rfl) (by kernel_rfl) (by kernel_rfl) ⟨trivial, trivial, ⟨⟨0, rfl⟩, trivial⟩⟩ (fun _ _ _ h => h) ?_
                        refine VA.un (i := 23) (listed' := LB 27 16777215) rfl rfl rfl (ltn rfl) (by kernel_rfl) (by kernel_rfl) (by kernel_rfl) (by kernel_rfl) ⟨trivial, trivial, ⟨⟨0, rfl⟩, trivial⟩⟩ (fun _ _ _ h => h) ?_
                        refine VA.un (i := 24) (listed' := LB 27 33554431) rfl rfl rfl (ltn rfl) (by kernel_rfl) (by kernel_rfl) (by kernel_rfl) (by kernel_rfl) ⟨trivial, trivial, ⟨⟨0, rfl⟩, trivial⟩⟩ (fun _ _ _ h => h) ?_
                        refine VA.un (i := 25) (listed' := LB 27 67108863) rfl rfl rfl (ltn rfl) (by kernel_rfl) (by kernel_rfl) (by kernel_rfl) (by kernel_rfl) ⟨trivial, trivial, ⟨⟨0, rfl⟩, trivial⟩⟩ (fun _ _ _ h => h) ?_
                        refine VA.va (i := 26) (listed' := LB 27 134217727) rfl (op_pick rfl rfl (ltn rfl)) rfl (by kernel_rfl) (by kernel_rfl) (by kernel_rfl) (by kernel_rfl) ⟨trivial, trivial, ⟨⟨0, rfl⟩, trivial⟩⟩ (fun _ _ _ h => h) ?_
                        refine VA.done (by kernel_rfl) ?_
                        exact VN.meet0  [0, 1, 2] [0] trivial ⟨rfl, ⟨rfl, rfl, rfl, rfl, rfl, rfl, rfl, rfl, rfl, rfl, rfl, rfl, rfl, rfl, rfl, rfl, rfl, rfl, rfl, rfl, rfl, rfl, rfl, rfl, rfl, rfl, rfl, rfl, rfl, rfl, rfl, rfl, rfl, rfl, rfl, rfl, rfl, rfl, rfl, rfl, rfl, rfl, rfl, rfl, rfl, rfl, rfl, rfl, rfl, rfl, rfl, rfl, rfl, rfl, rfl, rfl, rfl, rfl, rfl, rfl, rfl, rfl, rfl, rfl, rfl, rfl, rfl, rfl, rfl, rfl, rfl, rfl, rfl, rfl, rfl, rfl, rfl, trivial⟩, ⟨⟨0, rfl⟩, ⟨1, rfl⟩, ⟨2, rfl⟩, ⟨3, rfl⟩, trivial⟩, rfl, by decide, rfl, by decide⟩
                      intro _
                      refine VC.cond_t rfl ?_
                      refine VC.seq ?_
                      refine VC.region ?_
                      refine VL.va (op_assign rfl (ltn rfl)) rfl ?_
                      refine VL.done ?_
                      refine VN.then ?_
                      refine VC.ret ?_
                      refine VR.then ?_
                      refine VR.block ?_
                      refine VR.block ?_
                      refine VR.then ?_
                      refine VR.then ?_
                      refine VR.block ?_
                      refine VR.then ?_
                      cases h
                    · rw [if_neg c42638] at h
                      obtain rfl : b42637 = false := hb42637.symm.trans (decide_eq_false c42638)
                      by_cases c42639 : 0 ≤ wrap64 (x42602.f0 - 1)
                      · rw [if_pos c42639] at h
                        replace h := Option.bind_eq_some_iff.1 h
                        obtain ⟨x42640, hx42640, h⟩ := h
                        refine VC.letter ((!(((t42609 == x42640.f0) && ((t42610 == x42640.f1) && ((t42611 == x42640.f2) && ((t42612 == x42640.f3) && ((t42613 == x42640.f4) && (t42614 == x42640.f5))))))))) fun b42641 hb42641 => ?_
                        by_cases c42642 : (((t42609 == x42640.f0) && ((t42610 == x42640.f1) && ((t42611 == x42640.f2) && ((t42612 == x42640.f3) && ((t42613 == x42640.f4) && (t42614 == x42640.f5))))))) = true
                        · rw [if_pos c42642] at h
                          obtain rfl : b42641 = false := hb42641.symm.trans (not_t c42642)
                          refine VC.letter (decide ((mget mp41900 x42602.f0 0) < 1)) fun b42643 hb42643 => ?_
                          refine VC.openR (m := l36917.length) 0 lenm rfl (pos_get hx42640) ?_
                          rintro g36964 n36965 rfl
                          refine VC.join0 (⟨199, [(4, .bool false), (5, .pointer (some ⟨g3, 0, none⟩)), (6, (.slice (some ⟨g36964, 0, none⟩) l36917.length n36965)), (7, .map (some g4)), (13, .int .i64 i41895), (14, .int .i64 x42490), (15, .int .i64 (l41898.length : Int)), (16, .int .i64 ((wrap64 (((IntKind.i64.wrap (x42490.tdiv 3)).tmod (l41898.length : Int)) + (l41898.length : Int))).tmod (l41898.length : Int))), (17, .int .i64 x42602.f0), (18, .pointer (some ⟨g42619, 0, none⟩)), (19, .pointer (some ⟨g42620, 0, none⟩)), (20, .int .i64 t42615), (67, (.slice (some ad42491) l1.length n42492)), (68, .int .i64 (l1.length : Int)), (69, .int .i64 i41895), (70, .bool true), (71, .int .i64 i41895), (73, .int .i64 x42490), (74, .pointer (some ⟨g3, 0, none⟩)), (75, (.slice (some ad42603) l41898.length n42604)), (76, .int .i64 (l41898.length : Int)), (77, .int .i64 i41895), (78, .bool q42596), (79, .bool q42597), (82, .bool false), (83, .int .i64 x42490), (84, .int .i64 (IntKind.i64.wrap (x42490.tdiv 3))), (85, .int .i64 (l41898.length : Int)), (86, .int .i64 ((IntKind.i64.wrap (x42490.tdiv 3)).tmod (l41898.length : Int))), (87, .int .i64 (l41898.length : Int)), (88, .int .i64 (wrap64 (((IntKind.i64.wrap (x42490.tdiv 3)).tmod (l41898.length : Int)) + (l41898.length : Int)))), (89, .int .i64 (l41898.length : Int)), (90, .int .i64 ((wrap64 (((IntKind.i64.wrap (x42490.tdiv 3)).tmod (l41898.length : Int)) + (l41898.length : Int))).tmod (l41898.length : Int))), (91, .pointer (some ⟨g3, 0, none⟩)), (92, (.slice (some ad42603) l41898.length n42604)), (93, .int .i64 ((wrap64 (((IntKind.i64.wrap (x42490.tdiv 3)).tmod (l41898.length : Int)) + (l41898.length : Int))).tmod (l41898.length : Int))), (96, .int .i64 x42602.f0), (97, .int .i64 x42490), (98, .int .i64 (x42490.tmod 3)), (99, .int .i64 (wrap64 ((x42490.tmod 3) + 3))), (100, .int .i64 ((wrap64 ((x42490.tmod 3) + 3)).tmod 3)), (110, .bool true), (111, .bool true), (112, .tuple #[.agg #[v42618, .int .i64 t42608], .agg #[.int .i64 t42609, .bool t42610, .int .i64 t42611, .int .i64 t42612, .int .i64 t42613, .bool t42614], .int .i64 t42615]), (113, .agg #[(.slice (some ad42603) l41898.length n42604), .int .i64 i41899]), (114, .int .i64 ((wrap64 (((IntKind.i64.wrap (x42490.tdiv 3)).tmod (l41898.length : Int)) + (l41898.length : Int))).tmod (l41898.length : Int))), (115, .tuple #[.agg #[v42618, .int .i64 t42608], .agg #[.int .i64 t42609, .bool t42610, .int .i64 t42611, .int .i64 t42612, .int .i64 t42613, .bool t42614], .int .i64 t42615]), (116, .agg #[v42618, .int .i64 t42608]), (117, .agg #[.int .i64 t42609, .bool t42610, .int .i64 t42611, .int .i64 t42612, .int .i64 t42613, .bool t42614]), (118, .int .i64 t42615), (119, .int .i64 t42615), (120, .bool false), (121, .bool false), (122, .int .i64 x42602.f0), (123, .bool false), (124, .bool false), (125, .bool false), (126, .int .i64 x42602.f0), (127, (.slice (some ⟨g36964, 0, none⟩) l36917.length n36965)), (128, .int .i64 (l36917.length : Int)), (129, .bool false), (130, .bool false), (131, .bool false), (132, .agg #[.int .i64 t42609, .bool t42610, .int .i64 t42611, .int .i64 t42612, .int .i64 t42613, .bool t42614]), (133, (.slice (some ⟨g36964, 0, none⟩) l36917.length n36965)), (134, .int .i64 x42602.f0), (135, .int .i64 (wrap64 (x42602.f0 - 1))), (137, .agg #[.int .i64 x42640.f0, .bool x42640.f1, .int .i64 x42640.f2, .int .i64 x42640.f3, .int .i64 x42640.f4, .bool x42640.f5]), (138, .bool false), (139, .bool false), (140, .bool false), (141, .map (some g4)), (142, .int .i64 x42602.f0), (143, .int .i64 (mget mp41900 x42602.f0 0)), (144, .bool b42643), (145, .bool b42643)], [.row v42618 6 (r42607.map enc25), .mp g4 (menc mI mI mp41900), .row (.slice (some ad42491) l1.length n42492) 1 (l1.map enc_inti64), .row (.slice (some ad42603) l41898.length n42604) 6 (l41898.map enc25)], [(g42620, 26, [.int .i64 t42609, .bool t42610, .int .i64 t42611, .int .i64 t42612, .int .i64 t42613, .bool t42614]), (g42619, 24, [v42618, .int .i64 t42608]), (g3, 24, [(.slice (some ad42603) l41898.length n42604), .int .i64 i41899])], [((.slice (some ⟨g36964, 0, none⟩) l36917.length n36965), 26, 6, l36917.map enc25)]⟩) (True) ?_ ?_
                          · refine VC.draw ⟨0, [], [.mp g4 (menc mI mI mp41900)], [(g42620, 26, [.int .i64 t42609, .bool t42610, .int .i64 t42611, .int .i64 t42612, .int .i64 t42613, .bool t42614])], [((.slice (some ⟨g36964, 0, none⟩) l36917.length n36965), 26, 6, l36917.map enc25)]⟩ (by kernel_rfl) rfl (by kernel_rfl) (n := 27) (listed := LB 27 0) ?_
                            refine VA.va (i := 0) (listed' := LB 27 1) rfl (op_move rfl (ltn rfl)) rfl (by kernel_rfl) (by kernel_rfl) (by kernel_rfl) (by kernel_rfl) ⟨⟨⟨1, rfl⟩, trivial⟩, ⟨⟨0, rfl⟩, trivial⟩, ⟨⟨0, rfl⟩, trivial⟩⟩ (fun _ _ _ h => h) ?_
                            refine VA.va (i := 1) (listed' := LB 27 3) rfl (op_cmp rfl rfl (congrArg some hb42633) (ltn rfl)) rfl (by kernel_rfl) (by kernel_rfl) (by kernel_rfl) (by kernel_rfl) ⟨⟨⟨1, rfl⟩, trivial⟩, ⟨⟨0, rfl⟩, trivial⟩, ⟨⟨0, rfl⟩, trivial⟩⟩ (fun _ _ _ h => h) ?_
                            refine VA.va (i := 2) (listed' := LB 27 7) rfl (op_move rfl (ltn rfl)) rfl (by kernel_rfl) (by kernel_rfl) (by kernel_rfl) (by kernel_rfl) ⟨⟨⟨1, rfl⟩, trivial⟩, ⟨⟨0, rfl⟩, trivial⟩, ⟨⟨0, rfl⟩, trivial⟩⟩ (fun _ _ _ h => h) ?_
                            refine VA.va (i := 3) (listed' := LB 27 15) rfl (op_move rfl (ltn rfl)) rfl (by kernel_rfl) (by kernel_rfl) (by kernel_rfl) (by kernel_rfl) ⟨⟨⟨1, rfl⟩, trivial⟩, ⟨⟨0, rfl⟩, trivial⟩, ⟨⟨0, rfl⟩, trivial⟩⟩ (fun _ _ _ h => h) ?_
                            refine VA.va (i := 4) (listed' := LB 27 31) rfl (op_cmp rfl rfl (congrArg some hb42635) (ltn rfl)) rfl (by kernel_rfl) (by kernel_rfl) (by kernel_rfl) (by kernel_rfl) ⟨⟨⟨1, rfl⟩, trivial⟩, ⟨⟨0, rfl⟩, trivial⟩, ⟨⟨0, rfl⟩, trivial⟩⟩ (fun _ _ _ h => h) ?_
                            refine VA.va (i := 5) (listed' := LB 27 63) rfl (op_pick rfl rfl (ltn rfl)) rfl (by kernel_rfl) (by kernel_rfl) (by kernel_rfl) (by kernel_rfl) ⟨⟨⟨1, rfl⟩, trivial⟩, ⟨⟨0, rfl⟩, trivial⟩, ⟨⟨0, rfl⟩, trivial⟩⟩ (fun _ _ _ h => h) ?_
                            refine VA.va (i := 6) (listed' := LB 27 127) rfl (op_move rfl (ltn rfl)) rfl (by kernel_rfl) (by kernel_rfl) (by kernel_rfl) (by kernel_rfl) ⟨⟨⟨1, rfl⟩, trivial⟩, ⟨⟨0, rfl⟩, trivial⟩, ⟨⟨0, rfl⟩, trivial⟩⟩ (fun _ _ _ h => h) ?_
                            refine VA.va (i := 7) (listed' := LB 27 255) rfl (op_move rfl (ltn rfl)) rfl (by kernel_rfl) (by kernel_rfl) (by kernel_rfl) (by kernel_rfl) ⟨⟨⟨1, rfl⟩, trivial⟩, ⟨⟨0, rfl⟩, trivial⟩, ⟨⟨0, rfl⟩, trivial⟩⟩ (fun _ _ _ h => h) ?_
                            refine VA.va (i := 8) (listed' := LB 27 511) rfl (op_move rfl (ltn rfl)) rfl (by kernel_rfl) (by kernel_rfl) (by kernel_rfl) (by kernel_rfl) ⟨⟨⟨1, rfl⟩, trivial⟩, ⟨⟨0, rfl⟩, trivial⟩, ⟨⟨0, rfl⟩, trivial⟩⟩ (fun _ _ _ h => h) ?_
                            refine VA.va (i := 9) (listed' := LB 27 1023) rfl (op_len_own (m := l36917.length) 0 lenm Try.underlying22 rfl rfl (ltn rfl)) rfl (by kernel_rfl) (by kernel_rfl) (by kernel_rfl) (by kernel_rfl) ⟨⟨⟨1, rfl⟩, trivial⟩, ⟨⟨0, rfl⟩, trivial⟩, ⟨⟨0, rfl⟩, trivial⟩⟩ (fun _ _ _ h => h) ?_
                            refine VA.va (i := 10) (listed' := LB 27 2047) rfl (op_cmp rfl rfl (congrArg some hb42637) (ltn rfl)) rfl (by kernel_rfl) (by kernel_rfl) (by kernel_rfl) (by kernel_rfl) ⟨⟨⟨1, rfl⟩, trivial⟩, ⟨⟨0, rfl⟩, trivial⟩, ⟨⟨0, rfl⟩, trivial⟩⟩ (fun _ _ _ h => h) ?_
                            refine VA.va (i := 11) (listed' := LB 27 4095) rfl (op_pick rfl rfl (ltn rfl)) rfl (by kernel_rfl) (by kernel_rfl) (by kernel_rfl) (by kernel_rfl) ⟨⟨⟨1, rfl⟩, trivial⟩, ⟨⟨0, rfl⟩, trivial⟩, ⟨⟨0, rfl⟩, trivial⟩⟩ (fun _ _ _ h => h) ?_
                            refine VA.va (i := 12) (listed' := LB 27 8191) rfl (op_move rfl (ltn rfl)) rfl (by kernel_rfl) (by kernel_rfl) (by kernel_rfl) (by kernel_rfl) ⟨⟨⟨1, rfl⟩, trivial⟩, ⟨⟨0, rfl⟩, trivial⟩, ⟨⟨0, rfl⟩, trivial⟩⟩ (fun _ _ _ h => h) ?_
                            refine VA.va (i := 13) (listed' := LB 27 16383) rfl (op_load 0 6 rfl rfl TI26 rfl (fun h => absurd h (by decide)) (ltn rfl)) rfl (by kernel_rfl) (by kernel_rfl) (by kernel_rfl) (by kernel_rfl) ⟨⟨⟨1, rfl⟩, trivial⟩, ⟨⟨0, rfl⟩, trivial⟩, ⟨⟨0, rfl⟩, trivial⟩⟩ (fun _ _ _ h => h) ?_
                            refine VA.va (i := 14) (listed' := LB 27 32767) rfl (op_move rfl (ltn rfl)) rfl (by kernel_rfl) (by kernel_rfl) (by kernel_rfl) (by kernel_rfl) ⟨⟨⟨1, rfl⟩, trivial⟩, ⟨⟨0, rfl⟩, trivial⟩, ⟨⟨0, rfl⟩, trivial⟩⟩ (fun _ _ _ h => h) ?_
                            refine VA.va (i := 15) (listed' := LB 27 65535) rfl (op_move rfl (ltn rfl)) rfl (by kernel_rfl) (by kernel_rfl) (by kernel_rfl) (by kernel_rfl) ⟨⟨⟨1, rfl⟩, trivial⟩, ⟨⟨0, rfl⟩, trivial⟩, ⟨⟨0, rfl⟩, trivial⟩⟩ (fun _ _ _ h => h) ?_
                            refine VA.va (i := 16) (listed' := LB 27 131071) rfl (op_ari64 rfl rfl rfl (ltn rfl)) rfl (by kernel_rfl) (by kernel_rfl) (by kernel_rfl) (by kernel_rfl) ⟨⟨⟨1, rfl⟩, trivial⟩, ⟨⟨0, rfl⟩, trivial⟩, ⟨⟨0, rfl⟩, trivial⟩⟩ (fun _ _ _ h => h) ?_
                            refine VA.va (i := 17) (listed' := LB 27 262143) rfl (op_indexAddr Try.underlying22 TI26 rfl rfl c42639 (lt_get c42639 hx42640) (add_zero_at _ _) (ltn rfl)) rfl (by kernel_rfl) (by kernel_rfl) (by kernel_rfl) (by kernel_rfl) ⟨⟨⟨1, rfl⟩, trivial⟩, ⟨⟨0, rfl⟩, trivial⟩, ⟨⟨0, rfl⟩, trivial⟩⟩ (fun _ _ _ h => h) ?_
                            refine VA.va (i := 18) (listed' := LB 27 524287) rfl (op_load_own (sz := 6) (o := 0) 0 (wrap64 (x42602.f0 - 1)).toNat 6 rfl rfl (get_map hx42640) TI26 rfl (fun h => absurd h (by decide)) (ltn rfl)) rfl (by kernel_rfl) (by kernel_rfl) (by kernel_rfl) (by kernel_rfl) ⟨⟨⟨1, rfl⟩, trivial⟩, ⟨⟨0, rfl⟩, trivial⟩, ⟨⟨0, rfl⟩, trivial⟩⟩ (fun _ _ _ h => h) ?_
                            refine VA.va (i := 19) (listed' := LB 27 1048575) rfl (op_neS rfl rfl EG26 (EQ26 t42609 t42610 t42611 t42612 t42613 t42614 x42640.f0 x42640.f1 x42640.f2 x42640.f3 x42640.f4 x42640.f5) hb42641 (ltn rfl)) rfl (by kernel_rfl) (by kernel_rfl) (by kernel_rfl) (by kernel_rfl) ⟨⟨⟨1, rfl⟩, trivial⟩, ⟨⟨0, rfl⟩, trivial⟩, ⟨⟨0, rfl⟩, trivial⟩⟩ (fun _ _ _ h => h) ?_
                            refine VA.va (i := 20) (listed' := LB 27 2097151) rfl (op_pick rfl rfl (ltn rfl)) rfl (by kernel_rfl) (by kernel_rfl) (by kernel_rfl) (by kernel_rfl) ⟨⟨⟨1, rfl⟩, trivial⟩, ⟨⟨0, rfl⟩, trivial⟩, ⟨⟨0, rfl⟩, trivial⟩⟩ (fun _ _ _ h => h) ?_
                            refine VA.va (i := 21) (listed' := LB 27 4194303) rfl (op_move rfl (ltn rfl)) rfl (by kernel_rfl) (by kernel_rfl) (by kernel_rfl) (by kernel_rfl) ⟨⟨⟨1, rfl⟩, trivial⟩, ⟨⟨0, rfl⟩, trivial⟩, ⟨⟨0, rfl⟩, trivial⟩⟩ (fun _ _ _ h => h) ?_
                            refine VA.va (i := 22) (listed' := LB 27 8388607) rfl (op_move rfl (ltn rfl)) rfl (by kernel_rfl) (by kernel_rfl) (by kernel_rfl) (by kernel_rfl) ⟨⟨⟨1, rfl⟩, trivial⟩, ⟨⟨0, rfl⟩, trivial⟩, ⟨⟨0, rfl⟩, trivial⟩⟩ (fun _ _ _ h => h) ?_
                            refine VA.va (i := 23) (listed' := LB 27 16777215) rfl (op_move rfl (ltn rfl)) rfl (by kernel_rfl) (by kernel_rfl) (by kernel_rfl) (by kernel_rfl) ⟨⟨⟨1, rfl⟩, trivial⟩, ⟨⟨0, rfl⟩, trivial⟩, ⟨⟨0, rfl⟩, trivial⟩⟩ (fun _ _ _ h => h) ?_
                            refine VA.va (i := 24) (listed' := LB 27 33554431) rfl (op_lookup (ke := mI) (ve := mI) (m := mp41900) (dv := 0) (k := x42602.f0) 0 Try.underlying41 MK3 Z3 rfl rfl rfl (ltn rfl)) rfl (by kernel_rfl) (by kernel_rfl) (by kernel_rfl) (by kernel_rfl) ⟨⟨⟨1, rfl⟩, trivial⟩, ⟨⟨0, rfl⟩, trivial⟩, ⟨⟨0, rfl⟩, trivial⟩⟩ (fun _ _ _ h => h) ?_
                            refine VA.va (i := 25) (listed' := LB 27 67108863) rfl (op_cmp rfl rfl (congrArg some hb42643) (ltn rfl)) rfl (by kernel_rfl) (by kernel_rfl) (by kernel_rfl) (by kernel_rfl) ⟨⟨⟨1, rfl⟩, trivial⟩, ⟨⟨0, rfl⟩, trivial⟩, ⟨⟨0, rfl⟩, trivial⟩⟩ (fun _ _ _ h => h) ?_
                            refine VA.va (i := 26) (listed' := LB 27 134217727) rfl (op_pick rfl rfl (ltn rfl)) rfl (by kernel_rfl) (by kernel_rfl) (by kernel_rfl) (by kernel_rfl) ⟨⟨⟨1, rfl⟩, trivial⟩, ⟨⟨0, rfl⟩, trivial⟩, ⟨⟨0, rfl⟩, trivial⟩⟩ (fun _ _ _ h => h) ?_
                            refine VA.done (by kernel_rfl) ?_
                            exact VN.meet0  [0, 1, 2] [0] trivial ⟨rfl, ⟨rfl, rfl, rfl, rfl, rfl, rfl, rfl, rfl, rfl, rfl, rfl, rfl, rfl, rfl, rfl, rfl, rfl, rfl, rfl, rfl, rfl, rfl, rfl, rfl, rfl, rfl, rfl, rfl, rfl, rfl, rfl, rfl, rfl, rfl, rfl, rfl, rfl, rfl, rfl, rfl, rfl, rfl, rfl, rfl, rfl, rfl, rfl, rfl, rfl, rfl, rfl, rfl, rfl, rfl, rfl, rfl, rfl, rfl, rfl, rfl, rfl, rfl, rfl, rfl, rfl, rfl, rfl, rfl, rfl, rfl, rfl, rfl, rfl, rfl, rfl, rfl, trivial⟩, ⟨⟨0, rfl⟩, ⟨1, rfl⟩, ⟨2, rfl⟩, ⟨3, rfl⟩, trivial⟩, rfl, by decide, rfl, by decide⟩
                          intro _
                          by_cases c42644 : (mget mp41900 x42602.f0 0) < 1
                          · rw [if_pos c42644] at h
                            obtain rfl : b42643 = true := hb42643.symm.trans (decide_eq_true c42644)
                            refine VC.cond_t rfl ?_
                            refine VC.seq ?_
                            refine VC.region ?_
                            refine VL.va (op_assign rfl (ltn rfl)) rfl ?_
                            refine VL.done ?_
                            refine VN.then ?_
                            refine VC.ret ?_
                            refine VR.then ?_
                            refine VR.block ?_
                            refine VR.block ?_
                            refine VR.then ?_
                            refine VR.then ?_
                            refine VR.block ?_
                            refine VR.then ?_
                            cases h
                          · rw [if_neg c42644] at h
                            obtain rfl : b42643 = false := hb42643.symm.trans (decide_eq_false c42644)
                            refine VC.cond_f rfl ?_
                            refine VC.skip ?_
                            refine VN.then ?_
                            refine VC.seq ?_
                            refine VC.region ?_
                            refine VL.va (op_load 1 2 rfl rfl TI24 rfl (fun h => absurd h (by decide)) (ltn rfl)) rfl ?_
                            refine VL.step1 (o_store 2 2 rfl rfl rfl TI24 (.agg (.f 0 rfl (.c rfl .nil))) rfl (len rfl)) rfl ?_
                            refine VL.done ?_
                            refine VN.then ?_
                            refine VC.region ?_
                            refine VL.va (op_move rfl (ltn rfl)) rfl ?_
                            refine VL.va (op_move rfl (ltn rfl)) rfl ?_
                            refine VL.va (op_lookup (ke := mI) (ve := mI) (m := mp41900) (dv := 0) (k := x42602.f0) 1 Try.underlying41 MK3 Z3 rfl rfl rfl (ltn rfl)) rfl ?_
                            refine VL.va (op_ari64 rfl rfl rfl (ltn rfl)) rfl ?_
                            refine VL.step1 (o_mapUpdate (ke := mI) (ve := mI) (m := mp41900) (k := x42602.f0) (v' := (wrap64 ((mget mp41900 x42602.f0 0) - 1))) 1 Try.underlying41 MK3 hbg4 rfl ⟨trivial, trivial, trivial, trivial⟩ rfl rfl rfl) rfl ?_
                            refine VL.done ?_
                            refine VN.block ?_
                            refine VN.block ?_
                            refine VN.then ?_
                            refine VC.region ?_
                            refine VL.va (op_ari64 rfl rfl rfl (ltn rfl)) rfl ?_
                            refine VL.va (op_move rfl (ltn rfl)) rfl ?_
                            refine VL.done ?_
                            refine VN.again [2] [0] (ihl989 (wrap64 (i41895 + 1)) v42618 r42607 t42608 (mset mp41900 x42602.f0 (wrap64 ((mget mp41900 x42602.f0 0) - 1))) h) ⟨rfl, ⟨rfl, rfl, rfl, rfl, rfl, rfl, rfl, trivial⟩, ⟨⟨0, rfl⟩, ⟨1, rfl⟩, ⟨2, rfl⟩, trivial⟩, rfl, by decide, rfl, by decide⟩
                        · rw [if_neg c42642] at h
                          obtain rfl : b42641 = true := hb42641.symm.trans (not_f c42642)
                          refine VC.openR (m := l36917.length) 0 lenm rfl (pos_get hx42640) ?_
                          rintro g36964 n36965 rfl
                          refine VC.join0 (⟨199, [(4, .bool false), (5, .pointer (some ⟨g3, 0, none⟩)), (6, (.slice (some ⟨g36964, 0, none⟩) l36917.length n36965)), (7, .map (some g4)), (13, .int .i64 i41895), (14, .int .i64 x42490), (15, .int .i64 (l41898.length : Int)), (16, .int .i64 ((wrap64 (((IntKind.i64.wrap (x42490.tdiv 3)).tmod (l41898.length : Int)) + (l41898.length : Int))).tmod (l41898.length : Int))), (17, .int .i64 x42602.f0), (18, .pointer (some ⟨g42619, 0, none⟩)), (19, .pointer (some ⟨g42620, 0, none⟩)), (20, .int .i64 t42615), (67, (.slice (some ad42491) l1.length n42492)), (68, .int .i64 (l1.length : Int)), (69, .int .i64 i41895), (70, .bool true), (71, .int .i64 i41895), (73, .int .i64 x42490), (74, .pointer (some ⟨g3, 0, none⟩)), (75, (.slice (some ad42603) l41898.length n42604)), (76, .int .i64 (l41898.length : Int)), (77, .int .i64 i41895), (78, .bool q42596), (79, .bool q42597), (82, .bool false), (83, .int .i64 x42490), (84, .int .i64 (IntKind.i64.wrap (x42490.tdiv 3))), (85, .int .i64 (l41898.length : Int)), (86, .int .i64 ((IntKind.i64.wrap (x42490.tdiv 3)).tmod (l41898.length : Int))), (87, .int .i64 (l41898.length : Int)), (88, .int .i64 (wrap64 (((IntKind.i64.wrap (x42490.tdiv 3)).tmod (l41898.length : Int)) + (l41898.length : Int)))), (89, .int .i64 (l41898.length : Int)), (90, .int .i64 ((wrap64 (((IntKind.i64.wrap (x42490.tdiv 3)).tmod (l41898.length : Int)) + (l41898.length : Int))).tmod (l41898.length : Int))), (91, .pointer (some ⟨g3, 0, none⟩)), (92, (.slice (some ad42603) l41898.length n42604)), (93, .int .i64 ((wrap64 (((IntKind.i64.wrap (x42490.tdiv 3)).tmod (l41898.length : Int)) + (l41898.length : Int))).tmod (l41898.length : Int))), (96, .int .i64 x42602.f0), (97, .int .i64 x42490), (98, .int .i64 (x42490.tmod 3)), (99, .int .i64 (wrap64 ((x42490.tmod 3) + 3))), (100, .int .i64 ((wrap64 ((x42490.tmod 3) + 3)).tmod 3)), (110, .bool true), (111, .bool true), (112, .tuple #[.agg #[v42618, .int .i64 t42608], .agg #[.int .i64 t42609, .bool t42610, .int .i64 t42611, .int .i64 t42612, .int .i64 t42613, .bool t42614], .int .i64 t42615]), (113, .agg #[(.slice (some ad42603) l41898.length n42604), .int .i64 i41899]), (114, .int .i64 ((wrap64 (((IntKind.i64.wrap (x42490.tdiv 3)).tmod (l41898.length : Int)) + (l41898.length : Int))).tmod (l41898.length : Int))), (115, .tuple #[.agg #[v42618, .int .i64 t42608], .agg #[.int .i64 t42609, .bool t42610, .int .i64 t42611, .int .i64 t42612, .int .i64 t42613, .bool t42614], .int .i64 t42615]), (116, .agg #[v42618, .int .i64 t42608]), (117, .agg #[.int .i64 t42609, .bool t42610, .int .i64 t42611, .int .i64 t42612, .int .i64 t42613, .bool t42614]), (118, .int .i64 t42615), (119, .int .i64 t42615), (120, .bool false), (121, .bool false), (122, .int .i64 x42602.f0), (123, .bool false), (124, .bool false), (125, .bool false), (126, .int .i64 x42602.f0), (127, (.slice (some ⟨g36964, 0, none⟩) l36917.length n36965)), (128, .int .i64 (l36917.length : Int)), (129, .bool false), (130, .bool false), (131, .bool false), (132, .agg #[.int .i64 t42609, .bool t42610, .int .i64 t42611, .int .i64 t42612, .int .i64 t42613, .bool t42614]), (133, (.slice (some ⟨g36964, 0, none⟩) l36917.length n36965)), (134, .int .i64 x42602.f0), (135, .int .i64 (wrap64 (x42602.f0 - 1))), (137, .agg #[.int .i64 x42640.f0, .bool x42640.f1, .int .i64 x42640.f2, .int .i64 x42640.f3, .int .i64 x42640.f4, .bool x42640.f5]), (138, .bool true), (139, .bool true), (140, .bool true), (141, undef), (142, undef), (143, undef), (144, undef), (145, .bool true)], [.row v42618 6 (r42607.map enc25), .mp g4 (menc mI mI mp41900), .row (.slice (some ad42491) l1.length n42492) 1 (l1.map enc_inti64), .row (.slice (some ad42603) l41898.length n42604) 6 (l41898.map enc25)], [(g42620, 26, [.int .i64 t42609, .bool t42610, .int .i64 t42611, .int .i64 t42612, .int .i64 t42613, .bool t42614]), (g42619, 24, [v42618, .int .i64 t42608]), (g3, 24, [(.slice (some ad42603) l41898.length n42604), .int .i64 i41899])], [((.slice (some ⟨g36964, 0, none⟩) l36917.length n36965), 26, 6, l36917.map enc25)]⟩) (True) ?_ ?_
                          · refine VC.draw ⟨0, [], [], [(g42620, 26, [.int .i64 t42609, .bool t42610, .int .i64 t42611, .int .i64 t42612, .int .i64 t42613, .bool t42614])], [((.slice (some ⟨g36964, 0, none⟩) l36917.length n36965), 26, 6, l36917.map enc25)]⟩ (by kernel_rfl) rfl (by kernel_rfl) (n := 27) (listed := LB 27 0) ?_
                            refine VA.va (i := 0) (listed' := LB 27 1) rfl (op_move rfl (ltn rfl)) rfl (by kernel_rfl) (by kernel_rfl) (by kernel_rfl) (by kernel_rfl) ⟨trivial, ⟨⟨0, rfl⟩, trivial⟩, ⟨⟨0, rfl⟩, trivial⟩⟩ (fun _ _ _ h => h) ?_
                            refine VA.va (i := 1) (listed' := LB 27 3) rfl (op_cmp rfl rfl (congrArg some hb42633) (ltn rfl)) rfl (by kernel_rfl) (by kernel_rfl) (by kernel_rfl) (by kernel_rfl) ⟨trivial, ⟨⟨0, rfl⟩, trivial⟩, ⟨⟨0, rfl⟩, trivial⟩⟩ (fun _ _ _ h => h) ?_
                            refine VA.va (i := 2) (listed' := LB 27 7) rfl (op_move rfl (ltn rfl)) rfl (by kernel_rfl) (by kernel_rfl) (by kernel_rfl) (by kernel_rfl) ⟨trivial, ⟨⟨0, rfl⟩, trivial⟩, ⟨⟨0, rfl⟩, trivial⟩⟩ (fun _ _ _ h => h) ?_
                            refine VA.va (i := 3) (listed' := LB 27 15) rfl (op_move rfl (ltn rfl)) rfl (by kernel_rfl) (by kernel_rfl) (by kernel_rfl) (by kernel_rfl) ⟨trivial, ⟨⟨0, rfl⟩, trivial⟩, ⟨⟨0, rfl⟩, trivial⟩⟩ (fun _ _ _ h => h) ?_
                            refine VA.va (i := 4) (listed' := LB 27 31) rfl (op_cmp rfl rfl (congrArg some hb42635) (ltn rfl)) rfl (by kernel_rfl) (by kernel_rfl) (by kernel_rfl) (by kernel_rfl) ⟨trivial, ⟨⟨0, rfl⟩, trivial⟩, ⟨⟨0, rfl⟩, trivial⟩⟩ (fun _ _ _ h => h) ?_
                            refine VA.va (i := 5) (listed' := LB 27 63) rfl (op_pick rfl rfl (ltn rfl)) rfl (by kernel_rfl) (by kernel_rfl) (by kernel_rfl) (by kernel_rfl) ⟨trivial, ⟨⟨0, rfl⟩, trivial⟩, ⟨⟨0, rfl⟩, trivial⟩⟩ (fun _ _ _ h => h) ?_
                            refine VA.va (i := 6) (listed' := LB 27 127) rfl (op_move rfl (ltn rfl)) rfl (by kernel_rfl) (by kernel_rfl) (by kernel_rfl) (by kernel_rfl) ⟨trivial, ⟨⟨0, rfl⟩, trivial⟩, ⟨⟨0, rfl⟩, trivial⟩⟩ (fun _ _ _ h => h) ?_
                            refine VA.va (i := 7) (listed' := LB 27 255) rfl (op_move rfl (ltn rfl)) rfl (by kernel_rfl) (by kernel_rfl) (by kernel_rfl) (by kernel_rfl) ⟨trivial, ⟨⟨0, rfl⟩, trivial⟩, ⟨⟨0, rfl⟩, trivial⟩⟩ (fun _ _ _ h => h) ?_
                            refine VA.va (i := 8) (listed' := LB 27 511) rfl (op_move rfl (ltn rfl)) rfl (by kernel_rfl) (by kernel_rfl) (by kernel_rfl) (by kernel_rfl) ⟨trivial, ⟨⟨0, rfl⟩, trivial⟩, ⟨⟨0, rfl⟩, trivial⟩⟩ (fun _ _ _ h => h) ?_
                            refine VA.va (i := 9) (listed' := LB 27 1023) rfl (op_len_own (m := l36917.length) 0 lenm Try.underlying22 rfl rfl (ltn rfl)) rfl (by kernel_rfl) (by kernel_rfl) (by kernel_rfl) (by kernel_rfl) ⟨trivial, ⟨⟨0, rfl⟩, trivial⟩, ⟨⟨0, rfl⟩, trivial⟩⟩ (fun _ _ _ h => h) ?_
                            refine VA.va (i := 10) (listed' := LB 27 2047) rfl (op_cmp rfl rfl (congrArg some hb42637) (ltn rfl)) rfl (by kernel_rfl) (by kernel_rfl) (by kernel_rfl) (by kernel_rfl) ⟨trivial, ⟨⟨0, rfl⟩, trivial⟩, ⟨⟨0, rfl⟩, trivial⟩⟩ (fun _ _ _ h => h) ?_
                            refine VA.va (i := 11) (listed' := LB 27 4095) rfl (op_pick rfl rfl (ltn rfl)) rfl (by kernel_rfl) (by kernel_rfl) (by kernel_rfl) (by kernel_rfl) ⟨trivial, ⟨⟨0, rfl⟩, trivial⟩, ⟨⟨0, rfl⟩, trivial⟩⟩ (fun _ _ _ h => h) ?_
                            refine VA.va (i := 12) (listed' := LB 27 8191) rfl (op_move rfl (ltn rfl)) rfl (by kernel_rfl) (by kernel_rfl) (by kernel_rfl) (by kernel_rfl) ⟨trivial, ⟨⟨0, rfl⟩, trivial⟩, ⟨⟨0, rfl⟩, trivial⟩⟩ (fun _ _ _ h => h) ?_
                            refine VA.va (i := 13) (listed' := LB 27 16383) rfl (op_load 0 6 rfl rfl TI26 rfl (fun h => absurd h (by decide)) (ltn rfl)) rfl (by kernel_rfl) (by kernel_rfl) (by kernel_rfl) (by kernel_rfl) ⟨trivial, ⟨⟨0, rfl⟩, trivial⟩, ⟨⟨0, rfl⟩, trivial⟩⟩ (fun _ _ _ h => h) ?_
                            refine VA.va (i := 14) (listed' := LB 27 32767) rfl (op_move rfl (ltn rfl)) rfl (by kernel_rfl) (by kernel_rfl) (by kernel_rfl) (by kernel_rfl) ⟨trivial, ⟨⟨0, rfl⟩, trivial⟩, ⟨⟨0, rfl⟩, trivial⟩⟩ (fun _ _ _ h => h) ?_
                            refine VA.va (i := 15) (listed' := LB 27 65535) rfl (op_move rfl (ltn rfl)) rfl (by kernel_rfl) (by kernel_rfl) (by kernel_rfl) (by kernel_rfl) ⟨trivial, ⟨⟨0, rfl⟩, trivial⟩, ⟨⟨0, rfl⟩, trivial⟩⟩ (fun _ _ _ h => h) ?_
                            refine VA.va (i := 16) (listed' := LB 27 131071) rfl (op_ari64 rfl rfl rfl (ltn rfl)) rfl (by kernel_rfl) (by kernel_rfl) (by kernel_rfl) (by kernel_rfl) ⟨trivial, ⟨⟨0, rfl⟩, trivial⟩, ⟨⟨0, rfl⟩, trivial⟩⟩ (fun _ _ _ h => h) ?_
                            refine VA.va (i := 17) (listed' := LB 27 262143) rfl (op_indexAddr Try.underlying22 TI26 rfl rfl c42639 (lt_get c42639 hx42640) (add_zero_at _ _) (ltn rfl)) rfl (by kernel_rfl) (by kernel_rfl) (by kernel_rfl) (by kernel_rfl) ⟨trivial, ⟨⟨0, rfl⟩, trivial⟩, ⟨⟨0, rfl⟩, trivial⟩⟩ (fun _ _ _ h => h) ?_
                            refine VA.va (i := 18) (listed' := LB 27 524287) rfl (op_load_own (sz := 6) (o := 0) 0 (wrap64 (x42602.f0 - 1)).toNat 6 rfl rfl (get_map hx42640) TI26 rfl (fun h => absurd h (by decide)) (ltn rfl)) rfl (by kernel_rfl) (by kernel_rfl) (by kernel_rfl) (by kernel_rfl) ⟨trivial, ⟨⟨0, rfl⟩, trivial⟩, ⟨⟨0, rfl⟩, trivial⟩⟩ (fun _ _ _ h => h) ?_
                            refine VA.va (i := 19) (listed' := LB 27 1048575) rfl (op_neS rfl rfl EG26 (EQ26 t42609 t42610 t42611 t42612 t42613 t42614 x42640.f0 x42640.f1 x42640.f2 x42640.f3 x42640.f4 x42640.f5) hb42641 (ltn rfl)) rfl (by kernel_rfl) (by kernel_rfl) (by kernel_rfl) (by kernel_rfl) ⟨trivial, ⟨⟨0, rfl⟩, trivial⟩, ⟨⟨0, rfl⟩, trivial⟩⟩ (fun _ _ _ h => h) ?_
                            refine VA.va (i := 20) (listed' := LB 27 2097151) rfl (op_pick rfl rfl (ltn rfl)) rfl (by kernel_rfl) (by kernel_rfl) (by kernel_rfl) (by kernel_rfl) ⟨trivial, ⟨⟨0, rfl⟩, trivial⟩, ⟨⟨0, rfl⟩, trivial⟩⟩ (fun _ _ _ h => h) ?_
                            refine VA.va (i := 21) (listed' := LB 27 4194303) rfl (op_move rfl (ltn rfl)) rfl (by kernel_rfl) (by kernel_rfl) (by kernel_rfl) (by kernel_rfl) ⟨trivial, ⟨⟨0, rfl⟩, trivial⟩, ⟨⟨0, rfl⟩, trivial⟩⟩ (fun _ _ _ h => h) ?_
                            refine VA.un (i := 22) (listed' := LB 27 8388607) rfl rfl rfl (ltn rfl) (by kernel_rfl) (by kernel_rfl) (by kernel_rfl) (by kernel_rfl) ⟨trivial, ⟨⟨0, rfl⟩, trivial⟩, ⟨⟨0, rfl⟩, trivial⟩⟩ (fun _ _ _ h => h) ?_
                            refine VA.un (i := 23) (listed' := LB 27 16777215) rfl rfl rfl (ltn rfl) (by kernel_rfl) (by kernel_rfl) (by kernel_rfl) (by kernel_rfl) ⟨trivial, ⟨⟨0, rfl⟩, trivial⟩, ⟨⟨0, rfl⟩, trivial⟩⟩ (fun _ _ _ h => h) ?_
                            refine VA.un (i := 24) (listed' := LB 27 33554431) rfl rfl rfl (ltn rfl) (by kernel_rfl) (by kernel_rfl) (by kernel_rfl) (by kernel_rfl) ⟨trivial, ⟨⟨0, rfl⟩, trivial⟩, ⟨⟨0, rfl⟩, trivial⟩⟩ (fun _ _ _ h => h) ?_
                            refine VA.un (i := 25) (listed' := LB 27 67108863) rfl rfl rfl (ltn rfl) (by kernel_rfl) (by kernel_rfl) (by kernel_rfl) (by kernel_rfl) ⟨trivial, ⟨⟨0, rfl⟩, trivial⟩, ⟨⟨0, rfl⟩, trivial⟩⟩ (fun _ _ _ h => h) ?_
                            refine VA.va (i := 26) (listed' := LB 27 134217727) rfl (op_pick rfl rfl (ltn rfl)) rfl (by kernel_rfl) (by kernel_rfl) (by kernel_rfl) (by kernel_rfl) ⟨trivial, ⟨⟨0, rfl⟩, trivial⟩, ⟨⟨0, rfl⟩, trivial⟩⟩ (fun _ _ _ h => h) ?_
                            refine VA.done (by kernel_rfl) ?_
                            exact VN.meet0  [0, 1, 2] [0] trivial ⟨rfl, ⟨rfl, rfl, rfl, rfl, rfl, rfl, rfl, rfl, rfl, rfl, rfl, rfl, rfl, rfl, rfl, rfl, rfl, rfl, rfl, rfl, rfl, rfl, rfl, rfl, rfl, rfl, rfl, rfl, rfl, rfl, rfl, rfl, rfl, rfl, rfl, rfl, rfl, rfl, rfl, rfl, rfl, rfl, rfl, rfl, rfl, rfl, rfl, rfl, rfl, rfl, rfl, rfl, rfl, rfl, rfl, rfl, rfl, rfl, rfl, rfl, rfl, rfl, rfl, rfl, rfl, rfl, rfl, rfl, rfl, rfl, rfl, rfl, rfl, rfl, rfl, rfl, trivial⟩, ⟨⟨0, rfl⟩, ⟨1, rfl⟩, ⟨2, rfl⟩, ⟨3, rfl⟩, trivial⟩, rfl, by decide, rfl, by decide⟩
                          intro _
                          refine VC.cond_t rfl ?_
                          refine VC.seq ?_
                          refine VC.region ?_
                          refine VL.va (op_assign rfl (ltn rfl)) rfl ?_
                          refine VL.done ?_
                          refine VN.then ?_
                          refine VC.ret ?_
                          refine VR.then ?_
                          refine VR.block ?_
                          refine VR.block ?_
                          refine VR.then ?_
                          refine VR.then ?_
                          refine VR.block ?_
                          refine VR.then ?_
                          cases h
                      · rw [if_neg c42639] at h; cases h
                · rw [if_neg c42634] at h
                  obtain rfl : b42633 = true := hb42633.symm.trans (bne_iff_ne.2 c42634)
                  refine VC.join0 (⟨199, [(4, .bool false), (5, .pointer (some ⟨g3, 0, none⟩)), (6, v36916), (7, .map (some g4)), (13, .int .i64 i41895), (14, .int .i64 x42490), (15, .int .i64 (l41898.length : Int)), (16, .int .i64 ((wrap64 (((IntKind.i64.wrap (x42490.tdiv 3)).tmod (l41898.length : Int)) + (l41898.length : Int))).tmod (l41898.length : Int))), (17, .int .i64 x42602.f0), (18, .pointer (some ⟨g42619, 0, none⟩)), (19, .pointer (some ⟨g42620, 0, none⟩)), (20, .int .i64 t42615), (67, (.slice (some ad42491) l1.length n42492)), (68, .int .i64 (l1.length : Int)), (69, .int .i64 i41895), (70, .bool true), (71, .int .i64 i41895), (73, .int .i64 x42490), (74, .pointer (some ⟨g3, 0, none⟩)), (75, (.slice (some ad42603) l41898.length n42604)), (76, .int .i64 (l41898.length : Int)), (77, .int .i64 i41895), (78, .bool q42596), (79, .bool q42597), (82, .bool false), (83, .int .i64 x42490), (84, .int .i64 (IntKind.i64.wrap (x42490.tdiv 3))), (85, .int .i64 (l41898.length : Int)), (86, .int .i64 ((IntKind.i64.wrap (x42490.tdiv 3)).tmod (l41898.length : Int))), (87, .int .i64 (l41898.length : Int)), (88, .int .i64 (wrap64 (((IntKind.i64.wrap (x42490.tdiv 3)).tmod (l41898.length : Int)) + (l41898.length : Int)))), (89, .int .i64 (l41898.length : Int)), (90, .int .i64 ((wrap64 (((IntKind.i64.wrap (x42490.tdiv 3)).tmod (l41898.length : Int)) + (l41898.length : Int))).tmod (l41898.length : Int))), (91, .pointer (some ⟨g3, 0, none⟩)), (92, (.slice (some ad42603) l41898.length n42604)), (93, .int .i64 ((wrap64 (((IntKind.i64.wrap (x42490.tdiv 3)).tmod (l41898.length : Int)) + (l41898.length : Int))).tmod (l41898.length : Int))), (96, .int .i64 x42602.f0), (97, .int .i64 x42490), (98, .int .i64 (x42490.tmod 3)), (99, .int .i64 (wrap64 ((x42490.tmod 3) + 3))), (100, .int .i64 ((wrap64 ((x42490.tmod 3) + 3)).tmod 3)), (110, .bool true), (111, .bool true), (112, .tuple #[.agg #[v42618, .int .i64 t42608], .agg #[.int .i64 t42609, .bool t42610, .int .i64 t42611, .int .i64 t42612, .int .i64 t42613, .bool t42614], .int .i64 t42615]), (113, .agg #[(.slice (some ad42603) l41898.length n42604), .int .i64 i41899]), (114, .int .i64 ((wrap64 (((IntKind.i64.wrap (x42490.tdiv 3)).tmod (l41898.length : Int)) + (l41898.length : Int))).tmod (l41898.length : Int))), (115, .tuple #[.agg #[v42618, .int .i64 t42608], .agg #[.int .i64 t42609, .bool t42610, .int .i64 t42611, .int .i64 t42612, .int .i64 t42613, .bool t42614], .int .i64 t42615]), (116, .agg #[v42618, .int .i64 t42608]), (117, .agg #[.int .i64 t42609, .bool t42610, .int .i64 t42611, .int .i64 t42612, .int .i64 t42613, .bool t42614]), (118, .int .i64 t42615), (119, .int .i64 t42615), (120, .bool true), (121, .bool true), (122, undef), (123, undef), (124, .bool true), (125, .bool true), (126, undef), (127, undef), (128, undef), (129, undef), (130, .bool true), (131, .bool true), (132, undef), (133, undef), (134, undef), (135, undef), (136, undef), (137, undef), (138, undef), (139, .bool true), (140, .bool true), (141, undef), (142, undef), (143, undef), (144, undef), (145, .bool true)], [.row v42618 6 (r42607.map enc25), .mp g4 (menc mI mI mp41900), .row (.slice (some ad42491) l1.length n42492) 1 (l1.map enc_inti64), .row (.slice (some ad42603) l41898.length n42604) 6 (l41898.map enc25)], [(g42620, 26, [.int .i64 t42609, .bool t42610, .int .i64 t42611, .int .i64 t42612, .int .i64 t42613, .bool t42614]), (g42619, 24, [v42618, .int .i64 t42608]), (g3, 24, [(.slice (some ad42603) l41898.length n42604), .int .i64 i41899])], [(v36916, 26, 6, l36917.map enc25)]⟩) (True) ?_ ?_
                  · refine VC.draw ⟨0, [], [], [], []⟩ (by kernel_rfl) rfl (by kernel_rfl) (n := 27) (listed := LB 27 0) ?_
                    refine VA.va (i := 0) (listed' := LB 27 1) rfl (op_move rfl (ltn rfl)) rfl (by kernel_rfl) (by kernel_rfl) (by kernel_rfl) (by kernel_rfl) ⟨trivial, trivial, trivial⟩ (fun _ _ _ h => h) ?_
                    refine VA.va (i := 1) (listed' := LB 27 3) rfl (op_cmp rfl rfl (congrArg some hb42633) (ltn rfl)) rfl (by kernel_rfl) (by kernel_rfl) (by kernel_rfl) (by kernel_rfl) ⟨trivial, trivial, trivial⟩ (fun _ _ _ h => h) ?_
                    refine VA.va (i := 2) (listed' := LB 27 7) rfl (op_move rfl (ltn rfl)) rfl (by kernel_rfl) (by kernel_rfl) (by kernel_rfl) (by kernel_rfl) ⟨trivial, trivial, trivial⟩ (fun _ _ _ h => h) ?_
                    refine VA.un (i := 3) (listed' := LB 27 15) rfl rfl rfl (ltn rfl) (by kernel_rfl) (by kernel_rfl) (by kernel_rfl) (by kernel_rfl) ⟨trivial, trivial, trivial⟩ (fun _ _ _ h => h) ?_
                    refine VA.un (i := 4) (listed' := LB 27 31) rfl rfl rfl (ltn rfl) (by kernel_rfl) (by kernel_rfl) (by kernel_rfl) (by kernel_rfl) ⟨trivial, trivial, trivial⟩ (fun _ _ _ h => h) ?_
                    refine VA.va (i := 5) (listed' := LB 27 63) rfl (op_pick rfl rfl (ltn rfl)) rfl (by kernel_rfl) (by kernel_rfl) (by kernel_rfl) (by kernel_rfl) ⟨trivial, trivial, trivial⟩ (fun _ _ _ h => h) ?_
                    refine VA.va (i := 6) (listed' := LB 27 127) rfl (op_move rfl (ltn rfl)) rfl (by kernel_rfl) (by kernel_rfl) (by kernel_rfl) (by kernel_rfl) ⟨trivial, trivial, trivial⟩ (fun _ _ _ h => h) ?_
                    refine VA.un (i := 7) (listed' := LB 27 255) rfl rfl rfl (ltn rfl) (by kernel_rfl) (by kernel_rfl) (by kernel_rfl) (by kernel_rfl) ⟨trivial, trivial, trivial⟩ (fun _ _ _ h => h) ?_
                    refine VA.un (i := 8) (listed' := LB 27 511) rfl rfl rfl (ltn rfl) (by kernel_rfl) (by kernel_rfl) (by kernel_rfl) (by kernel_rfl) ⟨trivial, trivial, trivial⟩ (fun _ _ _ h => h) ?_
                    refine VA.un (i := 9) (listed' := LB 27 1023) rfl rfl rfl (ltn rfl) (by kernel_rfl) (by kernel_rfl) (by kernel_rfl) (by kernel_rfl) ⟨trivial, trivial, trivial⟩ (fun _ _ _ h => h) ?_
                    refine VA.un (i := 10) (listed' := LB 27 2047) rfl rfl rfl (ltn rfl) (by kernel_rfl) (by kernel_rfl) (by kernel_rfl) (by kernel_rfl) ⟨trivial, trivial, trivial⟩ (fun _ _ _ h => h) ?_
                    refine VA.va (i := 11) (listed' := LB 27 4095) rfl (op_pick rfl rfl (ltn rfl)) rfl (by kernel_rfl) (by kernel_rfl) (by kernel_rfl) (by kernel_rfl) ⟨trivial, trivial, trivial⟩ (fun _ _ _ h => h) ?_
                    refine VA.va (i := 12) (listed' := LB 27 8191) rfl (op_move rfl (ltn rfl)) rfl (by kernel_rfl) (by kernel_rfl) (by kernel_rfl) (by kernel_rfl) ⟨trivial, trivial, trivial⟩ (fun _ _ _ h => h) ?_
                    refine VA.un (i := 13) (listed' := LB 27 16383) rfl rfl rfl (ltn rfl) (by kernel_rfl) (by kernel_rfl) (by kernel_rfl) (by kernel_rfl) ⟨trivial, trivial, trivial⟩ (fun _ _ _ h => h) ?_
                    refine VA.un (i := 14) (listed' := LB 27 32767) rfl rfl rfl (ltn rfl) (by kernel_rfl) (by kernel_rfl) (by kernel_rfl) (by kernel_rfl) ⟨trivial, trivial, trivial⟩ (fun _ _ _ h => h) ?_
                    refine VA.un (i := 15) (listed' := LB 27 65535) rfl rfl rfl (ltn rfl) (by kernel_rfl) (by kernel_rfl) (by kernel_rfl) (by kernel_rfl) ⟨trivial, trivial, trivial⟩ (fun _ _ _ h => h) ?_
                    refine VA.un (i := 16) (listed' := LB 27 131071) rfl rfl rfl (ltn rfl) (by kernel_rfl) (by kernel_rfl) (by kernel_rfl) (by kernel_rfl) ⟨trivial, trivial, trivial⟩ (fun _ _ _ h => h) ?_
                    refine VA.un (i := 17) (listed' := LB 27 262143) rfl rfl rfl (ltn rfl) (by kernel_rfl) (by kernel_rfl) (by kernel_rfl) (by kernel_rfl) ⟨trivial, trivial, trivial⟩ (fun _ _ _ h => h) ?_
                    refine VA.un (i := 18) (listed' := LB 27 524287) rfl rfl rfl (ltn rfl) (by kernel_rfl) (by kernel_rfl) (by kernel_rfl) (by kernel_rfl) ⟨trivial, trivial, trivial⟩ (fun _ _ _ h => h) ?_
                    refine VA.un (i := 19) (listed' := LB 27 1048575) rfl rfl rfl (ltn rfl) (by kernel_rfl) (by kernel_rfl) (by kernel_rfl) (by kernel_rfl) ⟨trivial, trivial, trivial⟩ (fun _ _ _ h => h) ?_
                    refine VA.va (i := 20) (listed' := LB 27 2097151) rfl (op_pick rfl rfl (ltn rfl)) rfl (by kernel_rfl) (by kernel_rfl) (by kernel_rfl) (by kernel_rfl) ⟨trivial, trivial, trivial⟩ (fun _ _ _ h => h) ?_
                    refine VA.va (i := 21) (listed' := LB 27 4194303) rfl (op_move rfl (ltn rfl)) rfl (by kernel_rfl) (by kernel_rfl) (by kernel_rfl) (by kernel_rfl) ⟨trivial, trivial, trivial⟩ (fun _ _ _ h => h) ?_
                    refine VA.un (i := 22) (listed' := LB 27 8388607) rfl rfl rfl (ltn rfl) (by kernel_rfl) (by kernel_rfl) (by kernel_rfl) (by kernel_rfl) ⟨trivial, trivial, trivial⟩ (fun _ _ _ h => h) ?_
                    refine VA.un (i := 23) (listed' := LB 27 16777215) rfl rfl rfl (ltn rfl) (by kernel_rfl) (by kernel_rfl) (by kernel_rfl) (by kernel_rfl) ⟨trivial, trivial, trivial⟩ (fun _ _ _ h => h) ?_
                    refine VA.un (i := 24) (listed' := LB 27 33554431) rfl rfl rfl (ltn rfl) (by kernel_rfl) (by kernel_rfl) (by kernel_rfl) (by kernel_rfl) ⟨trivial, trivial, trivial⟩ (fun _ _ _ h => h) ?_
                    refine VA.un (i := 25) (listed' := LB 27 67108863) rfl rfl rfl (ltn rfl) (by kernel_rfl) (by kernel_rfl) (by kernel_rfl) (by kernel_rfl) ⟨trivial, trivial, trivial⟩ (fun _ _ _ h => h) ?_
                    refine VA.va (i := 26) (listed' := LB 27 134217727) rfl (op_pick rfl rfl (ltn rfl)) rfl (by kernel_rfl) (by kernel_rfl) (by kernel_rfl) (by kernel_rfl) ⟨trivial, trivial, trivial⟩ (fun _ _ _ h => h) ?_
                    refine VA.done (by kernel_rfl) ?_
                    exact VN.meet0  [0, 1, 2] [0] trivial ⟨rfl, ⟨rfl, rfl, rfl, rfl, rfl, rfl, rfl, rfl, rfl, rfl, rfl, rfl, rfl, rfl, rfl, rfl, rfl, rfl, rfl, rfl, rfl, rfl, rfl, rfl, rfl, rfl, rfl, rfl, rfl, rfl, rfl, rfl, rfl, rfl, rfl, rfl, rfl, rfl, rfl, rfl, rfl, rfl, rfl, rfl, rfl, rfl, rfl, rfl, rfl, rfl, rfl, rfl, rfl, rfl, rfl, rfl, rfl, rfl, rfl, rfl, rfl, rfl, rfl, rfl, rfl, rfl, rfl, rfl, rfl, rfl, rfl, rfl, rfl, rfl, rfl, rfl, rfl, trivial⟩, ⟨⟨0, rfl⟩, ⟨1, rfl⟩, ⟨2, rfl⟩, ⟨3, rfl⟩, trivial⟩, rfl, by decide, rfl, by decide⟩
                  intro _
                  refine VC.cond_t rfl ?_
                  refine VC.seq ?_
                  refine VC.region ?_
                  refine VL.va (op_assign rfl (ltn rfl)) rfl ?_
                  refine VL.done ?_
                  refine VN.then ?_
                  refine VC.ret ?_
                  refine VR.then ?_
                  refine VR.block ?_
                  refine VR.block ?_
                  refine VR.then ?_
                  refine VR.then ?_
                  refine VR.block ?_
                  refine VR.then ?_
                  cases h
              · rw [if_neg c42606] at h
                obtain rfl : b42605 = false := hb42605.symm.trans (beq_eq_false_iff_ne.2 c42606)
                refine VC.cond_f rfl ?_
                refine VC.seq ?_
                refine VC.region ?_
                refine VL.letter ((((wrap64 ((x42490.tmod 3) + 3)).tmod 3) == 1)) fun b42645 hb42645 => ?_
                refine VL.va (op_cmp rfl rfl (congrArg some hb42645) (ltn rfl)) rfl ?_
                refine VL.va (op_assign rfl (ltn rfl)) rfl ?_
                refine VL.done ?_
                refine VN.then ?_
                by_cases c42646 : ((wrap64 ((x42490.tmod 3) + 3)).tmod 3) = 1
                · rw [if_pos c42646] at h
                  obtain rfl : b42645 = true := hb42645.symm.trans (beq_iff_eq.2 c42646)
                  refine VC.cond_t rfl ?_
                  refine VC.seq ?_
                  refine VC.region ?_
                  refine VL.va (op_load 0 2 rfl rfl TI24 rfl (fun h => absurd h (by decide)) (ltn rfl)) rfl ?_
                  refine VL.va (op_move rfl (ltn rfl)) rfl ?_
                  replace h := Option.bind_eq_some_iff.1 h
                  obtain ⟨⟨r42647, t42648, t42649⟩, hA42650, h⟩ := h
                  dsimp only at h
                  refine VL.sC (o_call0 FO9 (net_Twice.ok k l41898 i41899 ((wrap64 (((IntKind.i64.wrap (x42490.tdiv 3)).tmod (l41898.length : Int)) + (l41898.length : Int))).tmod (l41898.length : Int)) (.slice (some ad42603) l41898.length n42604) r42647 t42648 t42649 hA42650) rfl rfl (ltn rfl) (All_of (.cons (List.mem_of_getElem? (i := 2) rfl) .nil))) rfl ?_
                  rintro _ _ _ ⟨v42652, rfl, rfl, rfl⟩
                  refine VL.va (op_move rfl (ltn rfl)) rfl ?_
                  refine VL.va (op_extract rfl rfl (ltn rfl)) rfl ?_
                  refine VL.va (op_extract rfl rfl (ltn rfl)) rfl ?_
                  refine VL.sG (o_alloc Z24 ZL24 (ltn rfl)) rfl ?_
                  intro g42653
                  refine VL.step1 (o_store 0 2 rfl rfl rfl TI24 (.agg (.f 0 rfl (.c rfl .nil))) rfl (len rfl)) rfl ?_
                  refine VL.va (op_assign rfl (ltn rfl)) rfl ?_
                  refine VL.done ?_
                  refine VN.then ?_
                  refine VC.seq ?_
                  refine VC.seq ?_
                  refine VC.region ?_
                  refine VL.va (op_move rfl (ltn rfl)) rfl ?_
                  refine VL.letter ((t42649 != 0)) fun b42664 hb42664 => ?_
                  refine VL.va (op_cmp rfl rfl (congrArg some hb42664) (ltn rfl)) rfl ?_
                  refine VL.va (op_move rfl (ltn rfl)) rfl ?_
                  by_cases c42665 : t42649 = 0
                  · rw [if_pos c42665] at h
                    obtain rfl : b42664 = false := hb42664.symm.trans (bne_eq_false_iff_eq.2 c42665)
                    refine VL.un rfl rfl (ltn rfl) ?_
                    refine VL.un rfl rfl (ltn rfl) ?_
                    refine VL.va (op_pick rfl rfl (ltn rfl)) rfl ?_
                    refine VL.done ?_
                    refine VN.then ?_
                    refine VC.cond_f rfl ?_
                    refine VC.skip ?_
                    refine VN.then ?_
                    refine VC.seq ?_
                    refine VC.region ?_
                    refine VL.va (op_move rfl (ltn rfl)) rfl ?_
                    refine VL.letter ((t42649 == 0)) fun b42666 hb42666 => ?_
                    refine VL.va (op_cmp rfl rfl (congrArg some hb42666) (ltn rfl)) rfl ?_
                    refine VL.done ?_
                    refine VN.then ?_
                    by_cases c42667 : t42649 = 0
                    · rw [if_pos c42667] at h
                      obtain rfl : b42666 = true := hb42666.symm.trans (beq_iff_eq.2 c42667)
                      refine VC.cond_t rfl ?_
                      refine VC.seq ?_
                      refine VC.region ?_
                      refine VL.va (op_load 0 2 rfl rfl TI24 rfl (fun h => absurd h (by decide)) (ltn rfl)) rfl ?_
                      refine VL.step1 (o_store 1 2 rfl rfl rfl TI24 (.agg (.f 0 rfl (.c rfl .nil))) rfl (len rfl)) rfl ?_
                      refine VL.done ?_
                      refine VN.then ?_
                      refine VC.region ?_
                      refine VL.va (op_move rfl (ltn rfl)) rfl ?_
                      refine VL.va (op_move rfl (ltn rfl)) rfl ?_
                      refine VL.va (op_lookup (ke := mI) (ve := mI) (m := mp41900) (dv := 0) (k := x42602.f0) 1 Try.underlying41 MK3 Z3 rfl rfl rfl (ltn rfl)) rfl ?_
                      refine VL.va (op_ari64 rfl rfl rfl (ltn rfl)) rfl ?_
                      refine VL.step1 (o_mapUpdate (ke := mI) (ve := mI) (m := mp41900) (k := x42602.f0) (v' := (wrap64 ((mget mp41900 x42602.f0 0) + 1))) 1 Try.underlying41 MK3 hbg4 rfl ⟨trivial, trivial, trivial, trivial⟩ rfl rfl rfl) rfl ?_
                      refine VL.done ?_
                      refine VN.block ?_
                      refine VN.block ?_
                      refine VN.then ?_
                      refine VC.region ?_
                      refine VL.va (op_ari64 rfl rfl rfl (ltn rfl)) rfl ?_
                      refine VL.va (op_move rfl (ltn rfl)) rfl ?_
                      refine VL.done ?_
                      refine VN.again [1] [0] (ihl989 (wrap64 (i41895 + 1)) v42652 r42647 t42648 (mset mp41900 x42602.f0 (wrap64 ((mget mp41900 x42602.f0 0) + 1))) h) ⟨rfl, ⟨rfl, rfl, rfl, rfl, rfl, rfl, rfl, trivial⟩, ⟨⟨0, rfl⟩, ⟨1, rfl⟩, ⟨2, rfl⟩, trivial⟩, rfl, by decide, rfl, by decide⟩
                    · rw [if_neg c42667] at h
                      obtain rfl : b42666 = false := hb42666.symm.trans (beq_eq_false_iff_ne.2 c42667)
                      refine VC.cond_f rfl ?_
                      refine VC.skip ?_
                      refine VN.block ?_
                      refine VN.block ?_
                      refine VN.then ?_
                      refine VC.region ?_
                      refine VL.va (op_ari64 rfl rfl rfl (ltn rfl)) rfl ?_
                      refine VL.va (op_move rfl (ltn rfl)) rfl ?_
                      refine VL.done ?_
                      refine VN.again [1] [0] (ihl989 (wrap64 (i41895 + 1)) (.slice (some ad42603) l41898.length n42604) l41898 i41899 mp41900 h) ⟨rfl, ⟨rfl, rfl, rfl, rfl, rfl, rfl, rfl, trivial⟩, ⟨⟨3, rfl⟩, ⟨1, rfl⟩, ⟨2, rfl⟩, trivial⟩, rfl, by decide, rfl, by decide⟩
                  · rw [if_neg c42665] at h
                    obtain rfl : b42664 = true := hb42664.symm.trans (bne_iff_ne.2 c42665)
                    refine VL.va (op_move rfl (ltn rfl)) rfl ?_
                    refine VL.letter ((t42649 != 7)) fun b42668 hb42668 => ?_
                    refine VL.va (op_cmp rfl rfl (congrArg some hb42668) (ltn rfl)) rfl ?_
                    refine VL.va (op_pick rfl rfl (ltn rfl)) rfl ?_
                    refine VL.done ?_
                    refine VN.then ?_
                    by_cases c42669 : t42649 = 7
                    · rw [if_pos c42669] at h
                      obtain rfl : b42668 = false := hb42668.symm.trans (bne_eq_false_iff_eq.2 c42669)
                      refine VC.cond_f rfl ?_
                      refine VC.skip ?_
                      refine VN.then ?_
                      refine VC.seq ?_
                      refine VC.region ?_
                      refine VL.va (op_move rfl (ltn rfl)) rfl ?_
                      refine VL.letter ((t42649 == 0)) fun b42670 hb42670 => ?_
                      refine VL.va (op_cmp rfl rfl (congrArg some hb42670) (ltn rfl)) rfl ?_
                      refine VL.done ?_
                      refine VN.then ?_
                      by_cases c42671 : t42649 = 0
                      · rw [if_pos c42671] at h
                        obtain rfl : b42670 = true := hb42670.symm.trans (beq_iff_eq.2 c42671)
                        refine VC.cond_t rfl ?_
                        refine VC.seq ?_
                        refine VC.region ?_
                        refine VL.va (op_load 0 2 rfl rfl TI24 rfl (fun h => absurd h (by decide)) (ltn rfl)) rfl ?_
                        refine VL.step1 (o_store 1 2 rfl rfl rfl TI24 (.agg (.f 0 rfl (.c rfl .nil))) rfl (len rfl)) rfl ?_
                        refine VL.done ?_
                        refine VN.then ?_
                        refine VC.region ?_
                        refine VL.va (op_move rfl (ltn rfl)) rfl ?_
                        refine VL.va (op_move rfl (ltn rfl)) rfl ?_
                        refine VL.va (op_lookup (ke := mI) (ve := mI) (m := mp41900) (dv := 0) (k := x42602.f0) 1 Try.underlying41 MK3 Z3 rfl rfl rfl (ltn rfl)) rfl ?_
                        refine VL.va (op_ari64 rfl rfl rfl (ltn rfl)) rfl ?_
                        refine VL.step1 (o_mapUpdate (ke := mI) (ve := mI) (m := mp41900) (k := x42602.f0) (v' := (wrap64 ((mget mp41900 x42602.f0 0) + 1))) 1 Try.underlying41 MK3 hbg4 rfl ⟨trivial, trivial, trivial, trivial⟩ rfl rfl rfl) rfl ?_
                        refine VL.done ?_
                        refine VN.block ?_
                        refine VN.block ?_
                        refine VN.then ?_
                        refine VC.region ?_
                        refine VL.va (op_ari64 rfl rfl rfl (ltn rfl)) rfl ?_
                        refine VL.va (op_move rfl (ltn rfl)) rfl ?_
                        refine VL.done ?_
                        refine VN.again [1] [0] (ihl989 (wrap64 (i41895 + 1)) v42652 r42647 t42648 (mset mp41900 x42602.f0 (wrap64 ((mget mp41900 x42602.f0 0) + 1))) h) ⟨rfl, ⟨rfl, rfl, rfl, rfl, rfl, rfl, rfl, trivial⟩, ⟨⟨0, rfl⟩, ⟨1, rfl⟩, ⟨2, rfl⟩, trivial⟩, rfl, by decide, rfl, by decide⟩
                      · rw [if_neg c42671] at h
                        obtain rfl : b42670 = false := hb42670.symm.trans (beq_eq_false_iff_ne.2 c42671)
                        refine VC.cond_f rfl ?_
                        refine VC.skip ?_
                        refine VN.block ?_
                        refine VN.block ?_
                        refine VN.then ?_
                        refine VC.region ?_
                        refine VL.va (op_ari64 rfl rfl rfl (ltn rfl)) rfl ?_
                        refine VL.va (op_move rfl (ltn rfl)) rfl ?_
                        refine VL.done ?_
                        refine VN.again [1] [0] (ihl989 (wrap64 (i41895 + 1)) (.slice (some ad42603) l41898.length n42604) l41898 i41899 mp41900 h) ⟨rfl, ⟨rfl, rfl, rfl, rfl, rfl, rfl, rfl, trivial⟩, ⟨⟨3, rfl⟩, ⟨1, rfl⟩, ⟨2, rfl⟩, trivial⟩, rfl, by decide, rfl, by decide⟩
                    · rw [if_neg c42669] at h
                      obtain rfl : b42668 = true := hb42668.symm.trans (bne_iff_ne.2 c42669)
                      refine VC.cond_t rfl ?_
                      refine VC.seq ?_
                      refine VC.region ?_
                      refine VL.va (op_assign rfl (ltn rfl)) rfl ?_
                      refine VL.done ?_
                      refine VN.then ?_
                      refine VC.ret ?_
                      refine VR.then ?_
                      refine VR.block ?_
                      refine VR.block ?_
                      refine VR.then ?_
                      refine VR.then ?_
                      refine VR.block ?_
                      refine VR.then ?_
                      cases h
                · rw [if_neg c42646] at h
                  obtain rfl : b42645 = false := hb42645.symm.trans (beq_eq_false_iff_ne.2 c42646)
                  refine VC.cond_f rfl ?_
                  refine VC.seq ?_
                  refine VC.region ?_
                  refine VL.va (op_load 0 2 rfl rfl TI24 rfl (fun h => absurd h (by decide)) (ltn rfl)) rfl ?_
                  refine VL.va (op_move rfl (ltn rfl)) rfl ?_
                  replace h := Option.bind_eq_some_iff.1 h
                  obtain ⟨⟨r42672, t42673, t42674⟩, hA42675, h⟩ := h
                  dsimp only at h
                  refine VL.sC (o_call0 FO10 (net_Last.ok k l41898 i41899 ((wrap64 (((IntKind.i64.wrap (x42490.tdiv 3)).tmod (l41898.length : Int)) + (l41898.length : Int))).tmod (l41898.length : Int)) (.slice (some ad42603) l41898.length n42604) r42672 t42673 t42674 hA42675) rfl rfl (ltn rfl) (All_of (.cons (List.mem_of_getElem? (i := 2) rfl) .nil))) rfl ?_
                  rintro _ _ _ ⟨v42677, rfl, rfl, rfl⟩
                  refine VL.va (op_move rfl (ltn rfl)) rfl ?_
                  refine VL.va (op_extract rfl rfl (ltn rfl)) rfl ?_
                  refine VL.va (op_extract rfl rfl (ltn rfl)) rfl ?_
                  refine VL.sG (o_alloc Z24 ZL24 (ltn rfl)) rfl ?_
                  intro g42678
                  refine VL.step1 (o_store 0 2 rfl rfl rfl TI24 (.agg (.f 0 rfl (.c rfl .nil))) rfl (len rfl)) rfl ?_
                  refine VL.va (op_assign rfl (ltn rfl)) rfl ?_
                  refine VL.done ?_
                  refine VN.then ?_
                  refine VC.seq ?_
                  refine VC.seq ?_
                  refine VC.region ?_
                  refine VL.va (op_move rfl (ltn rfl)) rfl ?_
                  refine VL.letter ((t42674 != 0)) fun b42681 hb42681 => ?_
                  refine VL.va (op_cmp rfl rfl (congrArg some hb42681) (ltn rfl)) rfl ?_
                  refine VL.done ?_
                  refine VN.then ?_
                  by_cases c42682 : t42674 = 0
                  · rw [if_pos c42682] at h
                    obtain rfl : b42681 = false := hb42681.symm.trans (bne_eq_false_iff_eq.2 c42682)
                    refine VC.cond_f rfl ?_
                    refine VC.skip ?_
                    refine VN.then ?_
                    refine VC.region ?_
                    refine VL.va (op_load 0 2 rfl rfl TI24 rfl (fun h => absurd h (by decide)) (ltn rfl)) rfl ?_
                    refine VL.step1 (o_store 1 2 rfl rfl rfl TI24 (.agg (.f 0 rfl (.c rfl .nil))) rfl (len rfl)) rfl ?_
                    refine VL.done ?_
                    refine VN.block ?_
                    refine VN.block ?_
                    refine VN.then ?_
                    refine VC.region ?_
                    refine VL.va (op_ari64 rfl rfl rfl (ltn rfl)) rfl ?_
                    refine VL.va (op_move rfl (ltn rfl)) rfl ?_
                    refine VL.done ?_
                    refine VN.again [1] [0] (ihl989 (wrap64 (i41895 + 1)) v42677 r42672 t42673 mp41900 h) ⟨rfl, ⟨rfl, rfl, rfl, rfl, rfl, rfl, rfl, trivial⟩, ⟨⟨0, rfl⟩, ⟨1, rfl⟩, ⟨2, rfl⟩, trivial⟩, rfl, by decide, rfl, by decide⟩
                  · rw [if_neg c42682] at h
                    obtain rfl : b42681 = true := hb42681.symm.trans (bne_iff_ne.2 c42682)
                    refine VC.cond_t rfl ?_
                    refine VC.seq ?_
                    refine VC.region ?_
                    refine VL.va (op_assign rfl (ltn rfl)) rfl ?_
                    refine VL.done ?_
                    refine VN.then ?_
                    refine VC.ret ?_
                    refine VR.then ?_
                    refine VR.block ?_
                    refine VR.block ?_
                    refine VR.then ?_
                    refine VR.then ?_
                    refine VR.block ?_
                    refine VR.then ?_
                    cases h
            · rw [if_neg c42601] at h; cases h
          · rw [if_neg c42600] at h; cases h
      · rw [if_neg c42489] at h; cases h
    · rw [if_neg c42294] at h
      obtain rfl : b42292 = false := hb42292.symm.trans (decide_eq_false c42294)
      refine VC.cond_f rfl ?_
      refine VC.exit ?_
      refine VX.then ?_
      refine VX.then ?_
      refine VX.hit ?_
      refine VN.meet4 v41897 l41898 i41899 mp41900 [0] [] h ⟨rfl, ⟨rfl, rfl, rfl, trivial⟩, ⟨⟨0, rfl⟩, ⟨1, rfl⟩, trivial⟩, rfl, by decide, rfl, by decide⟩
  clear h
  intro v42684 l42685 i42686 mp42687 h
  unfold tarrylaw15_NetOnce.j988 at h
  refine VC.seq ?_
  refine VC.seq ?_
  refine VC.region ?_
  refine VL.va (op_fieldAddr FI24_0 rfl (add_at _ _ _) (ltn rfl)) rfl ?_
  refine VL.va (op_load 0 1 rfl rfl TI22 rfl (by decide) (ltn rfl)) rfl ?_
  refine VL.va (op_len (m := l42685.length) 0 lenm Try.underlying22 rfl rfl (ltn rfl)) rfl ?_
  refine VL.va (op_move rfl (ltn rfl)) rfl ?_
  refine VL.done ?_
  refine VN.then ?_
  refine VC.block ?_
  refine VC.loop2 (fun (i42720 : Int) (mp42721 : List (Int × Int)) => ⟨199, [(4, .bool false), (5, .pointer (some ⟨g3, 0, none⟩)), (7, .map (some g4)), (174, v42684), (175, .int .i64 (l42685.length : Int)), (176, .int .i64 i42720)], [.mp g4 (menc mI mI mp42721), .row v42684 6 (l42685.map enc25)], [(g3, 24, [v42684, .int .i64 i42686])], []⟩) (fun (ml993 : Nat) (i42720 : Int) (mp42721 : List (Int × Int)) => tarrylaw15_NetOnce.l993 k i42686 l42685 ml993 i42720 mp42721 = some r1) k 0 mp42687 [0] [] h ⟨rfl, ⟨rfl, rfl, rfl, rfl, rfl, rfl, trivial⟩, ⟨⟨1, rfl⟩, ⟨0, rfl⟩, trivial⟩, rfl, by decide, rfl, by decide⟩ (by intros; simp [tarrylaw15_NetOnce.l993]) ?_
  clear h
  intro ml993 ihl993 i42720 mp42721 h
  simp only [tarrylaw15_NetOnce.l993] at h
  refine VC.seq ?_
  refine VC.region ?_
  refine VL.letter (decide (i42720 < (l42685.length : Int))) fun b42730 hb42730 => ?_
  refine VL.va (op_cmp rfl rfl (congrArg some hb42730) (ltn rfl)) rfl ?_
  refine VL.done ?_
  refine VN.then ?_
  refine VC.seq ?_
  by_cases c42772 : i42720 < (l42685.length : Int)
  · rw [if_pos c42772] at h
    obtain rfl : b42730 = true := hb42730.symm.trans (decide_eq_true c42772)
    refine VC.cond_t rfl ?_
    refine VC.skip ?_
    refine VN.then ?_
    refine VC.seq ?_
    refine VC.block ?_
    refine VC.seq ?_
    refine VC.region ?_
    by_cases c42773 : 0 ≤ i42720
    · rw [if_pos c42773] at h
      replace h := Option.bind_eq_some_iff.1 h
      obtain ⟨x42774, hx42774, h⟩ := h
      refine VL.open (m := l42685.length) 1 lenm rfl (pos_get hx42774) ?_
      rintro ad42775 n42776 rfl
      refine VL.va (op_indexAddr Try.underlying22 TI26 rfl rfl c42773 (lt_get c42773 hx42774) rfl (ltn rfl)) rfl ?_
      refine VL.va (op_load_row (sz := 6) (o := 0) 1 i42720.toNat 6 rfl rfl (get_map hx42774) TI26 rfl (fun h => absurd h (by decide)) (ltn rfl)) rfl ?_
      refine VL.sG (o_alloc Z26 ZL26 (ltn rfl)) rfl ?_
      intro g42777
      refine VL.step1 (o_store 0 6 rfl rfl rfl TI26 (.agg (.of rfl)) rfl (len rfl)) rfl ?_
      refine VL.done ?_
      refine VN.then ?_
      refine VC.region ?_
      refine VL.va (op_move rfl (ltn rfl)) rfl ?_
      refine VL.va (op_fieldAddr FI26_0 rfl (add_at _ _ _) (ltn rfl)) rfl ?_
      refine VL.va (op_load 0 1 rfl rfl TI3 rfl (by decide) (ltn rfl)) rfl ?_
      refine VL.va (op_lookup (ke := mI) (ve := mI) (m := mp42721) (dv := 0) (k := x42774.f0) 0 Try.underlying41 MK3 Z3 rfl rfl rfl (ltn rfl)) rfl ?_
      refine VL.va (op_ari64 rfl rfl rfl (ltn rfl)) rfl ?_
      refine VL.step1 (o_mapUpdate (ke := mI) (ve := mI) (m := mp42721) (k := x42774.f0) (v' := (wrap64 ((mget mp42721 x42774.f0 0) - 1))) 0 Try.underlying41 MK3 hbg4 rfl ⟨trivial, trivial⟩ rfl rfl rfl) rfl ?_
      refine VL.done ?_
      refine VN.block ?_
      refine VN.then ?_
      refine VC.region ?_
      refine VL.va (op_ari64 rfl rfl rfl (ltn rfl)) rfl ?_
      refine VL.va (op_move rfl (ltn rfl)) rfl ?_
      refine VL.done ?_
      refine VN.again [1] [] (ihl993 (wrap64 (i42720 + 1)) (mset mp42721 x42774.f0 (wrap64 ((mget mp42721 x42774.f0 0) - 1))) h) ⟨rfl, ⟨rfl, rfl, rfl, rfl, rfl, rfl, trivial⟩, ⟨⟨0, rfl⟩, ⟨1, rfl⟩, trivial⟩, rfl, by decide, rfl, by decide⟩
    · rw [if_neg c42773] at h; cases h
  · rw [if_neg c42772] at h
    obtain rfl : b42730 = false := hb42730.symm.trans (decide_eq_false c42772)
    refine VC.cond_f rfl ?_
    refine VC.exit ?_
    refine VX.then ?_
    refine VX.then ?_
    refine VX.hit ?_
    refine VN.then ?_
    refine VC.seq ?_
    refine VC.seq ?_
    refine VC.region ?_
    refine VL.va (op_move rfl (ltn rfl)) rfl ?_
    refine VL.newM (o_range (ke := mI) (ve := mI) (m := mp42721) 0 Try.underlying41 rfl rfl (ltn rfl)) rfl ?_
    intro g42788 hbg42788 hnewg42788
    have hne_g4_g42788 := (hnewg42788 _ (List.mem_of_getElem? (i := 0) rfl)).1
    clear hnewg42788
    refine VL.done ?_
    refine VN.then ?_
    refine VC.block ?_
    refine VC.loopM (fun (L42789 : List (Int × Int)) (A42790 : Option (Int × Int)) => ⟨199, [(4, .bool false), (5, .pointer (some ⟨g3, 0, none⟩)), (187, .pointer (some ⟨g42788, 0, none⟩))], [.itr g4 g42788 (menc mI mI L42789) (A42790.map fun e => (mI e.1, mI e.2)), .mp g4 (menc mI mI mp42721), .row v42684 6 (l42685.map enc25)], [(g3, 24, [v42684, .int .i64 i42686])], []⟩) mp42721 [0] [] ⟨rfl, ⟨rfl, rfl, rfl, trivial⟩, ⟨⟨0, rfl⟩, ⟨1, rfl⟩, ⟨2, rfl⟩, trivial⟩, rfl, by decide, rfl, by decide⟩ ?_
    intro n42791 ihn42791 L42789 A42790 hln42791 hmn42791
    refine VC.seq ?_
    refine VC.region ?_
    by_cases c42795 : (mp42721.all fun z => (tarrylaw15_NetOnce.b997 k z.1 z.2).isSome) = true
    · rw [if_pos c42795] at h
      refine VL.next (ke := mI) (ve := mI) 0 hbg42788 rfl hne_g4_g42788 ⟨⟨hne_g4_g42788, hne_g4_g42788⟩, trivial, trivial⟩ rfl (ltn rfl) rfl ?_ ?_
      · intro hvn42791
        refine VL.va (op_extract rfl rfl (ltn rfl)) rfl ?_
        refine VL.done ?_
        refine VN.then ?_
        refine VC.seq ?_
        refine VC.cond_f rfl ?_
        refine VC.exit ?_
        refine VX.then ?_
        refine VX.then ?_
        refine VX.hit ?_
        refine VN.then ?_
        refine VC.seq ?_
        refine VC.region ?_
        replace h := Option.bind_eq_some_iff.1 h
        obtain ⟨t42811, hA42812, h⟩ := h
        refine VL.sC (o_call0 FO13 (tarrylaw15_alive.ok k t42811 hA42812) rfl rfl (ltn rfl) (All_of .nil)) rfl ?_
        rintro _ _ _ ⟨rfl, rfl, rfl⟩
        refine VL.va (op_move rfl (ltn rfl)) rfl ?_
        by_cases c42813 : t42811 = true
        · rw [if_pos c42813] at h
          obtain rfl := c42813
          refine VL.va (op_load 0 2 rfl rfl TI24 rfl (fun h => absurd h (by decide)) (ltn rfl)) rfl ?_
          replace h := Option.bind_eq_some_iff.1 h
          obtain ⟨t42814, hA42815, h⟩ := h
          refine VL.sC (o_call0 FO11 (net_Right.ok k l42685 i42686 v42684 t42814 hA42815) rfl rfl (ltn rfl) (All_of (.cons (List.mem_of_getElem? (i := 2) rfl) .nil))) rfl ?_
          rintro _ _ _ ⟨rfl, rfl, rfl⟩
          refine VL.va (op_pick rfl rfl (ltn rfl)) rfl ?_
          refine VL.va (op_assign rfl (ltn rfl)) rfl ?_
          refine VL.done ?_
          refine VN.then ?_
          refine VC.ret ?_
          obtain rfl := Option.some.inj h
          exact VR.fn (rs := [.tmp 4]) [] [] [] rfl (.tmp rfl .nil) ⟨rfl, rfl, rfl⟩ trivial rfl (by decide)
        · rw [if_neg c42813] at h
          obtain rfl := Bool.eq_false_iff.2 c42813
          refine VL.un rfl rfl (ltn rfl) ?_
          refine VL.un rfl rfl (ltn rfl) ?_
          refine VL.va (op_pick rfl rfl (ltn rfl)) rfl ?_
          refine VL.va (op_assign rfl (ltn rfl)) rfl ?_
          refine VL.done ?_
          refine VN.then ?_
          refine VC.ret ?_
          cases h
      · intro i42792 i42793 L42794 hnn42791 hyn42791 hsn42791
        have hxn42791 : (tarrylaw15_NetOnce.b997 k i42792 i42793).isSome = true := List.all_eq_true.1 c42795 (i42792, i42793) (hmn42791 _ hyn42791)
        clear h
        obtain ⟨_, h⟩ := Option.isSome_iff_exists.1 hxn42791
        unfold tarrylaw15_NetOnce.b997 at h
        refine VL.va (op_extract rfl rfl (ltn rfl)) rfl ?_
        refine VL.done ?_
        refine VN.then ?_
        refine VC.seq ?_
        refine VC.cond_t rfl ?_
        refine VC.skip ?_
        refine VN.then ?_
        refine VC.block ?_
        refine VC.seq ?_
        refine VC.region ?_
        refine VL.va (op_entry (p := (mI i42792, mI i42793)) 0 rfl rfl (ltn rfl)) rfl ?_
        refine VL.va (op_extract rfl rfl (ltn rfl)) rfl ?_
        refine VL.va (op_assign rfl (ltn rfl)) rfl ?_
        refine VL.done ?_
        refine VN.then ?_
        refine VC.seq ?_
        refine VC.region ?_
        refine VL.va (op_move rfl (ltn rfl)) rfl ?_
        refine VL.letter ((i42793 != 0)) fun b42816 hb42816 => ?_
        refine VL.va (op_cmp rfl rfl (congrArg some hb42816) (ltn rfl)) rfl ?_
        refine VL.done ?_
        refine VN.then ?_
        by_cases c42817 : i42793 = 0
        · rw [if_pos c42817] at h
          obtain rfl : b42816 = false := hb42816.symm.trans (bne_eq_false_iff_eq.2 c42817)
          refine VC.cond_f rfl ?_
          refine VC.skip ?_
          refine VN.block ?_
          refine VN.again [0] [] (ihn42791 L42794 (some (i42792, i42793)) (by omega) (fun z hz => hmn42791 z (hsn42791 z hz))) ⟨rfl, ⟨rfl, rfl, rfl, trivial⟩, ⟨⟨0, rfl⟩, ⟨1, rfl⟩, ⟨2, rfl⟩, trivial⟩, rfl, by decide, rfl, by decide⟩
        · rw [if_neg c42817] at h
          obtain rfl : b42816 = true := hb42816.symm.trans (bne_iff_ne.2 c42817)
          refine VC.cond_t rfl ?_
          refine VC.seq ?_
          refine VC.region ?_
          refine VL.va (op_assign rfl (ltn rfl)) rfl ?_
          refine VL.done ?_
          refine VN.then ?_
          refine VC.ret ?_
          refine VR.block ?_
          refine VR.then ?_
          refine VR.block ?_
          refine VR.then ?_
          cases h
    · rw [if_neg c42795] at h; cases h

end Go.Proofs.Ytjghhdnecilcfaa.PNetOnce
