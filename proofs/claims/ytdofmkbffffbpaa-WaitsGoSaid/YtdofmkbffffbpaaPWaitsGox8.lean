/- Written by a program of this repo: what the program's functions do, each as a Lean function, shown of the loaded code; or a statement's row over that; no condition of its own. -/
import Derived.Test.YtdofmkbffffbpaaPWaitsGox7
namespace Go.Proofs.Ytdofmkbffffbpaa.PWaitsGo
open Go Go.RowKit Go.Proofs.YtdofmkbffffbpaaV
set_option linter.unusedVariables false
set_option linter.unusedSimpArgs false

set_option maxHeartbeats 4000000 in
set_option maxRecDepth 100000 in
theorem tarryref09_Make.ok (k : Nat) (l0 : List S25) (v0 : Value) (r1 : List S25) (h : tarryref09_Make.f k l0 = some r1) :
    VCalls Try.prog 16 [v0] [.row v0 4 (l0.map enc25)] (fun v G own => ∃ w0 : Value, v = w0 ∧ G = [] ∧ own = [(w0, 26, 4, r1.map enc25)]) := by
  refine VCalls.intro Try.func16 rfl (len rfl) fun E hC hW hD hU => ?_
  unfold tarryref09_Make.f at h
  refine VC.seq ?_
  refine VC.region ?_
  refine VL.va (op_assign rfl (ltn rfl)) rfl ?_
  refine VL.done ?_
  refine VN.then ?_
  refine VC.seq ?_
  refine VC.region ?_
  refine VL.sG (o_buildSlice (vals := []) (cells := #[]) (es := List.map enc25 ([] : List S25)) Try.underlying22 TI26 Z26 rfl (by decide) (by decide) (by kernel_rfl) (by kernel_rfl) rfl (flat_map enc25_ok _) (ltn rfl)) rfl ?_
  intro v3400
  refine VL.va (op_assign rfl (ltn rfl)) rfl ?_
  refine VL.done ?_
  refine VN.then ?_
  refine VC.seq ?_
  refine VC.seq ?_
  refine VC.region ?_
  refine VL.va (op_move rfl (ltn rfl)) rfl ?_
  refine VL.va (op_len (m := l0.length) 0 lenm Try.underlying22 rfl rfl (ltn rfl)) rfl ?_
  refine VL.va (op_move rfl (ltn rfl)) rfl ?_
  refine VL.done ?_
  refine VN.then ?_
  refine VC.block ?_
  refine VC.loop3 (fun (v4895 : Value) (l4896 : List S25) (i4897 : Int) => ⟨47, [(2, .slice none 0 0), (3, v4895), (9, v0), (10, .int .i64 (l0.length : Int)), (11, .int .i64 i4897)], [.row v0 4 (l0.map enc25)], [], [(v4895, 26, 4, l4896.map enc25)]⟩) (fun (ml5 : Nat) (v4895 : Value) (l4896 : List S25) (i4897 : Int) => tarryref09_Make.l5 k l0 ml5 l4896 i4897 = some r1) k v3400 ([] : List S25) 0 [] [0] h ⟨rfl, ⟨rfl, rfl, rfl, rfl, rfl, trivial⟩, ⟨⟨0, rfl⟩, trivial⟩, rfl, by decide, rfl, by decide⟩ (by intros; simp [tarryref09_Make.l5]) ?_
  clear h
  intro ml5 ihl5 v4895 l4896 i4897 h
  simp only [tarryref09_Make.l5] at h
  refine VC.seq ?_
  refine VC.region ?_
  refine VL.letter (decide (i4897 < (l0.length : Int))) fun b5225 hb5225 => ?_
  refine VL.va (op_cmp rfl rfl (congrArg some hb5225) (ltn rfl)) rfl ?_
  refine VL.done ?_
  refine VN.then ?_
  refine VC.seq ?_
  by_cases c5227 : i4897 < (l0.length : Int)
  · rw [if_pos c5227] at h
    obtain rfl : b5225 = true := hb5225.symm.trans (decide_eq_true c5227)
    refine VC.cond_t rfl ?_
    refine VC.skip ?_
    refine VN.then ?_
    refine VC.seq ?_
    refine VC.block ?_
    refine VC.seq ?_
    refine VC.region ?_
    by_cases c5389 : 0 ≤ i4897
    · rw [if_pos c5389] at h
      replace h := Option.bind_eq_some_iff.1 h
      obtain ⟨x5390, hx5390, h⟩ := h
      refine VL.open (m := l0.length) 0 lenm rfl (pos_get hx5390) ?_
      rintro ad5391 n5392 rfl
      refine VL.va (op_indexAddr Try.underlying22 TI26 rfl rfl c5389 (lt_get c5389 hx5390) rfl (ltn rfl)) rfl ?_
      refine VL.va (op_load_row (sz := 4) (o := 0) 0 i4897.toNat 4 rfl rfl (get_map hx5390) TI26 rfl (fun h => absurd h (by decide)) (ltn rfl)) rfl ?_
      refine VL.sG (o_alloc Z26 ZL26 (ltn rfl)) rfl ?_
      intro g5393
      refine VL.step1 (o_store 0 4 rfl rfl rfl TI26 (.agg (.of rfl)) rfl (len rfl)) rfl ?_
      refine VL.done ?_
      refine VN.then ?_
      refine VC.seq ?_
      refine VC.region ?_
      refine VL.va (op_assign rfl (ltn rfl)) rfl ?_
      refine VL.done ?_
      refine VN.then ?_
      refine VC.seq ?_
      refine VC.block ?_
      refine VC.loop1 (fun (i5447 : Int) => ⟨47, [(2, .slice none 0 0), (3, v4895), (5, .pointer (some ⟨g5393, 0, none⟩)), (6, .int .i64 i5447), (9, (.slice (some ad5391) l0.length n5392)), (10, .int .i64 (l0.length : Int)), (11, .int .i64 i4897), (12, .bool true), (14, .agg #[.string x5390.f0, .int .i64 x5390.f1, .int .i64 x5390.f2, .int .i64 x5390.f3])], [.row (.slice (some ad5391) l0.length n5392) 4 (l0.map enc25)], [(g5393, 26, [.string x5390.f0, .int .i64 x5390.f1, .int .i64 x5390.f2, .int .i64 x5390.f3])], [(v4895, 26, 4, l4896.map enc25)]⟩) (fun (ml9 : Nat) (i5447 : Int) => tarryref09_Make.l9 k (tarryref09_Make.l5 k l0 ml5) i4897 l4896 x5390 ml9 i5447 = some r1) k 0 [0] [0] h ⟨rfl, ⟨rfl, rfl, rfl, rfl, rfl, rfl, rfl, rfl, rfl, trivial⟩, ⟨⟨0, rfl⟩, trivial⟩, rfl, by decide, rfl, by decide⟩ (by intros; simp [tarryref09_Make.l9]) ?_
      clear h
      intro ml9 ihl9 i5447 h
      simp only [tarryref09_Make.l9] at h
      refine VC.seq ?_
      refine VC.letter (decide (i5447 < (l4896.length : Int))) fun b5506 hb5506 => ?_
      by_cases c5507 : i5447 < (l4896.length : Int)
      · rw [if_pos c5507] at h
        obtain rfl : b5506 = true := hb5506.symm.trans (decide_eq_true c5507)
        by_cases c5508 : 0 ≤ i5447
        · rw [if_pos c5508] at h
          replace h := Option.bind_eq_some_iff.1 h
          obtain ⟨x5509, hx5509, h⟩ := h
          replace h := Option.bind_eq_some_iff.1 h
          obtain ⟨t5510, hA5511, h⟩ := h
          refine VC.openR (m := l4896.length) 0 lenm rfl (pos_get hx5509) ?_
          rintro g4909 n4910 rfl
          refine VC.join0 (⟨47, [(2, .slice none 0 0), (3, (.slice (some ⟨g4909, 0, none⟩) l4896.length n4910)), (5, .pointer (some ⟨g5393, 0, none⟩)), (6, .int .i64 i5447), (9, (.slice (some ad5391) l0.length n5392)), (10, .int .i64 (l0.length : Int)), (11, .int .i64 i4897), (12, .bool true), (14, .agg #[.string x5390.f0, .int .i64 x5390.f1, .int .i64 x5390.f2, .int .i64 x5390.f3]), (15, .int .i64 i5447), (16, (.slice (some ⟨g4909, 0, none⟩) l4896.length n4910)), (17, .int .i64 (l4896.length : Int)), (18, .bool true), (19, .bool true), (20, (.slice (some ⟨g4909, 0, none⟩) l4896.length n4910)), (21, .int .i64 i5447), (23, .agg #[.string x5509.f0, .int .i64 x5509.f1, .int .i64 x5509.f2, .int .i64 x5509.f3]), (24, .agg #[.string x5390.f0, .int .i64 x5390.f1, .int .i64 x5390.f2, .int .i64 x5390.f3]), (25, .bool t5510), (26, .bool t5510)], [.row (.slice (some ad5391) l0.length n5392) 4 (l0.map enc25)], [(g5393, 26, [.string x5390.f0, .int .i64 x5390.f1, .int .i64 x5390.f2, .int .i64 x5390.f3])], [((.slice (some ⟨g4909, 0, none⟩) l4896.length n4910), 26, 4, l4896.map enc25)]⟩) (True) ?_ ?_
          · refine VC.draw ⟨0, [], [], [(g5393, 26, [.string x5390.f0, .int .i64 x5390.f1, .int .i64 x5390.f2, .int .i64 x5390.f3])], [((.slice (some ⟨g4909, 0, none⟩) l4896.length n4910), 26, 4, l4896.map enc25)]⟩ (by kernel_rfl) rfl (by kernel_rfl) (n := 12) (listed := LB 12 0) ?_
            refine VA.va (i := 0) (listed' := LB 12 1) rfl (op_move rfl (ltn rfl)) rfl (by kernel_rfl) (by kernel_rfl) (by kernel_rfl) (by kernel_rfl) ⟨trivial, ⟨⟨0, rfl⟩, trivial⟩, ⟨⟨0, rfl⟩, trivial⟩⟩ (fun _ _ _ h => h) ?_
            refine VA.va (i := 1) (listed' := LB 12 3) rfl (op_move rfl (ltn rfl)) rfl (by kernel_rfl) (by kernel_rfl) (by kernel_rfl) (by kernel_rfl) ⟨trivial, ⟨⟨0, rfl⟩, trivial⟩, ⟨⟨0, rfl⟩, trivial⟩⟩ (fun _ _ _ h => h) ?_
            refine VA.va (i := 2) (listed' := LB 12 7) rfl (op_len_own (m := l4896.length) 0 lenm Try.underlying22 rfl rfl (ltn rfl)) rfl (by kernel_rfl) (by kernel_rfl) (by kernel_rfl) (by kernel_rfl) ⟨trivial, ⟨⟨0, rfl⟩, trivial⟩, ⟨⟨0, rfl⟩, trivial⟩⟩ (fun _ _ _ h => h) ?_
            refine VA.va (i := 3) (listed' := LB 12 15) rfl (op_cmp rfl rfl (congrArg some hb5506) (ltn rfl)) rfl (by kernel_rfl) (by kernel_rfl) (by kernel_rfl) (by kernel_rfl) ⟨trivial, ⟨⟨0, rfl⟩, trivial⟩, ⟨⟨0, rfl⟩, trivial⟩⟩ (fun _ _ _ h => h) ?_
            refine VA.va (i := 4) (listed' := LB 12 31) rfl (op_move rfl (ltn rfl)) rfl (by kernel_rfl) (by kernel_rfl) (by kernel_rfl) (by kernel_rfl) ⟨trivial, ⟨⟨0, rfl⟩, trivial⟩, ⟨⟨0, rfl⟩, trivial⟩⟩ (fun _ _ _ h => h) ?_
            refine VA.va (i := 5) (listed' := LB 12 63) rfl (op_move rfl (ltn rfl)) rfl (by kernel_rfl) (by kernel_rfl) (by kernel_rfl) (by kernel_rfl) ⟨trivial, ⟨⟨0, rfl⟩, trivial⟩, ⟨⟨0, rfl⟩, trivial⟩⟩ (fun _ _ _ h => h) ?_
            refine VA.va (i := 6) (listed' := LB 12 127) rfl (op_move rfl (ltn rfl)) rfl (by kernel_rfl) (by kernel_rfl) (by kernel_rfl) (by kernel_rfl) ⟨trivial, ⟨⟨0, rfl⟩, trivial⟩, ⟨⟨0, rfl⟩, trivial⟩⟩ (fun _ _ _ h => h) ?_
            refine VA.va (i := 7) (listed' := LB 12 255) rfl (op_indexAddr Try.underlying22 TI26 rfl rfl c5508 (lt_get c5508 hx5509) (add_zero_at _ _) (ltn rfl)) rfl (by kernel_rfl) (by kernel_rfl) (by kernel_rfl) (by kernel_rfl) ⟨trivial, ⟨⟨0, rfl⟩, trivial⟩, ⟨⟨0, rfl⟩, trivial⟩⟩ (fun _ _ _ h => h) ?_
            refine VA.va (i := 8) (listed' := LB 12 511) rfl (op_load_own (sz := 4) (o := 0) 0 i5447.toNat 4 rfl rfl (get_map hx5509) TI26 rfl (fun h => absurd h (by decide)) (ltn rfl)) rfl (by kernel_rfl) (by kernel_rfl) (by kernel_rfl) (by kernel_rfl) ⟨trivial, ⟨⟨0, rfl⟩, trivial⟩, ⟨⟨0, rfl⟩, trivial⟩⟩ (fun _ _ _ h => h) ?_
            refine VA.va (i := 9) (listed' := LB 12 1023) rfl (op_load 0 4 rfl rfl TI26 rfl (fun h => absurd h (by decide)) (ltn rfl)) rfl (by kernel_rfl) (by kernel_rfl) (by kernel_rfl) (by kernel_rfl) ⟨trivial, ⟨⟨0, rfl⟩, trivial⟩, ⟨⟨0, rfl⟩, trivial⟩⟩ (fun _ _ _ h => h) ?_
            refine VA.oneC (i := 10) (listed' := LB 12 2047) (by kernel_rfl) rfl (o_call0 FO38 (tarryref09_Less.ok k x5509.f0 x5509.f1 x5509.f2 x5509.f3 x5390.f0 x5390.f1 x5390.f2 x5390.f3 t5510 hA5511) rfl rfl (ltn rfl) (All_of .nil)) rfl (by kernel_rfl) ?_
            rintro _ _ _ ⟨rfl, rfl, rfl⟩
            refine ⟨⟨trivial, ⟨⟨0, rfl⟩, trivial⟩, ⟨⟨0, rfl⟩, trivial⟩⟩, ?_⟩
            refine VA.va (i := 11) (listed' := LB 12 4095) rfl (op_pick rfl rfl (ltn rfl)) rfl (by kernel_rfl) (by kernel_rfl) (by kernel_rfl) (by kernel_rfl) ⟨trivial, ⟨⟨0, rfl⟩, trivial⟩, ⟨⟨0, rfl⟩, trivial⟩⟩ (fun _ _ _ h => h) ?_
            refine VA.done (by kernel_rfl) ?_
            exact VN.meet0  [0] [0] trivial ⟨rfl, ⟨rfl, rfl, rfl, rfl, rfl, rfl, rfl, rfl, rfl, rfl, rfl, rfl, rfl, rfl, rfl, rfl, rfl, rfl, rfl, rfl, trivial⟩, ⟨⟨0, rfl⟩, trivial⟩, rfl, by decide, rfl, by decide⟩
          intro _
          by_cases c5512 : t5510 = true
          · rw [if_pos c5512] at h
            obtain rfl := c5512
            refine VC.cond_t rfl ?_
            refine VC.skip ?_
            refine VN.then ?_
            refine VC.block ?_
            refine VC.region ?_
            refine VL.va (op_move rfl (ltn rfl)) rfl ?_
            refine VL.va (op_ari64 rfl rfl rfl (ltn rfl)) rfl ?_
            refine VL.va (op_assign rfl (ltn rfl)) rfl ?_
            refine VL.done ?_
            refine VN.block ?_
            refine VN.again [0] [0] (ihl9 (wrap64 (i5447 + 1)) h) ⟨rfl, ⟨rfl, rfl, rfl, rfl, rfl, rfl, rfl, rfl, rfl, trivial⟩, ⟨⟨0, rfl⟩, trivial⟩, rfl, by decide, rfl, by decide⟩
          · rw [if_neg c5512] at h
            obtain rfl := Bool.eq_false_iff.2 c5512
            refine VC.cond_f rfl ?_
            refine VC.exit ?_
            refine VX.then ?_
            refine VX.then ?_
            refine VX.hit ?_
            refine VN.then ?_
            refine VC.seq ?_
            refine VC.region ?_
            refine VL.sG (o_buildSlice (vals := []) (cells := #[]) (es := List.map enc25 ([] : List S25)) Try.underlying22 TI26 Z26 rfl (by decide) (by decide) (by kernel_rfl) (by kernel_rfl) rfl (flat_map enc25_ok _) (ltn rfl)) rfl ?_
            intro v5514
            refine VL.va (op_assign rfl (ltn rfl)) rfl ?_
            refine VL.done ?_
            refine VN.then ?_
            refine VC.seq ?_
            refine VC.region ?_
            refine VL.va (op_move rfl (ltn rfl)) rfl ?_
            refine VL.va (op_move rfl (ltn rfl)) rfl ?_
            refine VL.va (op_move rfl (ltn rfl)) rfl ?_
            refine VL.freezeRow' 1 rfl ?_
            by_cases c5515 : i5447 ≤ (l4896.length : Int)
            · rw [if_pos c5515] at h
              refine VL.sG (o_slice (m := l4896.length) 0 0 i5447.toNat lenm cutm Try.underlying22 TI26 rfl rfl ⟨rfl, ⟨_, _, rfl, c5508, rfl⟩, by omega, by omega⟩ (ltn rfl)) rfl ?_
              intro v5517
              by_cases c5518 : (([] : List S25).length + ((l4896.take i5447.toNat).drop 0).length) * 40 ≤ 140737488355328
              · rw [if_pos c5518] at h
                refine VL.sG (o_append 0 appm Try.underlying22 EI26 rfl rfl rfl (.inl ⟨0, rfl⟩) (bndm c5518) (ltn rfl)) rfl ?_
                intro v5519
                refine VL.va (op_assign rfl (ltn rfl)) rfl ?_
                refine VL.done ?_
                refine VN.then ?_
                refine VC.seq ?_
                refine VC.region ?_
                refine VL.va (op_move rfl (ltn rfl)) rfl ?_
                refine VL.va (op_load 0 4 rfl rfl TI26 rfl (fun h => absurd h (by decide)) (ltn rfl)) rfl ?_
                refine VL.sG (o_buildSlice (vals := [(0, .agg #[.string x5390.f0, .int .i64 x5390.f1, .int .i64 x5390.f2, .int .i64 x5390.f3])]) (cells := #[.string x5390.f0, .int .i64 x5390.f1, .int .i64 x5390.f2, .int .i64 x5390.f3]) (es := List.map enc25 ([x5390] : List S25)) Try.underlying22 TI26 Z26 rfl (by decide) (by decide) (by kernel_rfl) (by kernel_rfl) rfl (flat_map enc25_ok _) (ltn rfl)) rfl ?_
                intro v5522
                by_cases c5523 : ((([] : List S25) ++ ((l4896.take i5447.toNat).drop 0)).length + ([x5390] : List S25).length) * 40 ≤ 140737488355328
                · rw [if_pos c5523] at h
                  refine VL.sG (o_append 1 appm Try.underlying22 EI26 rfl rfl rfl (.inr ⟨0, _, rfl⟩) (bndm c5523) (ltn rfl)) rfl ?_
                  intro v5524
                  refine VL.va (op_assign rfl (ltn rfl)) rfl ?_
                  refine VL.done ?_
                  refine VN.then ?_
                  refine VC.seq ?_
                  refine VC.region ?_
                  refine VL.va (op_move rfl (ltn rfl)) rfl ?_
                  refine VL.va (op_move rfl (ltn rfl)) rfl ?_
                  refine VL.va (op_move rfl (ltn rfl)) rfl ?_
                  refine VL.sG (o_slice (m := l4896.length) 1 i5447.toNat l4896.length lenm cutm Try.underlying22 TI26 rfl rfl ⟨⟨_, _, rfl, c5508, rfl⟩, rfl, by omega, by omega⟩ (ltn rfl)) rfl ?_
                  intro v5527
                  by_cases c5528 : (((([] : List S25) ++ ((l4896.take i5447.toNat).drop 0)) ++ ([x5390] : List S25)).length + ((l4896.take l4896.length).drop i5447.toNat).length) * 40 ≤ 140737488355328
                  · rw [if_pos c5528] at h
                    refine VL.sG (o_append 1 appm Try.underlying22 EI26 rfl rfl rfl (.inl ⟨0, rfl⟩) (bndm c5528) (ltn rfl)) rfl ?_
                    intro v5529
                    refine VL.va (op_assign rfl (ltn rfl)) rfl ?_
                    refine VL.done ?_
                    refine VN.then ?_
                    refine VC.region ?_
                    refine VL.va (op_move rfl (ltn rfl)) rfl ?_
                    refine VL.va (op_assign rfl (ltn rfl)) rfl ?_
                    refine VL.done ?_
                    refine VN.block ?_
                    refine VN.then ?_
                    refine VC.region ?_
                    refine VL.va (op_ari64 rfl rfl rfl (ltn rfl)) rfl ?_
                    refine VL.va (op_move rfl (ltn rfl)) rfl ?_
                    refine VL.done ?_
                    refine VN.again [] [1] (ihl5 v5529 (((([] : List S25) ++ ((l4896.take i5447.toNat).drop 0)) ++ ([x5390] : List S25)) ++ ((l4896.take l4896.length).drop i5447.toNat)) (wrap64 (i4897 + 1)) h) ⟨rfl, ⟨rfl, rfl, rfl, rfl, rfl, trivial⟩, ⟨⟨3, rfl⟩, trivial⟩, rfl, by decide, rfl, by decide⟩
                  · rw [if_neg c5528] at h; cases h
                · rw [if_neg c5523] at h; cases h
              · rw [if_neg c5518] at h; cases h
            · rw [if_neg c5515] at h; cases h
        · rw [if_neg c5508] at h; cases h
      · rw [if_neg c5507] at h
        obtain rfl : b5506 = false := hb5506.symm.trans (decide_eq_false c5507)
        refine VC.join0 (⟨47, [(2, .slice none 0 0), (3, v4895), (5, .pointer (some ⟨g5393, 0, none⟩)), (6, .int .i64 i5447), (9, (.slice (some ad5391) l0.length n5392)), (10, .int .i64 (l0.length : Int)), (11, .int .i64 i4897), (12, .bool true), (14, .agg #[.string x5390.f0, .int .i64 x5390.f1, .int .i64 x5390.f2, .int .i64 x5390.f3]), (15, .int .i64 i5447), (16, v4895), (17, .int .i64 (l4896.length : Int)), (18, .bool false), (19, .bool false), (20, undef), (21, undef), (22, undef), (23, undef), (24, undef), (25, undef), (26, .bool false)], [.row (.slice (some ad5391) l0.length n5392) 4 (l0.map enc25)], [(g5393, 26, [.string x5390.f0, .int .i64 x5390.f1, .int .i64 x5390.f2, .int .i64 x5390.f3])], [(v4895, 26, 4, l4896.map enc25)]⟩) (True) ?_ ?_
        · refine VC.draw ⟨0, [], [], [], [(v4895, 26, 4, l4896.map enc25)]⟩ (by kernel_rfl) rfl (by kernel_rfl) (n := 12) (listed := LB 12 0) ?_
          refine VA.va (i := 0) (listed' := LB 12 1) rfl (op_move rfl (ltn rfl)) rfl (by kernel_rfl) (by kernel_rfl) (by kernel_rfl) (by kernel_rfl) ⟨trivial, trivial, ⟨⟨0, rfl⟩, trivial⟩⟩ (fun _ _ _ h => h) ?_
          refine VA.va (i := 1) (listed' := LB 12 3) rfl (op_move rfl (ltn rfl)) rfl (by kernel_rfl) (by kernel_rfl) (by kernel_rfl) (by kernel_rfl) ⟨trivial, trivial, ⟨⟨0, rfl⟩, trivial⟩⟩ (fun _ _ _ h => h) ?_
          refine VA.va (i := 2) (listed' := LB 12 7) rfl (op_len_own (m := l4896.length) 0 lenm Try.underlying22 rfl rfl (ltn rfl)) rfl (by kernel_rfl) (by kernel_rfl) (by kernel_rfl) (by kernel_rfl) ⟨trivial, trivial, ⟨⟨0, rfl⟩, trivial⟩⟩ (fun _ _ _ h => h) ?_
          refine VA.va (i := 3) (listed' := LB 12 15) rfl (op_cmp rfl rfl (congrArg some hb5506) (ltn rfl)) rfl (by kernel_rfl) (by kernel_rfl) (by kernel_rfl) (by kernel_rfl) ⟨trivial, trivial, ⟨⟨0, rfl⟩, trivial⟩⟩ (fun _ _ _ h => h) ?_
          refine VA.va (i := 4) (listed' := LB 12 31) rfl (op_move rfl (ltn rfl)) rfl (by kernel_rfl) (by kernel_rfl) (by kernel_rfl) (by kernel_rfl) ⟨trivial, trivial, ⟨⟨0, rfl⟩, trivial⟩⟩ (fun _ _ _ h => h) ?_
          refine VA.un (i := 5) (listed' := LB 12 63) rfl rfl rfl (ltn rfl) (by kernel_rfl) (by kernel_rfl) (by kernel_rfl) (by kernel_rfl) ⟨trivial, trivial, ⟨⟨0, rfl⟩, trivial⟩⟩ (fun _ _ _ h => h) ?_
          refine VA.un (i := 6) (listed' := LB 12 127) rfl rfl rfl (ltn rfl) (by kernel_rfl) (by kernel_rfl) (by kernel_rfl) (by kernel_rfl) ⟨trivial, trivial, ⟨⟨0, rfl⟩, trivial⟩⟩ (fun _ _ _ h => h) ?_
          refine VA.un (i := 7) (listed' := LB 12 255) rfl rfl rfl (ltn rfl) (by kernel_rfl) (by kernel_rfl) (by kernel_rfl) (by kernel_rfl) ⟨trivial, trivial, ⟨⟨0, rfl⟩, trivial⟩⟩ (fun _ _ _ h => h) ?_
          refine VA.un (i := 8) (listed' := LB 12 511) rfl rfl rfl (ltn rfl) (by kernel_rfl) (by kernel_rfl) (by kernel_rfl) (by kernel_rfl) ⟨trivial, trivial, ⟨⟨0, rfl⟩, trivial⟩⟩ (fun _ _ _ h => h) ?_
          refine VA.un (i := 9) (listed' := LB 12 1023) rfl rfl rfl (ltn rfl) (by kernel_rfl) (by kernel_rfl) (by kernel_rfl) (by kernel_rfl) ⟨trivial, trivial, ⟨⟨0, rfl⟩, trivial⟩⟩ (fun _ _ _ h => h) ?_
          refine VA.un (i := 10) (listed' := LB 12 2047) rfl rfl rfl (ltn rfl) (by kernel_rfl) (by kernel_rfl) (by kernel_rfl) (by kernel_rfl) ⟨trivial, trivial, ⟨⟨0, rfl⟩, trivial⟩⟩ (fun _ _ _ h => h) ?_
          refine VA.va (i := 11) (listed' := LB 12 4095) rfl (op_pick rfl rfl (ltn rfl)) rfl (by kernel_rfl) (by kernel_rfl) (by kernel_rfl) (by kernel_rfl) ⟨trivial, trivial, ⟨⟨0, rfl⟩, trivial⟩⟩ (fun _ _ _ h => h) ?_
          refine VA.done (by kernel_rfl) ?_
          exact VN.meet0  [0] [0] trivial ⟨rfl, ⟨rfl, rfl, rfl, rfl, rfl, rfl, rfl, rfl, rfl, rfl, rfl, rfl, rfl, rfl, rfl, rfl, rfl, rfl, rfl, rfl, rfl, trivial⟩, ⟨⟨0, rfl⟩, trivial⟩, rfl, by decide, rfl, by decide⟩
        intro _
        refine VC.cond_f rfl ?_
        refine VC.exit ?_
        refine VX.then ?_
        refine VX.then ?_
        refine VX.hit ?_
        refine VN.then ?_
        refine VC.seq ?_
        refine VC.region ?_
        refine VL.sG (o_buildSlice (vals := []) (cells := #[]) (es := List.map enc25 ([] : List S25)) Try.underlying22 TI26 Z26 rfl (by decide) (by decide) (by kernel_rfl) (by kernel_rfl) rfl (flat_map enc25_ok _) (ltn rfl)) rfl ?_
        intro v5532
        refine VL.va (op_assign rfl (ltn rfl)) rfl ?_
        refine VL.done ?_
        refine VN.then ?_
        refine VC.seq ?_
        refine VC.region ?_
        refine VL.va (op_move rfl (ltn rfl)) rfl ?_
        refine VL.va (op_move rfl (ltn rfl)) rfl ?_
        refine VL.va (op_move rfl (ltn rfl)) rfl ?_
        refine VL.freezeRow' 1 rfl ?_
        by_cases c5533 : 0 ≤ i5447
        · rw [if_pos c5533] at h
          by_cases c5534 : i5447 ≤ (l4896.length : Int)
          · rw [if_pos c5534] at h
            refine VL.sG (o_slice (m := l4896.length) 0 0 i5447.toNat lenm cutm Try.underlying22 TI26 rfl rfl ⟨rfl, ⟨_, _, rfl, c5533, rfl⟩, by omega, by omega⟩ (ltn rfl)) rfl ?_
            intro v5536
            by_cases c5537 : (([] : List S25).length + ((l4896.take i5447.toNat).drop 0).length) * 40 ≤ 140737488355328
            · rw [if_pos c5537] at h
              refine VL.sG (o_append 0 appm Try.underlying22 EI26 rfl rfl rfl (.inl ⟨0, rfl⟩) (bndm c5537) (ltn rfl)) rfl ?_
              intro v5538
              refine VL.va (op_assign rfl (ltn rfl)) rfl ?_
              refine VL.done ?_
              refine VN.then ?_
              refine VC.seq ?_
              refine VC.region ?_
              refine VL.va (op_move rfl (ltn rfl)) rfl ?_
              refine VL.va (op_load 0 4 rfl rfl TI26 rfl (fun h => absurd h (by decide)) (ltn rfl)) rfl ?_
              refine VL.sG (o_buildSlice (vals := [(0, .agg #[.string x5390.f0, .int .i64 x5390.f1, .int .i64 x5390.f2, .int .i64 x5390.f3])]) (cells := #[.string x5390.f0, .int .i64 x5390.f1, .int .i64 x5390.f2, .int .i64 x5390.f3]) (es := List.map enc25 ([x5390] : List S25)) Try.underlying22 TI26 Z26 rfl (by decide) (by decide) (by kernel_rfl) (by kernel_rfl) rfl (flat_map enc25_ok _) (ltn rfl)) rfl ?_
              intro v5541
              by_cases c5542 : ((([] : List S25) ++ ((l4896.take i5447.toNat).drop 0)).length + ([x5390] : List S25).length) * 40 ≤ 140737488355328
              · rw [if_pos c5542] at h
                refine VL.sG (o_append 1 appm Try.underlying22 EI26 rfl rfl rfl (.inr ⟨0, _, rfl⟩) (bndm c5542) (ltn rfl)) rfl ?_
                intro v5543
                refine VL.va (op_assign rfl (ltn rfl)) rfl ?_
                refine VL.done ?_
                refine VN.then ?_
                refine VC.seq ?_
                refine VC.region ?_
                refine VL.va (op_move rfl (ltn rfl)) rfl ?_
                refine VL.va (op_move rfl (ltn rfl)) rfl ?_
                refine VL.va (op_move rfl (ltn rfl)) rfl ?_
                refine VL.sG (o_slice (m := l4896.length) 1 i5447.toNat l4896.length lenm cutm Try.underlying22 TI26 rfl rfl ⟨⟨_, _, rfl, c5533, rfl⟩, rfl, by omega, by omega⟩ (ltn rfl)) rfl ?_
                intro v5546
                by_cases c5547 : (((([] : List S25) ++ ((l4896.take i5447.toNat).drop 0)) ++ ([x5390] : List S25)).length + ((l4896.take l4896.length).drop i5447.toNat).length) * 40 ≤ 140737488355328
                · rw [if_pos c5547] at h
                  refine VL.sG (o_append 1 appm Try.underlying22 EI26 rfl rfl rfl (.inl ⟨0, rfl⟩) (bndm c5547) (ltn rfl)) rfl ?_
                  intro v5548
                  refine VL.va (op_assign rfl (ltn rfl)) rfl ?_
                  refine VL.done ?_
                  refine VN.then ?_
                  refine VC.region ?_
                  refine VL.va (op_move rfl (ltn rfl)) rfl ?_
                  refine VL.va (op_assign rfl (ltn rfl)) rfl ?_
                  refine VL.done ?_
                  refine VN.block ?_
                  refine VN.then ?_
                  refine VC.region ?_
                  refine VL.va (op_ari64 rfl rfl rfl (ltn rfl)) rfl ?_
                  refine VL.va (op_move rfl (ltn rfl)) rfl ?_
                  refine VL.done ?_
                  refine VN.again [] [1] (ihl5 v5548 (((([] : List S25) ++ ((l4896.take i5447.toNat).drop 0)) ++ ([x5390] : List S25)) ++ ((l4896.take l4896.length).drop i5447.toNat)) (wrap64 (i4897 + 1)) h) ⟨rfl, ⟨rfl, rfl, rfl, rfl, rfl, trivial⟩, ⟨⟨3, rfl⟩, trivial⟩, rfl, by decide, rfl, by decide⟩
                · rw [if_neg c5547] at h; cases h
              · rw [if_neg c5542] at h; cases h
            · rw [if_neg c5537] at h; cases h
          · rw [if_neg c5534] at h; cases h
        · rw [if_neg c5533] at h; cases h
    · rw [if_neg c5389] at h; cases h
  · rw [if_neg c5227] at h
    obtain rfl : b5225 = false := hb5225.symm.trans (decide_eq_false c5227)
    refine VC.cond_f rfl ?_
    refine VC.exit ?_
    refine VX.then ?_
    refine VX.then ?_
    refine VX.hit ?_
    refine VN.then ?_
    refine VC.seq ?_
    refine VC.region ?_
    refine VL.va (op_move rfl (ltn rfl)) rfl ?_
    refine VL.va (op_assign rfl (ltn rfl)) rfl ?_
    refine VL.done ?_
    refine VN.then ?_
    refine VC.ret ?_
    obtain rfl := Option.some.inj h
    exact VR.fn (rs := [.tmp 2]) [] [(v4895, 26, 4, l4896.map enc25)] [0] rfl (.tmp rfl .nil) ⟨v4895, rfl, rfl, rfl⟩ trivial rfl (by decide)
set_option maxHeartbeats 4000000 in
set_option maxRecDepth 100000 in
theorem tarryref09_Same.ok (k : Nat) (l0 : List S25) (l1 : List S25) (v0 : Value) (v1 : Value) (r1 : Bool) (h : tarryref09_Same.f k l0 l1 = some r1) :
    VCalls Try.prog 15 [v0, v1] [.row v0 4 (l0.map enc25), .row v1 4 (l1.map enc25)] (fun v G own => v = .bool r1 ∧ G = [] ∧ own = []) := by
  refine VCalls.intro Try.func15 rfl (len rfl) fun E hC hW hD hU => ?_
  unfold tarryref09_Same.f at h
  refine VC.seq ?_
  refine VC.region ?_
  refine VL.va (op_assign rfl (ltn rfl)) rfl ?_
  refine VL.done ?_
  refine VN.then ?_
  refine VC.seq ?_
  refine VC.seq ?_
  refine VC.region ?_
  refine VL.va (op_move rfl (ltn rfl)) rfl ?_
  refine VL.va (op_len (m := l0.length) 0 lenm Try.underlying22 rfl rfl (ltn rfl)) rfl ?_
  refine VL.va (op_move rfl (ltn rfl)) rfl ?_
  refine VL.va (op_len (m := l1.length) 1 lenm Try.underlying22 rfl rfl (ltn rfl)) rfl ?_
  refine VL.letter (((l0.length : Int) != (l1.length : Int))) fun b5558 hb5558 => ?_
  refine VL.va (op_cmp rfl rfl (congrArg some hb5558) (ltn rfl)) rfl ?_
  refine VL.done ?_
  refine VN.then ?_
  by_cases c5559 : (l0.length : Int) = (l1.length : Int)
  · rw [if_pos c5559] at h
    obtain rfl : b5558 = false := hb5558.symm.trans (bne_eq_false_iff_eq.2 c5559)
    refine VC.cond_f rfl ?_
    refine VC.skip ?_
    refine VN.then ?_
    refine VC.seq ?_
    refine VC.seq ?_
    refine VC.region ?_
    refine VL.va (op_move rfl (ltn rfl)) rfl ?_
    refine VL.va (op_len (m := l0.length) 0 lenm Try.underlying22 rfl rfl (ltn rfl)) rfl ?_
    refine VL.va (op_move rfl (ltn rfl)) rfl ?_
    refine VL.done ?_
    refine VN.then ?_
    refine VC.block ?_
    refine VC.loop1 (fun (i5613 : Int) => ⟨26, [(0, v0), (1, v1), (4, .bool false), (12, .int .i64 (l0.length : Int)), (13, .int .i64 i5613)], [.row v0 4 (l0.map enc25), .row v1 4 (l1.map enc25)], [], []⟩) (fun (ml1 : Nat) (i5613 : Int) => tarryref09_Same.l1 k l0 l1 ml1 i5613 = some r1) k 0 [] [] h ⟨rfl, ⟨rfl, rfl, rfl, rfl, rfl, trivial⟩, ⟨⟨0, rfl⟩, ⟨1, rfl⟩, trivial⟩, rfl, by decide, rfl, by decide⟩ (by intros; simp [tarryref09_Same.l1]) ?_
    clear h
    intro ml1 ihl1 i5613 h
    simp only [tarryref09_Same.l1] at h
    refine VC.seq ?_
    refine VC.region ?_
    refine VL.letter (decide (i5613 < (l0.length : Int))) fun b5627 hb5627 => ?_
    refine VL.va (op_cmp rfl rfl (congrArg some hb5627) (ltn rfl)) rfl ?_
    refine VL.done ?_
    refine VN.then ?_
    refine VC.seq ?_
    by_cases c5629 : i5613 < (l0.length : Int)
    · rw [if_pos c5629] at h
      obtain rfl : b5627 = true := hb5627.symm.trans (decide_eq_true c5629)
      refine VC.cond_t rfl ?_
      refine VC.skip ?_
      refine VN.then ?_
      refine VC.seq ?_
      refine VC.block ?_
      refine VC.seq ?_
      refine VC.region ?_
      refine VL.va (op_move rfl (ltn rfl)) rfl ?_
      refine VL.va (op_assign rfl (ltn rfl)) rfl ?_
      refine VL.done ?_
      refine VN.then ?_
      by_cases c5635 : 0 ≤ i5613
      · rw [if_pos c5635] at h
        replace h := Option.bind_eq_some_iff.1 h
        obtain ⟨x5636, hx5636, h⟩ := h
        replace h := Option.bind_eq_some_iff.1 h
        obtain ⟨x5637, hx5637, h⟩ := h
        refine VC.letter ((!(((x5636.f0 == x5637.f0) && ((x5636.f1 == x5637.f1) && ((x5636.f2 == x5637.f2) && (x5636.f3 == x5637.f3))))))) fun b5638 hb5638 => ?_
        refine VC.open (m := l0.length) 0 lenm rfl (pos_get hx5636) ?_
        rintro ad5564 n5565 rfl
        refine VC.open (m := l1.length) 1 lenm rfl (pos_get hx5637) ?_
        rintro ad5567 n5568 rfl
        refine VC.join0 (⟨26, [(0, (.slice (some ad5564) l0.length n5565)), (1, (.slice (some ad5567) l1.length n5568)), (4, .bool false), (5, .int .i64 i5613), (12, .int .i64 (l0.length : Int)), (13, .int .i64 i5613), (14, .bool true), (15, .int .i64 i5613), (16, (.slice (some ad5564) l0.length n5565)), (17, .int .i64 i5613), (19, .agg #[.string x5636.f0, .int .i64 x5636.f1, .int .i64 x5636.f2, .int .i64 x5636.f3]), (20, (.slice (some ad5567) l1.length n5568)), (21, .int .i64 i5613), (23, .agg #[.string x5637.f0, .int .i64 x5637.f1, .int .i64 x5637.f2, .int .i64 x5637.f3]), (24, .bool b5638)], [.row (.slice (some ad5564) l0.length n5565) 4 (l0.map enc25), .row (.slice (some ad5567) l1.length n5568) 4 (l1.map enc25)], [], []⟩) (True) ?_ ?_
        · refine VC.draw ⟨0, [], [.row (.slice (some ad5564) l0.length n5565) 4 (l0.map enc25), .row (.slice (some ad5567) l1.length n5568) 4 (l1.map enc25)], [], []⟩ (by kernel_rfl) rfl (by kernel_rfl) (n := 9) (listed := LB 9 0) ?_
          refine VA.va (i := 0) (listed' := LB 9 1) rfl (op_move rfl (ltn rfl)) rfl (by kernel_rfl) (by kernel_rfl) (by kernel_rfl) (by kernel_rfl) ⟨⟨⟨0, rfl⟩, ⟨1, rfl⟩, trivial⟩, trivial, trivial⟩ (fun _ _ _ h => h) ?_
          refine VA.va (i := 1) (listed' := LB 9 3) rfl (op_move rfl (ltn rfl)) rfl (by kernel_rfl) (by kernel_rfl) (by kernel_rfl) (by kernel_rfl) ⟨⟨⟨0, rfl⟩, ⟨1, rfl⟩, trivial⟩, trivial, trivial⟩ (fun _ _ _ h => h) ?_
          refine VA.va (i := 2) (listed' := LB 9 7) rfl (op_indexAddr Try.underlying22 TI26 rfl rfl c5635 (lt_get c5635 hx5636) rfl (ltn rfl)) rfl (by kernel_rfl) (by kernel_rfl) (by kernel_rfl) (by kernel_rfl) ⟨⟨⟨0, rfl⟩, ⟨1, rfl⟩, trivial⟩, trivial, trivial⟩ (fun _ _ _ h => h) ?_
          refine VA.va (i := 3) (listed' := LB 9 15) rfl (op_load_row (sz := 4) (o := 0) 0 i5613.toNat 4 rfl rfl (get_map hx5636) TI26 rfl (fun h => absurd h (by decide)) (ltn rfl)) rfl (by kernel_rfl) (by kernel_rfl) (by kernel_rfl) (by kernel_rfl) ⟨⟨⟨0, rfl⟩, ⟨1, rfl⟩, trivial⟩, trivial, trivial⟩ (fun _ _ _ h => h) ?_
          refine VA.va (i := 4) (listed' := LB 9 31) rfl (op_move rfl (ltn rfl)) rfl (by kernel_rfl) (by kernel_rfl) (by kernel_rfl) (by kernel_rfl) ⟨⟨⟨0, rfl⟩, ⟨1, rfl⟩, trivial⟩, trivial, trivial⟩ (fun _ _ _ h => h) ?_
          refine VA.va (i := 5) (listed' := LB 9 63) rfl (op_move rfl (ltn rfl)) rfl (by kernel_rfl) (by kernel_rfl) (by kernel_rfl) (by kernel_rfl) ⟨⟨⟨0, rfl⟩, ⟨1, rfl⟩, trivial⟩, trivial, trivial⟩ (fun _ _ _ h => h) ?_
          refine VA.va (i := 6) (listed' := LB 9 127) rfl (op_indexAddr Try.underlying22 TI26 rfl rfl c5635 (lt_get c5635 hx5637) rfl (ltn rfl)) rfl (by kernel_rfl) (by kernel_rfl) (by kernel_rfl) (by kernel_rfl) ⟨⟨⟨0, rfl⟩, ⟨1, rfl⟩, trivial⟩, trivial, trivial⟩ (fun _ _ _ h => h) ?_
          refine VA.va (i := 7) (listed' := LB 9 255) rfl (op_load_row (sz := 4) (o := 0) 1 i5613.toNat 4 rfl rfl (get_map hx5637) TI26 rfl (fun h => absurd h (by decide)) (ltn rfl)) rfl (by kernel_rfl) (by kernel_rfl) (by kernel_rfl) (by kernel_rfl) ⟨⟨⟨0, rfl⟩, ⟨1, rfl⟩, trivial⟩, trivial, trivial⟩ (fun _ _ _ h => h) ?_
          refine VA.va (i := 8) (listed' := LB 9 511) rfl (op_neS rfl rfl EG26 (EQ26 x5636.f0 x5636.f1 x5636.f2 x5636.f3 x5637.f0 x5637.f1 x5637.f2 x5637.f3) hb5638 (ltn rfl)) rfl (by kernel_rfl) (by kernel_rfl) (by kernel_rfl) (by kernel_rfl) ⟨⟨⟨0, rfl⟩, ⟨1, rfl⟩, trivial⟩, trivial, trivial⟩ (fun _ _ _ h => h) ?_
          refine VA.done (by kernel_rfl) ?_
          exact VN.meet0  [] [] trivial ⟨rfl, ⟨rfl, rfl, rfl, rfl, rfl, rfl, rfl, rfl, rfl, rfl, rfl, rfl, rfl, rfl, rfl, trivial⟩, ⟨⟨0, rfl⟩, ⟨1, rfl⟩, trivial⟩, rfl, by decide, rfl, by decide⟩
        intro _
        by_cases c5639 : (((x5636.f0 == x5637.f0) && ((x5636.f1 == x5637.f1) && ((x5636.f2 == x5637.f2) && (x5636.f3 == x5637.f3))))) = true
        · rw [if_pos c5639] at h
          obtain rfl : b5638 = false := hb5638.symm.trans (not_t c5639)
          refine VC.cond_f rfl ?_
          refine VC.skip ?_
          refine VN.block ?_
          refine VN.then ?_
          refine VC.region ?_
          refine VL.va (op_ari64 rfl rfl rfl (ltn rfl)) rfl ?_
          refine VL.va (op_move rfl (ltn rfl)) rfl ?_
          refine VL.done ?_
          refine VN.again [] [] (ihl1 (wrap64 (i5613 + 1)) h) ⟨rfl, ⟨rfl, rfl, rfl, rfl, rfl, trivial⟩, ⟨⟨0, rfl⟩, ⟨1, rfl⟩, trivial⟩, rfl, by decide, rfl, by decide⟩
        · rw [if_neg c5639] at h
          obtain rfl : b5638 = true := hb5638.symm.trans (not_f c5639)
          refine VC.cond_t rfl ?_
          refine VC.seq ?_
          refine VC.region ?_
          refine VL.va (op_assign rfl (ltn rfl)) rfl ?_
          refine VL.done ?_
          refine VN.then ?_
          refine VC.ret ?_
          refine VR.block ?_
          refine VR.then ?_
          refine VR.then ?_
          refine VR.block ?_
          refine VR.then ?_
          obtain rfl := Option.some.inj h
          exact VR.fn (rs := [.tmp 4]) [] [] [] rfl (.tmp rfl .nil) ⟨rfl, rfl, rfl⟩ trivial rfl (by decide)
      · rw [if_neg c5635] at h; cases h
    · rw [if_neg c5629] at h
      obtain rfl : b5627 = false := hb5627.symm.trans (decide_eq_false c5629)
      refine VC.cond_f rfl ?_
      refine VC.exit ?_
      refine VX.then ?_
      refine VX.then ?_
      refine VX.hit ?_
      refine VN.then ?_
      refine VC.seq ?_
      refine VC.region ?_
      refine VL.va (op_assign rfl (ltn rfl)) rfl ?_
      refine VL.done ?_
      refine VN.then ?_
      refine VC.ret ?_
      obtain rfl := Option.some.inj h
      exact VR.fn (rs := [.tmp 4]) [] [] [] rfl (.tmp rfl .nil) ⟨rfl, rfl, rfl⟩ trivial rfl (by decide)
  · rw [if_neg c5559] at h
    obtain rfl : b5558 = true := hb5558.symm.trans (bne_iff_ne.2 c5559)
    refine VC.cond_t rfl ?_
    refine VC.seq ?_
    refine VC.region ?_
    refine VL.va (op_assign rfl (ltn rfl)) rfl ?_
    refine VL.done ?_
    refine VN.then ?_
    refine VC.ret ?_
    refine VR.then ?_
    obtain rfl := Option.some.inj h
    exact VR.fn (rs := [.tmp 4]) [] [] [] rfl (.tmp rfl .nil) ⟨rfl, rfl, rfl⟩ trivial rfl (by decide)
set_option maxHeartbeats 4000000 in
set_option maxRecDepth 100000 in
theorem tarryref09_Right.ok (k : Nat) (l0 : List S25) (v0 : Value) (r1 : Bool) (h : tarryref09_Right.f k l0 = some r1) :
    VCalls Try.prog 12 [v0] [.row v0 4 (l0.map enc25)] (fun v G own => v = .bool r1 ∧ G = [] ∧ own = []) := by
  refine VCalls.intro Try.func12 rfl (len rfl) fun E hC hW hD hU => ?_
  unfold tarryref09_Right.f at h
  refine VC.seq ?_
  refine VC.region ?_
  refine VL.va (op_assign rfl (ltn rfl)) rfl ?_
  refine VL.done ?_
  refine VN.then ?_
  refine VC.seq ?_
  refine VC.region ?_
  refine VL.va (op_move rfl (ltn rfl)) rfl ?_
  replace h := Option.bind_eq_some_iff.1 h
  obtain ⟨t5642, hA5643, h⟩ := h
  refine VL.sC (o_call0 FO14 (tarryref09_All.ok k l0 v0 t5642 hA5643) rfl rfl (ltn rfl) (All_of (.cons (List.mem_of_getElem? (i := 0) rfl) .nil))) rfl ?_
  rintro _ _ _ ⟨rfl, rfl, rfl⟩
  refine VL.va (op_move rfl (ltn rfl)) rfl ?_
  by_cases c5644 : t5642 = true
  · rw [if_pos c5644] at h
    obtain rfl := c5644
    refine VL.va (op_move rfl (ltn rfl)) rfl ?_
    replace h := Option.bind_eq_some_iff.1 h
    obtain ⟨r5645, hA5646, h⟩ := h
    refine VL.sC (o_call0 FO16 (tarryref09_Make.ok k l0 v0 r5645 hA5646) rfl rfl (ltn rfl) (All_of (.cons (List.mem_of_getElem? (i := 0) rfl) .nil))) rfl ?_
    rintro v5648 _ _ ⟨_, rfl, rfl, rfl⟩
    refine VL.va (op_move rfl (ltn rfl)) rfl ?_
    replace h := Option.bind_eq_some_iff.1 h
    obtain ⟨t5649, hA5650, h⟩ := h
    refine VL.sC (o_call_b0 FO15 (tarryref09_Same.ok k r5645 l0 v5648 v0 t5649 hA5650) rfl rfl (ltn rfl) (All_of (.cons (.inr (.inl ⟨_, List.mem_of_getElem? (i := 0) rfl, rfl⟩)) (.cons (.inl (List.mem_of_getElem? (i := 0) rfl)) .nil))) (by rintro _ _ _ ⟨rfl, rfl, rfl⟩; rfl)) rfl ?_
    rintro _ _ _ ⟨rfl, rfl, rfl⟩
    refine VL.va (op_pick rfl rfl (ltn rfl)) rfl ?_
    refine VL.va (op_assign rfl (ltn rfl)) rfl ?_
    refine VL.done ?_
    refine VN.then ?_
    refine VC.ret ?_
    obtain rfl := Option.some.inj h
    exact VR.fn (rs := [.tmp 2]) [] [] [] rfl (.tmp rfl .nil) ⟨rfl, rfl, rfl⟩ trivial rfl (by decide)
  · rw [if_neg c5644] at h
    obtain rfl := Bool.eq_false_iff.2 c5644
    refine VL.un rfl rfl (ltn rfl) ?_
    refine VL.un rfl rfl (ltn rfl) ?_
    refine VL.un rfl rfl (ltn rfl) ?_
    refine VL.un rfl rfl (ltn rfl) ?_
    refine VL.va (op_pick rfl rfl (ltn rfl)) rfl ?_
    refine VL.va (op_assign rfl (ltn rfl)) rfl ?_
    refine VL.done ?_
    refine VN.then ?_
    refine VC.ret ?_
    obtain rfl := Option.some.inj h
    exact VR.fn (rs := [.tmp 2]) [] [] [] rfl (.tmp rfl .nil) ⟨rfl, rfl, rfl⟩ trivial rfl (by decide)
set_option maxHeartbeats 4000000 in
set_option maxRecDepth 100000 in
theorem tarryref09_Of.ok (k : Nat) (l0 : List S25) (a1 : ByteArray) (v0 : Value) (r1 : List S23) (h : tarryref09_Of.f k l0 a1 = some r1) :
    VCalls Try.prog 26 [v0, .string a1] [.row v0 4 (l0.map enc25)] (fun v G own => ∃ w0 : Value, v = w0 ∧ G = [] ∧ own = [(w0, 24, 3, r1.map enc23)]) := by
  refine VCalls.intro Try.func26 rfl (len rfl) fun E hC hW hD hU => ?_
  unfold tarryref09_Of.f at h
  refine VC.seq ?_
  refine VC.region ?_
  refine VL.va (op_assign rfl (ltn rfl)) rfl ?_
  refine VL.done ?_
  refine VN.then ?_
  refine VC.seq ?_
  refine VC.region ?_
  refine VL.sG (o_buildSlice (vals := []) (cells := #[]) (es := List.map enc23 ([] : List S23)) Try.underlying42 TI24 Z24 rfl (by decide) (by decide) (by kernel_rfl) (by kernel_rfl) rfl (flat_map enc23_ok _) (ltn rfl)) rfl ?_
  intro v5689
  refine VL.va (op_assign rfl (ltn rfl)) rfl ?_
  refine VL.done ?_
  refine VN.then ?_
  refine VC.seq ?_
  refine VC.seq ?_
  refine VC.region ?_
  refine VL.va (op_move rfl (ltn rfl)) rfl ?_
  refine VL.va (op_len (m := l0.length) 0 lenm Try.underlying22 rfl rfl (ltn rfl)) rfl ?_
  refine VL.va (op_move rfl (ltn rfl)) rfl ?_
  refine VL.done ?_
  refine VN.then ?_
  refine VC.block ?_
  refine VC.loop3 (fun (v5799 : Value) (l5800 : List S23) (i5801 : Int) => ⟨26, [(1, .string a1), (4, .slice none 0 0), (5, v5799), (9, v0), (10, .int .i64 (l0.length : Int)), (11, .int .i64 i5801)], [.row v0 4 (l0.map enc25)], [], [(v5799, 24, 3, l5800.map enc23)]⟩) (fun (ml1 : Nat) (v5799 : Value) (l5800 : List S23) (i5801 : Int) => tarryref09_Of.l1 k a1 l0 ml1 l5800 i5801 = some r1) k v5689 ([] : List S23) 0 [] [0] h ⟨rfl, ⟨rfl, rfl, rfl, rfl, rfl, rfl, trivial⟩, ⟨⟨0, rfl⟩, trivial⟩, rfl, by decide, rfl, by decide⟩ (by intros; simp [tarryref09_Of.l1]) ?_
  clear h
  intro ml1 ihl1 v5799 l5800 i5801 h
  simp only [tarryref09_Of.l1] at h
  refine VC.seq ?_
  refine VC.region ?_
  refine VL.letter (decide (i5801 < (l0.length : Int))) fun b5829 hb5829 => ?_
  refine VL.va (op_cmp rfl rfl (congrArg some hb5829) (ltn rfl)) rfl ?_
  refine VL.done ?_
  refine VN.then ?_
  refine VC.seq ?_
  by_cases c5831 : i5801 < (l0.length : Int)
  · rw [if_pos c5831] at h
    obtain rfl : b5829 = true := hb5829.symm.trans (decide_eq_true c5831)
    refine VC.cond_t rfl ?_
    refine VC.skip ?_
    refine VN.then ?_
    refine VC.seq ?_
    refine VC.block ?_
    refine VC.seq ?_
    refine VC.region ?_
    by_cases c5844 : 0 ≤ i5801
    · rw [if_pos c5844] at h
      replace h := Option.bind_eq_some_iff.1 h
      obtain ⟨x5845, hx5845, h⟩ := h
      refine VL.open (m := l0.length) 0 lenm rfl (pos_get hx5845) ?_
      rintro ad5846 n5847 rfl
      refine VL.va (op_indexAddr Try.underlying22 TI26 rfl rfl c5844 (lt_get c5844 hx5845) rfl (ltn rfl)) rfl ?_
      refine VL.va (op_load_row (sz := 4) (o := 0) 0 i5801.toNat 4 rfl rfl (get_map hx5845) TI26 rfl (fun h => absurd h (by decide)) (ltn rfl)) rfl ?_
      refine VL.sG (o_alloc Z26 ZL26 (ltn rfl)) rfl ?_
      intro g5848
      refine VL.step1 (o_store 0 4 rfl rfl rfl TI26 (.agg (.of rfl)) rfl (len rfl)) rfl ?_
      refine VL.done ?_
      refine VN.then ?_
      refine VC.seq ?_
      refine VC.region ?_
      refine VL.va (op_fieldAddr FI26_0 rfl (add_at _ _ _) (ltn rfl)) rfl ?_
      refine VL.va (op_load 0 1 rfl rfl TI9 rfl (by decide) (ltn rfl)) rfl ?_
      refine VL.va (op_move rfl (ltn rfl)) rfl ?_
      refine VL.letter ((x5845.f0 == a1)) fun b5849 hb5849 => ?_
      refine VL.va (op_cmps rfl rfl (congrArg some hb5849) (ltn rfl)) rfl ?_
      refine VL.done ?_
      refine VN.then ?_
      by_cases c5850 : (x5845.f0 == a1) = true
      · rw [if_pos c5850] at h
        obtain rfl : b5849 = true := hb5849.symm.trans (c5850)
        refine VC.cond_t rfl ?_
        refine VC.region ?_
        refine VL.va (op_move rfl (ltn rfl)) rfl ?_
        refine VL.va (op_fieldAddr FI26_1 rfl (add_at _ _ _) (ltn rfl)) rfl ?_
        refine VL.va (op_load 0 3 rfl rfl TI24 rfl (fun h => absurd h (by decide)) (ltn rfl)) rfl ?_
        refine VL.sG (o_buildSlice (vals := [(0, .agg #[.int .i64 x5845.f1, .int .i64 x5845.f2, .int .i64 x5845.f3])]) (cells := #[.int .i64 x5845.f1, .int .i64 x5845.f2, .int .i64 x5845.f3]) (es := List.map enc23 ([(⟨x5845.f1, x5845.f2, x5845.f3⟩ : S23)] : List S23)) Try.underlying42 TI24 Z24 rfl (by decide) (by decide) (by kernel_rfl) (by kernel_rfl) rfl (flat_map enc23_ok _) (ltn rfl)) rfl ?_
        intro v5852
        by_cases c5853 : (l5800.length + ([(⟨x5845.f1, x5845.f2, x5845.f3⟩ : S23)] : List S23).length) * 24 ≤ 140737488355328
        · rw [if_pos c5853] at h
          refine VL.sG (o_append 1 appm Try.underlying42 EI24 rfl rfl rfl (.inr ⟨0, _, rfl⟩) (bndm c5853) (ltn rfl)) rfl ?_
          intro v5854
          refine VL.va (op_assign rfl (ltn rfl)) rfl ?_
          refine VL.done ?_
          refine VN.block ?_
          refine VN.then ?_
          refine VC.region ?_
          refine VL.va (op_ari64 rfl rfl rfl (ltn rfl)) rfl ?_
          refine VL.va (op_move rfl (ltn rfl)) rfl ?_
          refine VL.done ?_
          refine VN.again [] [1] (ihl1 v5854 (l5800 ++ ([(⟨x5845.f1, x5845.f2, x5845.f3⟩ : S23)] : List S23)) (wrap64 (i5801 + 1)) h) ⟨rfl, ⟨rfl, rfl, rfl, rfl, rfl, rfl, trivial⟩, ⟨⟨0, rfl⟩, trivial⟩, rfl, by decide, rfl, by decide⟩
        · rw [if_neg c5853] at h; cases h
      · rw [if_neg c5850] at h
        obtain rfl : b5849 = false := hb5849.symm.trans (Bool.eq_false_iff.2 c5850)
        refine VC.cond_f rfl ?_
        refine VC.skip ?_
        refine VN.block ?_
        refine VN.then ?_
        refine VC.region ?_
        refine VL.va (op_ari64 rfl rfl rfl (ltn rfl)) rfl ?_
        refine VL.va (op_move rfl (ltn rfl)) rfl ?_
        refine VL.done ?_
        refine VN.again [] [0] (ihl1 v5799 l5800 (wrap64 (i5801 + 1)) h) ⟨rfl, ⟨rfl, rfl, rfl, rfl, rfl, rfl, trivial⟩, ⟨⟨0, rfl⟩, trivial⟩, rfl, by decide, rfl, by decide⟩
    · rw [if_neg c5844] at h; cases h
  · rw [if_neg c5831] at h
    obtain rfl : b5829 = false := hb5829.symm.trans (decide_eq_false c5831)
    refine VC.cond_f rfl ?_
    refine VC.exit ?_
    refine VX.then ?_
    refine VX.then ?_
    refine VX.hit ?_
    refine VN.then ?_
    refine VC.seq ?_
    refine VC.region ?_
    refine VL.va (op_move rfl (ltn rfl)) rfl ?_
    refine VL.va (op_assign rfl (ltn rfl)) rfl ?_
    refine VL.done ?_
    refine VN.then ?_
    refine VC.ret ?_
    obtain rfl := Option.some.inj h
    exact VR.fn (rs := [.tmp 4]) [] [(v5799, 24, 3, l5800.map enc23)] [0] rfl (.tmp rfl .nil) ⟨v5799, rfl, rfl, rfl⟩ trivial rfl (by decide)
set_option maxHeartbeats 4000000 in
set_option maxRecDepth 100000 in
theorem tarryref06_Same.ok (k : Nat) (l0 : List S23) (l1 : List S23) (v0 : Value) (v1 : Value) (r1 : Bool) (h : tarryref06_Same.f k l0 l1 = some r1) :
    VCalls Try.prog 25 [v0, v1] [.row v0 3 (l0.map enc23), .row v1 3 (l1.map enc23)] (fun v G own => v = .bool r1 ∧ G = [] ∧ own = []) := by
  refine VCalls.intro Try.func25 rfl (len rfl) fun E hC hW hD hU => ?_
  unfold tarryref06_Same.f at h
  refine VC.seq ?_
  refine VC.region ?_
  refine VL.va (op_assign rfl (ltn rfl)) rfl ?_
  refine VL.done ?_
  refine VN.then ?_
  refine VC.seq ?_
  refine VC.seq ?_
  refine VC.region ?_
  refine VL.va (op_move rfl (ltn rfl)) rfl ?_
  refine VL.va (op_len (m := l0.length) 0 lenm Try.underlying42 rfl rfl (ltn rfl)) rfl ?_
  refine VL.va (op_move rfl (ltn rfl)) rfl ?_
  refine VL.va (op_len (m := l1.length) 1 lenm Try.underlying42 rfl rfl (ltn rfl)) rfl ?_
  refine VL.letter (((l0.length : Int) != (l1.length : Int))) fun b5864 hb5864 => ?_
  refine VL.va (op_cmp rfl rfl (congrArg some hb5864) (ltn rfl)) rfl ?_
  refine VL.done ?_
  refine VN.then ?_
  by_cases c5865 : (l0.length : Int) = (l1.length : Int)
  · rw [if_pos c5865] at h
    obtain rfl : b5864 = false := hb5864.symm.trans (bne_eq_false_iff_eq.2 c5865)
    refine VC.cond_f rfl ?_
    refine VC.skip ?_
    refine VN.then ?_
    refine VC.seq ?_
    refine VC.seq ?_
    refine VC.region ?_
    refine VL.va (op_move rfl (ltn rfl)) rfl ?_
    refine VL.va (op_len (m := l0.length) 0 lenm Try.underlying42 rfl rfl (ltn rfl)) rfl ?_
    refine VL.va (op_move rfl (ltn rfl)) rfl ?_
    refine VL.done ?_
    refine VN.then ?_
    refine VC.block ?_
    refine VC.loop1 (fun (i5919 : Int) => ⟨26, [(0, v0), (1, v1), (4, .bool false), (12, .int .i64 (l0.length : Int)), (13, .int .i64 i5919)], [.row v0 3 (l0.map enc23), .row v1 3 (l1.map enc23)], [], []⟩) (fun (ml1 : Nat) (i5919 : Int) => tarryref06_Same.l1 k l0 l1 ml1 i5919 = some r1) k 0 [] [] h ⟨rfl, ⟨rfl, rfl, rfl, rfl, rfl, trivial⟩, ⟨⟨0, rfl⟩, ⟨1, rfl⟩, trivial⟩, rfl, by decide, rfl, by decide⟩ (by intros; simp [tarryref06_Same.l1]) ?_
    clear h
    intro ml1 ihl1 i5919 h
    simp only [tarryref06_Same.l1] at h
    refine VC.seq ?_
    refine VC.region ?_
    refine VL.letter (decide (i5919 < (l0.length : Int))) fun b5933 hb5933 => ?_
    refine VL.va (op_cmp rfl rfl (congrArg some hb5933) (ltn rfl)) rfl ?_
    refine VL.done ?_
    refine VN.then ?_
    refine VC.seq ?_
    by_cases c5935 : i5919 < (l0.length : Int)
    · rw [if_pos c5935] at h
      obtain rfl : b5933 = true := hb5933.symm.trans (decide_eq_true c5935)
      refine VC.cond_t rfl ?_
      refine VC.skip ?_
      refine VN.then ?_
      refine VC.seq ?_
      refine VC.block ?_
      refine VC.seq ?_
      refine VC.region ?_
      refine VL.va (op_move rfl (ltn rfl)) rfl ?_
      refine VL.va (op_assign rfl (ltn rfl)) rfl ?_
      refine VL.done ?_
      refine VN.then ?_
      by_cases c5941 : 0 ≤ i5919
      · rw [if_pos c5941] at h
        replace h := Option.bind_eq_some_iff.1 h
        obtain ⟨x5942, hx5942, h⟩ := h
        replace h := Option.bind_eq_some_iff.1 h
        obtain ⟨x5943, hx5943, h⟩ := h
        refine VC.letter ((!(((x5942.f0 == x5943.f0) && ((x5942.f1 == x5943.f1) && (x5942.f2 == x5943.f2)))))) fun b5944 hb5944 => ?_
        refine VC.open (m := l0.length) 0 lenm rfl (pos_get hx5942) ?_
        rintro ad5870 n5871 rfl
        refine VC.open (m := l1.length) 1 lenm rfl (pos_get hx5943) ?_
        rintro ad5873 n5874 rfl
        refine VC.join0 (⟨26, [(0, (.slice (some ad5870) l0.length n5871)), (1, (.slice (some ad5873) l1.length n5874)), (4, .bool false), (5, .int .i64 i5919), (12, .int .i64 (l0.length : Int)), (13, .int .i64 i5919), (14, .bool true), (15, .int .i64 i5919), (16, (.slice (some ad5870) l0.length n5871)), (17, .int .i64 i5919), (19, .agg #[.int .i64 x5942.f0, .int .i64 x5942.f1, .int .i64 x5942.f2]), (20, (.slice (some ad5873) l1.length n5874)), (21, .int .i64 i5919), (23, .agg #[.int .i64 x5943.f0, .int .i64 x5943.f1, .int .i64 x5943.f2]), (24, .bool b5944)], [.row (.slice (some ad5870) l0.length n5871) 3 (l0.map enc23), .row (.slice (some ad5873) l1.length n5874) 3 (l1.map enc23)], [], []⟩) (True) ?_ ?_
        · refine VC.draw ⟨0, [], [.row (.slice (some ad5870) l0.length n5871) 3 (l0.map enc23), .row (.slice (some ad5873) l1.length n5874) 3 (l1.map enc23)], [], []⟩ (by kernel_rfl) rfl (by kernel_rfl) (n := 9) (listed := LB 9 0) ?_
          refine VA.va (i := 0) (listed' := LB 9 1) rfl (op_move rfl (ltn rfl)) rfl (by kernel_rfl) (by kernel_rfl) (by kernel_rfl) (by kernel_rfl) ⟨⟨⟨0, rfl⟩, ⟨1, rfl⟩, trivial⟩, trivial, trivial⟩ (fun _ _ _ h => h) ?_
          refine VA.va (i := 1) (listed' := LB 9 3) rfl (op_move rfl (ltn rfl)) rfl (by kernel_rfl) (by kernel_rfl) (by kernel_rfl) (by kernel_rfl) ⟨⟨⟨0, rfl⟩, ⟨1, rfl⟩, trivial⟩, trivial, trivial⟩ (fun _ _ _ h => h) ?_
          refine VA.va (i := 2) (listed' := LB 9 7) rfl (op_indexAddr Try.underlying42 TI24 rfl rfl c5941 (lt_get c5941 hx5942) rfl (ltn rfl)) rfl (by kernel_rfl) (by kernel_rfl) (by kernel_rfl) (by kernel_rfl) ⟨⟨⟨0, rfl⟩, ⟨1, rfl⟩, trivial⟩, trivial, trivial⟩ (fun _ _ _ h => h) ?_
          refine VA.va (i := 3) (listed' := LB 9 15) rfl (op_load_row (sz := 3) (o := 0) 0 i5919.toNat 3 rfl rfl (get_map hx5942) TI24 rfl (fun h => absurd h (by decide)) (ltn rfl)) rfl (by kernel_rfl) (by kernel_rfl) (by kernel_rfl) (by kernel_rfl) ⟨⟨⟨0, rfl⟩, ⟨1, rfl⟩, trivial⟩, trivial, trivial⟩ (fun _ _ _ h => h) ?_
          refine VA.va (i := 4) (listed' := LB 9 31) rfl (op_move rfl (ltn rfl)) rfl (by kernel_rfl) (by kernel_rfl) (by kernel_rfl) (by kernel_rfl) ⟨⟨⟨0, rfl⟩, ⟨1, rfl⟩, trivial⟩, trivial, trivial⟩ (fun _ _ _ h => h) ?_
          refine VA.va (i := 5) (listed' := LB 9 63) rfl (op_move rfl (ltn rfl)) rfl (by kernel_rfl) (by kernel_rfl) (by kernel_rfl) (by kernel_rfl) ⟨⟨⟨0, rfl⟩, ⟨1, rfl⟩, trivial⟩, trivial, trivial⟩ (fun _ _ _ h => h) ?_
          refine VA.va (i := 6) (listed' := LB 9 127) rfl (op_indexAddr Try.underlying42 TI24 rfl rfl c5941 (lt_get c5941 hx5943) rfl (ltn rfl)) rfl (by kernel_rfl) (by kernel_rfl) (by kernel_rfl) (by kernel_rfl) ⟨⟨⟨0, rfl⟩, ⟨1, rfl⟩, trivial⟩, trivial, trivial⟩ (fun _ _ _ h => h) ?_
          refine VA.va (i := 7) (listed' := LB 9 255) rfl (op_load_row (sz := 3) (o := 0) 1 i5919.toNat 3 rfl rfl (get_map hx5943) TI24 rfl (fun h => absurd h (by decide)) (ltn rfl)) rfl (by kernel_rfl) (by kernel_rfl) (by kernel_rfl) (by kernel_rfl) ⟨⟨⟨0, rfl⟩, ⟨1, rfl⟩, trivial⟩, trivial, trivial⟩ (fun _ _ _ h => h) ?_
          refine VA.va (i := 8) (listed' := LB 9 511) rfl (op_neS rfl rfl EG24 (EQ24 x5942.f0 x5942.f1 x5942.f2 x5943.f0 x5943.f1 x5943.f2) hb5944 (ltn rfl)) rfl (by kernel_rfl) (by kernel_rfl) (by kernel_rfl) (by kernel_rfl) ⟨⟨⟨0, rfl⟩, ⟨1, rfl⟩, trivial⟩, trivial, trivial⟩ (fun _ _ _ h => h) ?_
          refine VA.done (by kernel_rfl) ?_
          exact VN.meet0  [] [] trivial ⟨rfl, ⟨rfl, rfl, rfl, rfl, rfl, rfl, rfl, rfl, rfl, rfl, rfl, rfl, rfl, rfl, rfl, trivial⟩, ⟨⟨0, rfl⟩, ⟨1, rfl⟩, trivial⟩, rfl, by decide, rfl, by decide⟩
        intro _
        by_cases c5945 : (((x5942.f0 == x5943.f0) && ((x5942.f1 == x5943.f1) && (x5942.f2 == x5943.f2)))) = true
        · rw [if_pos c5945] at h
          obtain rfl : b5944 = false := hb5944.symm.trans (not_t c5945)
          refine VC.cond_f rfl ?_
          refine VC.skip ?_
          refine VN.block ?_
          refine VN.then ?_
          refine VC.region ?_
          refine VL.va (op_ari64 rfl rfl rfl (ltn rfl)) rfl ?_
          refine VL.va (op_move rfl (ltn rfl)) rfl ?_
          refine VL.done ?_
          refine VN.again [] [] (ihl1 (wrap64 (i5919 + 1)) h) ⟨rfl, ⟨rfl, rfl, rfl, rfl, rfl, trivial⟩, ⟨⟨0, rfl⟩, ⟨1, rfl⟩, trivial⟩, rfl, by decide, rfl, by decide⟩
        · rw [if_neg c5945] at h
          obtain rfl : b5944 = true := hb5944.symm.trans (not_f c5945)
          refine VC.cond_t rfl ?_
          refine VC.seq ?_
          refine VC.region ?_
          refine VL.va (op_assign rfl (ltn rfl)) rfl ?_
          refine VL.done ?_
          refine VN.then ?_
          refine VC.ret ?_
          refine VR.block ?_
          refine VR.then ?_
          refine VR.then ?_
          refine VR.block ?_
          refine VR.then ?_
          obtain rfl := Option.some.inj h
          exact VR.fn (rs := [.tmp 4]) [] [] [] rfl (.tmp rfl .nil) ⟨rfl, rfl, rfl⟩ trivial rfl (by decide)
      · rw [if_neg c5941] at h; cases h
    · rw [if_neg c5935] at h
      obtain rfl : b5933 = false := hb5933.symm.trans (decide_eq_false c5935)
      refine VC.cond_f rfl ?_
      refine VC.exit ?_
      refine VX.then ?_
      refine VX.then ?_
      refine VX.hit ?_
      refine VN.then ?_
      refine VC.seq ?_
      refine VC.region ?_
      refine VL.va (op_assign rfl (ltn rfl)) rfl ?_
      refine VL.done ?_
      refine VN.then ?_
      refine VC.ret ?_
      obtain rfl := Option.some.inj h
      exact VR.fn (rs := [.tmp 4]) [] [] [] rfl (.tmp rfl .nil) ⟨rfl, rfl, rfl⟩ trivial rfl (by decide)
  · rw [if_neg c5865] at h
    obtain rfl : b5864 = true := hb5864.symm.trans (bne_iff_ne.2 c5865)
    refine VC.cond_t rfl ?_
    refine VC.seq ?_
    refine VC.region ?_
    refine VL.va (op_assign rfl (ltn rfl)) rfl ?_
    refine VL.done ?_
    refine VN.then ?_
    refine VC.ret ?_
    refine VR.then ?_
    obtain rfl := Option.some.inj h
    exact VR.fn (rs := [.tmp 4]) [] [] [] rfl (.tmp rfl .nil) ⟨rfl, rfl, rfl⟩ trivial rfl (by decide)
set_option maxHeartbeats 4000000 in
set_option maxRecDepth 100000 in
theorem tarryref09_At.ok (k : Nat) (l0 : List S25) (a1 : Int) (v0 : Value) (r1 : Int) (h : tarryref09_At.f k l0 a1 = some r1) :
    VCalls Try.prog 27 [v0, .int .i64 a1] [.row v0 4 (l0.map enc25)] (fun v G own => v = .int .i64 r1 ∧ G = [] ∧ own = []) := by
  refine VCalls.intro Try.func27 rfl (len rfl) fun E hC hW hD hU => ?_
  unfold tarryref09_At.f at h
  refine VC.seq ?_
  refine VC.region ?_
  refine VL.va (op_assign rfl (ltn rfl)) rfl ?_
  refine VL.done ?_
  refine VN.then ?_
  refine VC.seq ?_
  refine VC.seq ?_
  refine VC.region ?_
  refine VL.va (op_move rfl (ltn rfl)) rfl ?_
  refine VL.va (op_len (m := l0.length) 0 lenm Try.underlying22 rfl rfl (ltn rfl)) rfl ?_
  refine VL.va (op_move rfl (ltn rfl)) rfl ?_
  refine VL.done ?_
  refine VN.then ?_
  refine VC.block ?_
  refine VC.loop1 (fun (i6042 : Int) => ⟨21, [(1, .int .i64 a1), (4, .int .i64 0), (7, v0), (8, .int .i64 (l0.length : Int)), (9, .int .i64 i6042)], [.row v0 4 (l0.map enc25)], [], []⟩) (fun (ml1 : Nat) (i6042 : Int) => tarryref09_At.l1 k a1 l0 ml1 i6042 = some r1) k 0 [] [] h ⟨rfl, ⟨rfl, rfl, rfl, rfl, rfl, trivial⟩, ⟨⟨0, rfl⟩, trivial⟩, rfl, by decide, rfl, by decide⟩ (by intros; simp [tarryref09_At.l1]) ?_
  clear h
  intro ml1 ihl1 i6042 h
  simp only [tarryref09_At.l1] at h
  refine VC.seq ?_
  refine VC.region ?_
  refine VL.letter (decide (i6042 < (l0.length : Int))) fun b6060 hb6060 => ?_
  refine VL.va (op_cmp rfl rfl (congrArg some hb6060) (ltn rfl)) rfl ?_
  refine VL.done ?_
  refine VN.then ?_
  refine VC.seq ?_
  by_cases c6062 : i6042 < (l0.length : Int)
  · rw [if_pos c6062] at h
    obtain rfl : b6060 = true := hb6060.symm.trans (decide_eq_true c6062)
    refine VC.cond_t rfl ?_
    refine VC.skip ?_
    refine VN.then ?_
    refine VC.seq ?_
    refine VC.block ?_
    refine VC.seq ?_
    refine VC.region ?_
    refine VL.va (op_move rfl (ltn rfl)) rfl ?_
    by_cases c6070 : 0 ≤ i6042
    · rw [if_pos c6070] at h
      replace h := Option.bind_eq_some_iff.1 h
      obtain ⟨x6071, hx6071, h⟩ := h
      refine VL.open (m := l0.length) 0 lenm rfl (pos_get hx6071) ?_
      rintro ad6072 n6073 rfl
      refine VL.va (op_indexAddr Try.underlying22 TI26 rfl rfl c6070 (lt_get c6070 hx6071) rfl (ltn rfl)) rfl ?_
      refine VL.va (op_load_row (sz := 4) (o := 0) 0 i6042.toNat 4 rfl rfl (get_map hx6071) TI26 rfl (fun h => absurd h (by decide)) (ltn rfl)) rfl ?_
      refine VL.sG (o_alloc Z26 ZL26 (ltn rfl)) rfl ?_
      intro g6074
      refine VL.va (op_assign rfl (ltn rfl)) rfl ?_
      refine VL.step1 (o_store 0 4 rfl rfl rfl TI26 (.agg (.of rfl)) rfl (len rfl)) rfl ?_
      refine VL.done ?_
      refine VN.then ?_
      refine VC.seq ?_
      refine VC.region ?_
      refine VL.va (op_fieldAddr FI26_1 rfl (add_at _ _ _) (ltn rfl)) rfl ?_
      refine VL.va (op_fieldAddr FI24_2 rfl (add_at _ _ _) (ltn rfl)) rfl ?_
      refine VL.va (op_load 0 1 rfl rfl TI3 rfl (by decide) (ltn rfl)) rfl ?_
      refine VL.va (op_move rfl (ltn rfl)) rfl ?_
      refine VL.letter ((x6071.f3 == a1)) fun b6075 hb6075 => ?_
      refine VL.va (op_cmp rfl rfl (congrArg some hb6075) (ltn rfl)) rfl ?_
      refine VL.done ?_
      refine VN.then ?_
      by_cases c6076 : x6071.f3 = a1
      · rw [if_pos c6076] at h
        obtain rfl : b6075 = true := hb6075.symm.trans (beq_iff_eq.2 c6076)
        refine VC.cond_t rfl ?_
        refine VC.seq ?_
        refine VC.region ?_
        refine VL.va (op_move rfl (ltn rfl)) rfl ?_
        refine VL.va (op_assign rfl (ltn rfl)) rfl ?_
        refine VL.done ?_
        refine VN.then ?_
        refine VC.ret ?_
        refine VR.block ?_
        refine VR.then ?_
        refine VR.then ?_
        refine VR.block ?_
        refine VR.then ?_
        obtain rfl := Option.some.inj h
        exact VR.fn (rs := [.tmp 4]) [] [] [] rfl (.tmp rfl .nil) ⟨rfl, rfl, rfl⟩ trivial rfl (by decide)
      · rw [if_neg c6076] at h
        obtain rfl : b6075 = false := hb6075.symm.trans (beq_eq_false_iff_ne.2 c6076)
        refine VC.cond_f rfl ?_
        refine VC.skip ?_
        refine VN.block ?_
        refine VN.then ?_
        refine VC.region ?_
        refine VL.va (op_ari64 rfl rfl rfl (ltn rfl)) rfl ?_
        refine VL.va (op_move rfl (ltn rfl)) rfl ?_
        refine VL.done ?_
        refine VN.again [] [] (ihl1 (wrap64 (i6042 + 1)) h) ⟨rfl, ⟨rfl, rfl, rfl, rfl, rfl, trivial⟩, ⟨⟨0, rfl⟩, trivial⟩, rfl, by decide, rfl, by decide⟩
    · rw [if_neg c6070] at h; cases h
  · rw [if_neg c6062] at h
    obtain rfl : b6060 = false := hb6060.symm.trans (decide_eq_false c6062)
    refine VC.cond_f rfl ?_
    refine VC.exit ?_
    refine VX.then ?_
    refine VX.then ?_
    refine VX.hit ?_
    refine VN.then ?_
    refine VC.seq ?_
    refine VC.region ?_
    refine VL.va (op_assign rfl (ltn rfl)) rfl ?_
    refine VL.done ?_
    refine VN.then ?_
    refine VC.ret ?_
    obtain rfl := Option.some.inj h
    exact VR.fn (rs := [.tmp 4]) [] [] [] rfl (.tmp rfl .nil) ⟨rfl, rfl, rfl⟩ trivial rfl (by decide)

end Go.Proofs.Ytdofmkbffffbpaa.PWaitsGo
