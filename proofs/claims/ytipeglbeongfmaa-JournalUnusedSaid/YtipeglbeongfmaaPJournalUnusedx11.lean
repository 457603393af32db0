/- Written by a program of this repo: what the program's functions do, each as a Lean function, shown of the loaded code; or a statement's row over that; no condition of its own. -/
import Derived.Test.YtipeglbeongfmaaPJournalUnusedx10
namespace Go.Proofs.Ytipeglbeongfmaa.PJournalUnused
open Go Go.RowKit Go.Proofs.YtipeglbeongfmaaV
set_option linter.unusedVariables false
set_option linter.unusedSimpArgs false

set_option maxHeartbeats 4000000 in
set_option maxRecDepth 100000 in
theorem journal_plan_first.ok (k : Nat) (a0_0 : Int) (a0_1 : Int) (a0_2 : ByteArray) (l1_0 : List ByteArray) (l1_1 : List S55) (a1_2 : Int) (a1_3 : Int) (a1_4 : Int) (l1_5 : List ByteArray) (l1_6 : List ByteArray) (v1_0 : Value) (v1_1 : Value) (v1_5 : Value) (v1_6 : Value) (r1 : List ByteArray) (r2 : List S55) (h : journal_plan_first.f k a0_0 a0_1 a0_2 l1_0 l1_1 a1_2 a1_3 a1_4 l1_5 l1_6 = some (r1, r2)) :
    VCalls Try.prog 48 [.agg #[.int .i64 a0_0, .int .i64 a0_1, .string a0_2], .agg #[v1_0, v1_1, .int .i64 a1_2, .int .i64 a1_3, .int .i64 a1_4, v1_5, v1_6]] [.row v1_0 1 (l1_0.map enc_str), .row v1_1 2 (l1_1.map enc55), .row v1_5 1 (l1_5.map enc_str), .row v1_6 1 (l1_6.map enc_str)] (fun v G own => ∃ w0 w1 : Value, v = .agg #[w0, w1] ∧ G = [.row w0 1 (r1.map enc_str), .row w1 2 (r2.map enc55)] ∧ own = []) := by
  refine VCalls.intro Try.func48 rfl (len rfl) fun E hC hW hD hU => ?_
  unfold journal_plan_first.f at h
  refine VC.seq ?_
  refine VC.region ?_
  refine VL.sG (o_box rfl (.agg (.of rfl)) (ltn rfl)) rfl ?_
  intro g8505
  refine VL.sG (o_box rfl (.agg (.f 0 rfl (.f 1 rfl (.c rfl (.c rfl (.c rfl (.f 2 rfl (.f 3 rfl .nil)))))))) (ltn rfl)) rfl ?_
  intro g8506
  refine VL.sG (o_alloc Z25 ZL25 (ltn rfl)) rfl ?_
  intro g8507
  refine VL.done ?_
  refine VN.then ?_
  replace h := Option.bind_eq_some_iff.1 h
  obtain ⟨⟨r8508, r8509⟩, hA8510, h⟩ := h
  dsimp only at h
  replace h := Option.bind_eq_some_iff.1 h
  obtain ⟨r8515, hA8516, h⟩ := h
  replace h := Option.bind_eq_some_iff.1 h
  obtain ⟨⟨r8517, r8518, t8519⟩, hA8520, h⟩ := h
  dsimp only at h
  refine VC.join3 (fun (g8525 : Nat) (v8522 : Value) (v8524 : Value) => ⟨26, [(4, .pointer (some ⟨g8507, 0, none⟩)), (5, .pointer (some ⟨g8525, 0, none⟩))], [.row v8522 1 (r8517.map enc_str), .row v8524 2 (r8518.map enc55)], [(g8525, 25, [v8522, v8524]), (g8507, 25, [.slice none 0 0, .slice none 0 0])], []⟩) (fun (g8525 : Nat) (v8522 : Value) (v8524 : Value) => True) ?_ ?_
  · refine VC.draw ⟨0, [], [], [(g8506, 27, [v1_0, v1_1, .int .i64 a1_2, .int .i64 a1_3, .int .i64 a1_4, v1_5, v1_6]), (g8505, 81, [.int .i64 a0_0, .int .i64 a0_1, .string a0_2])], []⟩ (by kernel_rfl) rfl (by kernel_rfl) (n := 21) (listed := LB 21 0) ?_
    refine VA.va (i := 0) (listed' := LB 21 1) rfl (op_fieldAddr FI27_0 rfl (add_at _ _ _) (ltn rfl)) rfl (by kernel_rfl) (by kernel_rfl) (by kernel_rfl) (by kernel_rfl) ⟨trivial, ⟨⟨1, rfl⟩, ⟨2, rfl⟩, trivial⟩, trivial⟩ (fun _ _ _ h => h) ?_
    refine VA.va (i := 1) (listed' := LB 21 3) rfl (op_load 0 2 rfl rfl TI25 rfl (fun h => absurd h (by decide)) (ltn rfl)) rfl (by kernel_rfl) (by kernel_rfl) (by kernel_rfl) (by kernel_rfl) ⟨trivial, ⟨⟨1, rfl⟩, ⟨2, rfl⟩, trivial⟩, trivial⟩ (fun _ _ _ h => h) ?_
    refine VA.va (i := 2) (listed' := LB 21 7) rfl (op_fieldAddr FI81_0 rfl (add_at _ _ _) (ltn rfl)) rfl (by kernel_rfl) (by kernel_rfl) (by kernel_rfl) (by kernel_rfl) ⟨trivial, ⟨⟨1, rfl⟩, ⟨2, rfl⟩, trivial⟩, trivial⟩ (fun _ _ _ h => h) ?_
    refine VA.va (i := 3) (listed' := LB 21 15) rfl (op_load 1 1 rfl rfl TI3 rfl (by decide) (ltn rfl)) rfl (by kernel_rfl) (by kernel_rfl) (by kernel_rfl) (by kernel_rfl) ⟨trivial, ⟨⟨1, rfl⟩, ⟨2, rfl⟩, trivial⟩, trivial⟩ (fun _ _ _ h => h) ?_
    refine VA.va (i := 4) (listed' := LB 21 31) rfl (op_fieldAddr FI81_1 rfl (add_at _ _ _) (ltn rfl)) rfl (by kernel_rfl) (by kernel_rfl) (by kernel_rfl) (by kernel_rfl) ⟨trivial, ⟨⟨1, rfl⟩, ⟨2, rfl⟩, trivial⟩, trivial⟩ (fun _ _ _ h => h) ?_
    refine VA.va (i := 5) (listed' := LB 21 63) rfl (op_load 1 1 rfl rfl TI3 rfl (by decide) (ltn rfl)) rfl (by kernel_rfl) (by kernel_rfl) (by kernel_rfl) (by kernel_rfl) ⟨trivial, ⟨⟨1, rfl⟩, ⟨2, rfl⟩, trivial⟩, trivial⟩ (fun _ _ _ h => h) ?_
    refine VA.va (i := 6) (listed' := LB 21 127) rfl (op_fieldAddr FI81_2 rfl (add_at _ _ _) (ltn rfl)) rfl (by kernel_rfl) (by kernel_rfl) (by kernel_rfl) (by kernel_rfl) ⟨trivial, ⟨⟨1, rfl⟩, ⟨2, rfl⟩, trivial⟩, trivial⟩ (fun _ _ _ h => h) ?_
    refine VA.va (i := 7) (listed' := LB 21 255) rfl (op_load 1 1 rfl rfl TI9 rfl (by decide) (ltn rfl)) rfl (by kernel_rfl) (by kernel_rfl) (by kernel_rfl) (by kernel_rfl) ⟨trivial, ⟨⟨1, rfl⟩, ⟨2, rfl⟩, trivial⟩, trivial⟩ (fun _ _ _ h => h) ?_
    refine VA.va (i := 9) (listed' := LB 21 767) rfl (op_fieldAddr FI27_1 rfl (add_at _ _ _) (ltn rfl)) rfl (by kernel_rfl) (by kernel_rfl) (by kernel_rfl) (by kernel_rfl) ⟨trivial, ⟨⟨1, rfl⟩, ⟨2, rfl⟩, trivial⟩, trivial⟩ (fun _ _ _ h => h) ?_
    refine VA.va (i := 10) (listed' := LB 21 1791) rfl (op_load 0 1 rfl rfl TI3 rfl (by decide) (ltn rfl)) rfl (by kernel_rfl) (by kernel_rfl) (by kernel_rfl) (by kernel_rfl) ⟨trivial, ⟨⟨1, rfl⟩, ⟨2, rfl⟩, trivial⟩, trivial⟩ (fun _ _ _ h => h) ?_
    refine VA.va (i := 11) (listed' := LB 21 3839) rfl (op_ari64 rfl rfl rfl (ltn rfl)) rfl (by kernel_rfl) (by kernel_rfl) (by kernel_rfl) (by kernel_rfl) ⟨trivial, ⟨⟨1, rfl⟩, ⟨2, rfl⟩, trivial⟩, trivial⟩ (fun _ _ _ h => h) ?_
    refine VA.va (i := 12) (listed' := LB 21 7935) rfl (op_rem rfl rfl (by decide) rfl (ltn rfl)) rfl (by kernel_rfl) (by kernel_rfl) (by kernel_rfl) (by kernel_rfl) ⟨trivial, ⟨⟨1, rfl⟩, ⟨2, rfl⟩, trivial⟩, trivial⟩ (fun _ _ _ h => h) ?_
    refine VA.all [8, 18] (by kernel_rfl) (by simp) ?_
    refine VAll.consC (listed' := LB 21 8191) rfl (o_call0 FO72 (journal_laid.ok k l1_0 l1_1 a0_0 a0_1 a0_2 v1_0 v1_1 r8508 r8509 hA8510) rfl rfl (ltn rfl) (All_of (.cons (List.mem_of_getElem? (i := 0) rfl) (.cons (List.mem_of_getElem? (i := 1) rfl) .nil)))) rfl (by kernel_rfl) ?_ ?_
    · rintro _ _ _ ⟨v8512, v8514, rfl, rfl, rfl⟩
      refine ⟨⟨trivial, ⟨⟨1, rfl⟩, ⟨2, rfl⟩, trivial⟩, trivial⟩, ?_⟩
      refine VA.all [13, 18] (by kernel_rfl) (by simp) ?_
      refine VAll.consC (listed' := LB 21 16383) rfl (o_call0 FO70 (strings_Repeat.ok (⟨#[0]⟩ : ByteArray) 64 r8515 hA8516) rfl rfl (ltn rfl) (All_of .nil)) rfl (by kernel_rfl) ?_ ?_
      · rintro _ _ _ ⟨rfl, rfl, rfl⟩
        refine ⟨⟨trivial, ⟨⟨1, rfl⟩, ⟨2, rfl⟩, trivial⟩, trivial⟩, ?_⟩
        refine VA.all [14, 18] (by kernel_rfl) (by simp) ?_
        refine VAll.consC (listed' := LB 21 32767) rfl (o_call0 FO38 (disk_Put.ok k r8508 r8509 ((wrap64 (a1_2 + 1)).tmod 2) r8515 v8512 v8514 r8517 r8518 t8519 hA8520) rfl rfl (ltn rfl) (All_of (.cons (List.mem_of_getElem? (i := 0) rfl) (.cons (List.mem_of_getElem? (i := 1) rfl) .nil)))) rfl (by kernel_rfl) ?_ ?_
        · rintro _ _ _ ⟨v8522, v8524, rfl, rfl, rfl⟩
          refine ⟨⟨trivial, ⟨⟨1, rfl⟩, ⟨2, rfl⟩, trivial⟩, trivial⟩, ?_⟩
          refine VA.more ⟨0, [], [.row v8522 1 (r8517.map enc_str), .row v8524 2 (r8518.map enc55)], [(g8506, 27, [v1_0, v1_1, .int .i64 a1_2, .int .i64 a1_3, .int .i64 a1_4, v1_5, v1_6]), (g8505, 81, [.int .i64 a0_0, .int .i64 a0_1, .string a0_2])], []⟩ ⟨trivial, ⟨⟨0, rfl⟩, ⟨1, rfl⟩, trivial⟩, trivial⟩ ?_
          refine VA.va (i := 15) (listed' := LB 21 65535) rfl (op_move rfl (ltn rfl)) rfl (by kernel_rfl) (by kernel_rfl) (by kernel_rfl) (by kernel_rfl) ⟨⟨⟨0, rfl⟩, ⟨1, rfl⟩, trivial⟩, ⟨⟨1, rfl⟩, ⟨2, rfl⟩, trivial⟩, trivial⟩ (fun _ _ _ h => h) ?_
          refine VA.va (i := 16) (listed' := LB 21 131071) rfl (op_extract rfl rfl (ltn rfl)) rfl (by kernel_rfl) (by kernel_rfl) (by kernel_rfl) (by kernel_rfl) ⟨⟨⟨0, rfl⟩, ⟨1, rfl⟩, trivial⟩, ⟨⟨1, rfl⟩, ⟨2, rfl⟩, trivial⟩, trivial⟩ (fun _ _ _ h => h) ?_
          refine VA.va (i := 17) (listed' := LB 21 262143) rfl (op_extract rfl rfl (ltn rfl)) rfl (by kernel_rfl) (by kernel_rfl) (by kernel_rfl) (by kernel_rfl) ⟨⟨⟨0, rfl⟩, ⟨1, rfl⟩, trivial⟩, ⟨⟨1, rfl⟩, ⟨2, rfl⟩, trivial⟩, trivial⟩ (fun _ _ _ h => h) ?_
          refine VA.oneG (i := 18) (listed' := LB 21 524287) (by kernel_rfl) rfl (o_alloc Z25 ZL25 (ltn rfl)) rfl (by kernel_rfl) (fun _ => ⟨⟨⟨0, rfl⟩, ⟨1, rfl⟩, trivial⟩, ⟨⟨2, rfl⟩, ⟨3, rfl⟩, trivial⟩, trivial⟩) ?_
          intro g8525
          refine VA.one1 (i := 19) (listed' := LB 21 1048575) (by kernel_rfl) rfl (o_store 0 2 rfl rfl rfl TI25 (.agg (.f 0 rfl (.f 1 rfl .nil))) rfl (len rfl)) rfl (by kernel_rfl) ⟨⟨⟨0, rfl⟩, ⟨1, rfl⟩, trivial⟩, ⟨⟨2, rfl⟩, ⟨3, rfl⟩, trivial⟩, trivial⟩ ?_
          refine VA.va (i := 20) (listed' := LB 21 2097151) rfl (op_assign rfl (ltn rfl)) rfl (by kernel_rfl) (by kernel_rfl) (by kernel_rfl) (by kernel_rfl) ⟨⟨⟨0, rfl⟩, ⟨1, rfl⟩, trivial⟩, ⟨⟨2, rfl⟩, ⟨3, rfl⟩, trivial⟩, trivial⟩ (fun _ _ _ h => h) ?_
          refine VA.done (by kernel_rfl) ?_
          exact VN.meet3 g8525 v8522 v8524 [0, 1] [] trivial ⟨rfl, ⟨rfl, rfl, trivial⟩, ⟨⟨0, rfl⟩, ⟨1, rfl⟩, trivial⟩, rfl, by decide, rfl, by decide⟩
        refine VAll.consG (listed' := LB 21 278527) rfl (o_alloc Z25 ZL25 (ltn rfl)) rfl (by kernel_rfl) (fun _ => ⟨trivial, ⟨⟨2, rfl⟩, ⟨3, rfl⟩, trivial⟩, trivial⟩) ?_ VAll.nil
        intro g8525
        refine VA.oneC (i := 14) (listed' := LB 21 294911) (by kernel_rfl) rfl (o_call0 FO38 (disk_Put.ok k r8508 r8509 ((wrap64 (a1_2 + 1)).tmod 2) r8515 v8512 v8514 r8517 r8518 t8519 hA8520) rfl rfl (ltn rfl) (All_of (.cons (List.mem_of_getElem? (i := 0) rfl) (.cons (List.mem_of_getElem? (i := 1) rfl) .nil)))) rfl (by kernel_rfl) ?_
        rintro _ _ _ ⟨v8522, v8524, rfl, rfl, rfl⟩
        refine ⟨⟨trivial, ⟨⟨2, rfl⟩, ⟨3, rfl⟩, trivial⟩, trivial⟩, ?_⟩
        refine VA.more ⟨0, [], [.row v8522 1 (r8517.map enc_str), .row v8524 2 (r8518.map enc55)], [(g8506, 27, [v1_0, v1_1, .int .i64 a1_2, .int .i64 a1_3, .int .i64 a1_4, v1_5, v1_6]), (g8505, 81, [.int .i64 a0_0, .int .i64 a0_1, .string a0_2])], []⟩ ⟨trivial, ⟨⟨0, rfl⟩, ⟨1, rfl⟩, trivial⟩, trivial⟩ ?_
        refine VA.va (i := 15) (listed' := LB 21 327679) rfl (op_move rfl (ltn rfl)) rfl (by kernel_rfl) (by kernel_rfl) (by kernel_rfl) (by kernel_rfl) ⟨⟨⟨0, rfl⟩, ⟨1, rfl⟩, trivial⟩, ⟨⟨2, rfl⟩, ⟨3, rfl⟩, trivial⟩, trivial⟩ (fun _ _ _ h => h) ?_
        refine VA.va (i := 16) (listed' := LB 21 393215) rfl (op_extract rfl rfl (ltn rfl)) rfl (by kernel_rfl) (by kernel_rfl) (by kernel_rfl) (by kernel_rfl) ⟨⟨⟨0, rfl⟩, ⟨1, rfl⟩, trivial⟩, ⟨⟨2, rfl⟩, ⟨3, rfl⟩, trivial⟩, trivial⟩ (fun _ _ _ h => h) ?_
        refine VA.va (i := 17) (listed' := LB 21 524287) rfl (op_extract rfl rfl (ltn rfl)) rfl (by kernel_rfl) (by kernel_rfl) (by kernel_rfl) (by kernel_rfl) ⟨⟨⟨0, rfl⟩, ⟨1, rfl⟩, trivial⟩, ⟨⟨2, rfl⟩, ⟨3, rfl⟩, trivial⟩, trivial⟩ (fun _ _ _ h => h) ?_
        refine VA.one1 (i := 19) (listed' := LB 21 1048575) (by kernel_rfl) rfl (o_store 0 2 rfl rfl rfl TI25 (.agg (.f 0 rfl (.f 1 rfl .nil))) rfl (len rfl)) rfl (by kernel_rfl) ⟨⟨⟨0, rfl⟩, ⟨1, rfl⟩, trivial⟩, ⟨⟨2, rfl⟩, ⟨3, rfl⟩, trivial⟩, trivial⟩ ?_
        refine VA.va (i := 20) (listed' := LB 21 2097151) rfl (op_assign rfl (ltn rfl)) rfl (by kernel_rfl) (by kernel_rfl) (by kernel_rfl) (by kernel_rfl) ⟨⟨⟨0, rfl⟩, ⟨1, rfl⟩, trivial⟩, ⟨⟨2, rfl⟩, ⟨3, rfl⟩, trivial⟩, trivial⟩ (fun _ _ _ h => h) ?_
        refine VA.done (by kernel_rfl) ?_
        exact VN.meet3 g8525 v8522 v8524 [0, 1] [] trivial ⟨rfl, ⟨rfl, rfl, trivial⟩, ⟨⟨0, rfl⟩, ⟨1, rfl⟩, trivial⟩, rfl, by decide, rfl, by decide⟩
      refine VAll.consG (listed' := LB 21 270335) rfl (o_alloc Z25 ZL25 (ltn rfl)) rfl (by kernel_rfl) (fun _ => ⟨trivial, ⟨⟨2, rfl⟩, ⟨3, rfl⟩, trivial⟩, trivial⟩) ?_ VAll.nil
      intro g8525
      refine VA.oneC (i := 13) (listed' := LB 21 278527) (by kernel_rfl) rfl (o_call0 FO70 (strings_Repeat.ok (⟨#[0]⟩ : ByteArray) 64 r8515 hA8516) rfl rfl (ltn rfl) (All_of .nil)) rfl (by kernel_rfl) ?_
      rintro _ _ _ ⟨rfl, rfl, rfl⟩
      refine ⟨⟨trivial, ⟨⟨2, rfl⟩, ⟨3, rfl⟩, trivial⟩, trivial⟩, ?_⟩
      refine VA.oneC (i := 14) (listed' := LB 21 294911) (by kernel_rfl) rfl (o_call0 FO38 (disk_Put.ok k r8508 r8509 ((wrap64 (a1_2 + 1)).tmod 2) r8515 v8512 v8514 r8517 r8518 t8519 hA8520) rfl rfl (ltn rfl) (All_of (.cons (List.mem_of_getElem? (i := 0) rfl) (.cons (List.mem_of_getElem? (i := 1) rfl) .nil)))) rfl (by kernel_rfl) ?_
      rintro _ _ _ ⟨v8522, v8524, rfl, rfl, rfl⟩
      refine ⟨⟨trivial, ⟨⟨2, rfl⟩, ⟨3, rfl⟩, trivial⟩, trivial⟩, ?_⟩
      refine VA.more ⟨0, [], [.row v8522 1 (r8517.map enc_str), .row v8524 2 (r8518.map enc55)], [(g8506, 27, [v1_0, v1_1, .int .i64 a1_2, .int .i64 a1_3, .int .i64 a1_4, v1_5, v1_6]), (g8505, 81, [.int .i64 a0_0, .int .i64 a0_1, .string a0_2])], []⟩ ⟨trivial, ⟨⟨0, rfl⟩, ⟨1, rfl⟩, trivial⟩, trivial⟩ ?_
      refine VA.va (i := 15) (listed' := LB 21 327679) rfl (op_move rfl (ltn rfl)) rfl (by kernel_rfl) (by kernel_rfl) (by kernel_rfl) (by kernel_rfl) ⟨⟨⟨0, rfl⟩, ⟨1, rfl⟩, trivial⟩, ⟨⟨2, rfl⟩, ⟨3, rfl⟩, trivial⟩, trivial⟩ (fun _ _ _ h => h) ?_
      refine VA.va (i := 16) (listed' := LB 21 393215) rfl (op_extract rfl rfl (ltn rfl)) rfl (by kernel_rfl) (by kernel_rfl) (by kernel_rfl) (by kernel_rfl) ⟨⟨⟨0, rfl⟩, ⟨1, rfl⟩, trivial⟩, ⟨⟨2, rfl⟩, ⟨3, rfl⟩, trivial⟩, trivial⟩ (fun _ _ _ h => h) ?_
      refine VA.va (i := 17) (listed' := LB 21 524287) rfl (op_extract rfl rfl (ltn rfl)) rfl (by kernel_rfl) (by kernel_rfl) (by kernel_rfl) (by kernel_rfl) ⟨⟨⟨0, rfl⟩, ⟨1, rfl⟩, trivial⟩, ⟨⟨2, rfl⟩, ⟨3, rfl⟩, trivial⟩, trivial⟩ (fun _ _ _ h => h) ?_
      refine VA.one1 (i := 19) (listed' := LB 21 1048575) (by kernel_rfl) rfl (o_store 0 2 rfl rfl rfl TI25 (.agg (.f 0 rfl (.f 1 rfl .nil))) rfl (len rfl)) rfl (by kernel_rfl) ⟨⟨⟨0, rfl⟩, ⟨1, rfl⟩, trivial⟩, ⟨⟨2, rfl⟩, ⟨3, rfl⟩, trivial⟩, trivial⟩ ?_
      refine VA.va (i := 20) (listed' := LB 21 2097151) rfl (op_assign rfl (ltn rfl)) rfl (by kernel_rfl) (by kernel_rfl) (by kernel_rfl) (by kernel_rfl) ⟨⟨⟨0, rfl⟩, ⟨1, rfl⟩, trivial⟩, ⟨⟨2, rfl⟩, ⟨3, rfl⟩, trivial⟩, trivial⟩ (fun _ _ _ h => h) ?_
      refine VA.done (by kernel_rfl) ?_
      exact VN.meet3 g8525 v8522 v8524 [0, 1] [] trivial ⟨rfl, ⟨rfl, rfl, trivial⟩, ⟨⟨0, rfl⟩, ⟨1, rfl⟩, trivial⟩, rfl, by decide, rfl, by decide⟩
    refine VAll.consG (listed' := LB 21 270079) rfl (o_alloc Z25 ZL25 (ltn rfl)) rfl (by kernel_rfl) (fun _ => ⟨trivial, ⟨⟨2, rfl⟩, ⟨3, rfl⟩, trivial⟩, trivial⟩) ?_ VAll.nil
    intro g8525
    refine VA.oneC (i := 8) (listed' := LB 21 270335) (by kernel_rfl) rfl (o_call0 FO72 (journal_laid.ok k l1_0 l1_1 a0_0 a0_1 a0_2 v1_0 v1_1 r8508 r8509 hA8510) rfl rfl (ltn rfl) (All_of (.cons (List.mem_of_getElem? (i := 0) rfl) (.cons (List.mem_of_getElem? (i := 1) rfl) .nil)))) rfl (by kernel_rfl) ?_
    rintro _ _ _ ⟨v8512, v8514, rfl, rfl, rfl⟩
    refine ⟨⟨trivial, ⟨⟨2, rfl⟩, ⟨3, rfl⟩, trivial⟩, trivial⟩, ?_⟩
    refine VA.oneC (i := 13) (listed' := LB 21 278527) (by kernel_rfl) rfl (o_call0 FO70 (strings_Repeat.ok (⟨#[0]⟩ : ByteArray) 64 r8515 hA8516) rfl rfl (ltn rfl) (All_of .nil)) rfl (by kernel_rfl) ?_
    rintro _ _ _ ⟨rfl, rfl, rfl⟩
    refine ⟨⟨trivial, ⟨⟨2, rfl⟩, ⟨3, rfl⟩, trivial⟩, trivial⟩, ?_⟩
    refine VA.oneC (i := 14) (listed' := LB 21 294911) (by kernel_rfl) rfl (o_call0 FO38 (disk_Put.ok k r8508 r8509 ((wrap64 (a1_2 + 1)).tmod 2) r8515 v8512 v8514 r8517 r8518 t8519 hA8520) rfl rfl (ltn rfl) (All_of (.cons (List.mem_of_getElem? (i := 0) rfl) (.cons (List.mem_of_getElem? (i := 1) rfl) .nil)))) rfl (by kernel_rfl) ?_
    rintro _ _ _ ⟨v8522, v8524, rfl, rfl, rfl⟩
    refine ⟨⟨trivial, ⟨⟨2, rfl⟩, ⟨3, rfl⟩, trivial⟩, trivial⟩, ?_⟩
    refine VA.more ⟨0, [], [.row v8522 1 (r8517.map enc_str), .row v8524 2 (r8518.map enc55)], [(g8506, 27, [v1_0, v1_1, .int .i64 a1_2, .int .i64 a1_3, .int .i64 a1_4, v1_5, v1_6]), (g8505, 81, [.int .i64 a0_0, .int .i64 a0_1, .string a0_2])], []⟩ ⟨trivial, ⟨⟨0, rfl⟩, ⟨1, rfl⟩, trivial⟩, trivial⟩ ?_
    refine VA.va (i := 15) (listed' := LB 21 327679) rfl (op_move rfl (ltn rfl)) rfl (by kernel_rfl) (by kernel_rfl) (by kernel_rfl) (by kernel_rfl) ⟨⟨⟨0, rfl⟩, ⟨1, rfl⟩, trivial⟩, ⟨⟨2, rfl⟩, ⟨3, rfl⟩, trivial⟩, trivial⟩ (fun _ _ _ h => h) ?_
    refine VA.va (i := 16) (listed' := LB 21 393215) rfl (op_extract rfl rfl (ltn rfl)) rfl (by kernel_rfl) (by kernel_rfl) (by kernel_rfl) (by kernel_rfl) ⟨⟨⟨0, rfl⟩, ⟨1, rfl⟩, trivial⟩, ⟨⟨2, rfl⟩, ⟨3, rfl⟩, trivial⟩, trivial⟩ (fun _ _ _ h => h) ?_
    refine VA.va (i := 17) (listed' := LB 21 524287) rfl (op_extract rfl rfl (ltn rfl)) rfl (by kernel_rfl) (by kernel_rfl) (by kernel_rfl) (by kernel_rfl) ⟨⟨⟨0, rfl⟩, ⟨1, rfl⟩, trivial⟩, ⟨⟨2, rfl⟩, ⟨3, rfl⟩, trivial⟩, trivial⟩ (fun _ _ _ h => h) ?_
    refine VA.one1 (i := 19) (listed' := LB 21 1048575) (by kernel_rfl) rfl (o_store 0 2 rfl rfl rfl TI25 (.agg (.f 0 rfl (.f 1 rfl .nil))) rfl (len rfl)) rfl (by kernel_rfl) ⟨⟨⟨0, rfl⟩, ⟨1, rfl⟩, trivial⟩, ⟨⟨2, rfl⟩, ⟨3, rfl⟩, trivial⟩, trivial⟩ ?_
    refine VA.va (i := 20) (listed' := LB 21 2097151) rfl (op_assign rfl (ltn rfl)) rfl (by kernel_rfl) (by kernel_rfl) (by kernel_rfl) (by kernel_rfl) ⟨⟨⟨0, rfl⟩, ⟨1, rfl⟩, trivial⟩, ⟨⟨2, rfl⟩, ⟨3, rfl⟩, trivial⟩, trivial⟩ (fun _ _ _ h => h) ?_
    refine VA.done (by kernel_rfl) ?_
    exact VN.meet3 g8525 v8522 v8524 [0, 1] [] trivial ⟨rfl, ⟨rfl, rfl, trivial⟩, ⟨⟨0, rfl⟩, ⟨1, rfl⟩, trivial⟩, rfl, by decide, rfl, by decide⟩
  intro g8525 v8522 v8524 _
  refine VC.seq ?_
  refine VC.region ?_
  refine VL.va (op_load 0 2 rfl rfl TI25 rfl (fun h => absurd h (by decide)) (ltn rfl)) rfl ?_
  refine VL.step1 (o_store 1 2 rfl rfl rfl TI25 (.agg (.f 0 rfl (.f 1 rfl .nil))) rfl (len rfl)) rfl ?_
  refine VL.done ?_
  refine VN.then ?_
  refine VC.ret ?_
  simp only [Option.some.injEq, Prod.mk.injEq] at h
  obtain ⟨rfl, rfl⟩ := h
  exact VR.fn (rs := [.cell 4 25]) [.row v8522 1 (r8517.map enc_str), .row v8524 2 (r8518.map enc55)] [] [] rfl (.cell 1 rfl rfl TI25 (fun h => absurd h (by decide)) .nil) ⟨v8522, v8524, rfl, rfl, rfl⟩ ⟨⟨0, rfl⟩, ⟨1, rfl⟩, trivial⟩ rfl (by decide)
set_option maxHeartbeats 4000000 in
set_option maxRecDepth 100000 in
theorem journal_plan_second.ok (k : Nat) (a0_0 : Int) (a0_1 : Int) (a0_2 : ByteArray) (l1_0 : List ByteArray) (l1_1 : List S55) (a1_2 : Int) (a1_3 : Int) (a1_4 : Int) (l1_5 : List ByteArray) (l1_6 : List ByteArray) (v1_0 : Value) (v1_1 : Value) (v1_5 : Value) (v1_6 : Value) (r1 : List ByteArray) (r2 : List S55) (h : journal_plan_second.f k a0_0 a0_1 a0_2 l1_0 l1_1 a1_2 a1_3 a1_4 l1_5 l1_6 = some (r1, r2)) :
    VCalls Try.prog 49 [.agg #[.int .i64 a0_0, .int .i64 a0_1, .string a0_2], .agg #[v1_0, v1_1, .int .i64 a1_2, .int .i64 a1_3, .int .i64 a1_4, v1_5, v1_6]] [.row v1_0 1 (l1_0.map enc_str), .row v1_1 2 (l1_1.map enc55), .row v1_5 1 (l1_5.map enc_str), .row v1_6 1 (l1_6.map enc_str)] (fun v G own => ∃ w0 w1 : Value, v = .agg #[w0, w1] ∧ G = [.row w0 1 (r1.map enc_str), .row w1 2 (r2.map enc55)] ∧ own = []) := by
  refine VCalls.intro Try.func49 rfl (len rfl) fun E hC hW hD hU => ?_
  unfold journal_plan_second.f at h
  refine VC.seq ?_
  refine VC.region ?_
  refine VL.sG (o_box rfl (.agg (.of rfl)) (ltn rfl)) rfl ?_
  intro g8558
  refine VL.sG (o_box rfl (.agg (.f 0 rfl (.f 1 rfl (.c rfl (.c rfl (.c rfl (.f 2 rfl (.f 3 rfl .nil)))))))) (ltn rfl)) rfl ?_
  intro g8559
  refine VL.sG (o_alloc Z25 ZL25 (ltn rfl)) rfl ?_
  intro g8560
  refine VL.done ?_
  refine VN.then ?_
  refine VC.seq ?_
  refine VC.region ?_
  refine VL.va (op_load 2 3 rfl rfl TI81 rfl (fun h => absurd h (by decide)) (ltn rfl)) rfl ?_
  refine VL.va (op_load 1 7 rfl rfl TI27 rfl (fun h => absurd h (by decide)) (ltn rfl)) rfl ?_
  replace h := Option.bind_eq_some_iff.1 h
  obtain ⟨⟨r8561, r8562⟩, hA8563, h⟩ := h
  dsimp only at h
  refine VL.sC (o_call0 FO48 (journal_plan_first.ok k a0_0 a0_1 a0_2 l1_0 l1_1 a1_2 a1_3 a1_4 l1_5 l1_6 v1_0 v1_1 v1_5 v1_6 r8561 r8562 hA8563) rfl rfl (ltn rfl) (All_of (.cons (List.mem_of_getElem? (i := 0) rfl) (.cons (List.mem_of_getElem? (i := 1) rfl) (.cons (List.mem_of_getElem? (i := 2) rfl) (.cons (List.mem_of_getElem? (i := 3) rfl) .nil)))))) rfl ?_
  rintro _ _ _ ⟨v8565, v8567, rfl, rfl, rfl⟩
  replace h := Option.bind_eq_some_iff.1 h
  obtain ⟨⟨r8568, r8569, t8570⟩, hA8571, h⟩ := h
  dsimp only at h
  refine VL.sC (o_call0 FO41 (disk_Flush.ok k r8561 r8562 v8565 v8567 r8568 r8569 t8570 hA8571) rfl rfl (ltn rfl) (All_of (.cons (List.mem_of_getElem? (i := 0) rfl) (.cons (List.mem_of_getElem? (i := 1) rfl) .nil)))) rfl ?_
  rintro _ _ _ ⟨v8573, v8575, rfl, rfl, rfl⟩
  refine VL.va (op_move rfl (ltn rfl)) rfl ?_
  refine VL.va (op_extract rfl rfl (ltn rfl)) rfl ?_
  refine VL.va (op_extract rfl rfl (ltn rfl)) rfl ?_
  refine VL.sG (o_alloc Z25 ZL25 (ltn rfl)) rfl ?_
  intro g8576
  refine VL.step1 (o_store 0 2 rfl rfl rfl TI25 (.agg (.r 0 rfl (.r 1 rfl .nil))) rfl (len rfl)) rfl ?_
  refine VL.va (op_assign rfl (ltn rfl)) rfl ?_
  refine VL.done ?_
  refine VN.then ?_
  refine VC.seq ?_
  refine VC.region ?_
  refine VL.va (op_fieldAddr FI27_1 rfl (add_at _ _ _) (ltn rfl)) rfl ?_
  refine VL.va (op_load 2 1 rfl rfl TI3 rfl (by decide) (ltn rfl)) rfl ?_
  refine VL.va (op_ari64 rfl rfl rfl (ltn rfl)) rfl ?_
  refine VL.va (op_assign rfl (ltn rfl)) rfl ?_
  refine VL.done ?_
  refine VN.then ?_
  replace h := Option.bind_eq_some_iff.1 h
  obtain ⟨r8577, hA8578, h⟩ := h
  replace h := Option.bind_eq_some_iff.1 h
  obtain ⟨t8579, hA8580, h⟩ := h
  replace h := Option.bind_eq_some_iff.1 h
  obtain ⟨⟨r8581, r8582, t8583⟩, hA8584, h⟩ := h
  dsimp only at h
  refine VC.freezeRow' 0 rfl ?_
  refine VC.freezeRow' 0 rfl ?_
  refine VC.join2 (fun (v8586 : Value) (v8588 : Value) => ⟨37, [(4, .pointer (some ⟨g8560, 0, none⟩)), (5, .pointer (some ⟨g8576, 0, none⟩))], [.row v8586 1 (r8581.map enc_str), .row v8588 2 (r8582.map enc55)], [(g8576, 25, [v8586, v8588]), (g8560, 25, [.slice none 0 0, .slice none 0 0])], []⟩) (fun (v8586 : Value) (v8588 : Value) => True) ?_ ?_
  · refine VC.drawB ⟨0, [], [], [(g8558, 81, [.int .i64 a0_0, .int .i64 a0_1, .string a0_2])], []⟩ [18] ⟨0, [], [], [(g8576, 25, [v8573, v8575])], []⟩ (by kernel_rfl) rfl (by kernel_rfl) (n := 19) (listed := LB 19 0) ?_
    refine VB.vb (i := 0) (listed' := LB 19 1) rfl (op_load 0 2 rfl rfl TI25 rfl (fun h => absurd h (by decide)) (ltn rfl)) rfl (by kernel_rfl) (by kernel_rfl) (by kernel_rfl) (by kernel_rfl) (by kernel_rfl) (by kernel_rfl) (PartP.on ⟨trivial, ⟨⟨3, rfl⟩, trivial⟩, trivial⟩ ⟨trivial, ⟨⟨0, rfl⟩, trivial⟩, trivial⟩) (fun _ _ _ h => h) ?_
    refine VB.va (i := 1) (listed' := LB 19 3) rfl (op_move rfl (ltn rfl)) rfl (by kernel_rfl) (by kernel_rfl) (by kernel_rfl) (by kernel_rfl) (by decide) (PartP.on ⟨trivial, ⟨⟨3, rfl⟩, trivial⟩, trivial⟩ ⟨trivial, ⟨⟨0, rfl⟩, trivial⟩, trivial⟩) (fun _ _ _ h => h) ?_
    refine VB.va (i := 2) (listed' := LB 19 7) rfl (op_rem rfl rfl (by decide) rfl (ltn rfl)) rfl (by kernel_rfl) (by kernel_rfl) (by kernel_rfl) (by kernel_rfl) (by decide) (PartP.on ⟨trivial, ⟨⟨3, rfl⟩, trivial⟩, trivial⟩ ⟨trivial, ⟨⟨0, rfl⟩, trivial⟩, trivial⟩) (fun _ _ _ h => h) ?_
    refine VB.va (i := 3) (listed' := LB 19 15) rfl (op_move rfl (ltn rfl)) rfl (by kernel_rfl) (by kernel_rfl) (by kernel_rfl) (by kernel_rfl) (by decide) (PartP.on ⟨trivial, ⟨⟨3, rfl⟩, trivial⟩, trivial⟩ ⟨trivial, ⟨⟨0, rfl⟩, trivial⟩, trivial⟩) (fun _ _ _ h => h) ?_
    refine VB.va (i := 4) (listed' := LB 19 31) rfl (op_fieldAddr FI81_0 rfl (add_at _ _ _) (ltn rfl)) rfl (by kernel_rfl) (by kernel_rfl) (by kernel_rfl) (by kernel_rfl) (by decide) (PartP.on ⟨trivial, ⟨⟨3, rfl⟩, trivial⟩, trivial⟩ ⟨trivial, ⟨⟨0, rfl⟩, trivial⟩, trivial⟩) (fun _ _ _ h => h) ?_
    refine VB.va (i := 5) (listed' := LB 19 63) rfl (op_load 0 1 rfl rfl TI3 rfl (by decide) (ltn rfl)) rfl (by kernel_rfl) (by kernel_rfl) (by kernel_rfl) (by kernel_rfl) (by decide) (PartP.on ⟨trivial, ⟨⟨3, rfl⟩, trivial⟩, trivial⟩ ⟨trivial, ⟨⟨0, rfl⟩, trivial⟩, trivial⟩) (fun _ _ _ h => h) ?_
    refine VB.va (i := 6) (listed' := LB 19 127) rfl (op_fieldAddr FI81_1 rfl (add_at _ _ _) (ltn rfl)) rfl (by kernel_rfl) (by kernel_rfl) (by kernel_rfl) (by kernel_rfl) (by decide) (PartP.on ⟨trivial, ⟨⟨3, rfl⟩, trivial⟩, trivial⟩ ⟨trivial, ⟨⟨0, rfl⟩, trivial⟩, trivial⟩) (fun _ _ _ h => h) ?_
    refine VB.va (i := 7) (listed' := LB 19 255) rfl (op_load 0 1 rfl rfl TI3 rfl (by decide) (ltn rfl)) rfl (by kernel_rfl) (by kernel_rfl) (by kernel_rfl) (by kernel_rfl) (by decide) (PartP.on ⟨trivial, ⟨⟨3, rfl⟩, trivial⟩, trivial⟩ ⟨trivial, ⟨⟨0, rfl⟩, trivial⟩, trivial⟩) (fun _ _ _ h => h) ?_
    refine VB.va (i := 8) (listed' := LB 19 511) rfl (op_fieldAddr FI81_2 rfl (add_at _ _ _) (ltn rfl)) rfl (by kernel_rfl) (by kernel_rfl) (by kernel_rfl) (by kernel_rfl) (by decide) (PartP.on ⟨trivial, ⟨⟨3, rfl⟩, trivial⟩, trivial⟩ ⟨trivial, ⟨⟨0, rfl⟩, trivial⟩, trivial⟩) (fun _ _ _ h => h) ?_
    refine VB.va (i := 9) (listed' := LB 19 1023) rfl (op_load 0 1 rfl rfl TI9 rfl (by decide) (ltn rfl)) rfl (by kernel_rfl) (by kernel_rfl) (by kernel_rfl) (by kernel_rfl) (by decide) (PartP.on ⟨trivial, ⟨⟨3, rfl⟩, trivial⟩, trivial⟩ ⟨trivial, ⟨⟨0, rfl⟩, trivial⟩, trivial⟩) (fun _ _ _ h => h) ?_
    refine VB.va (i := 10) (listed' := LB 19 2047) rfl (op_lens Try.underlying9 rfl (ltn rfl)) rfl (by kernel_rfl) (by kernel_rfl) (by kernel_rfl) (by kernel_rfl) (by decide) (PartP.on ⟨trivial, ⟨⟨3, rfl⟩, trivial⟩, trivial⟩ ⟨trivial, ⟨⟨0, rfl⟩, trivial⟩, trivial⟩) (fun _ _ _ h => h) ?_
    refine VB.va (i := 11) (listed' := LB 19 4095) rfl (op_ari64 rfl rfl rfl (ltn rfl)) rfl (by kernel_rfl) (by kernel_rfl) (by kernel_rfl) (by kernel_rfl) (by decide) (PartP.on ⟨trivial, ⟨⟨3, rfl⟩, trivial⟩, trivial⟩ ⟨trivial, ⟨⟨0, rfl⟩, trivial⟩, trivial⟩) (fun _ _ _ h => h) ?_
    refine VB.oneC (i := 12) (listed' := LB 19 8191) (by kernel_rfl) rfl (o_call0 FO39 (journal_headOf.ok k (wrap64 (a1_2 + 1)) a0_0 (wrap64 (a0_1 + (a0_2.size : Int))) r8577 hA8578) rfl rfl (ltn rfl) (All_of .nil)) rfl (by kernel_rfl) ?_
    rintro _ _ _ ⟨rfl, rfl, rfl⟩
    refine ⟨(PartP.on ⟨trivial, ⟨⟨3, rfl⟩, trivial⟩, trivial⟩ ⟨trivial, ⟨⟨0, rfl⟩, trivial⟩, trivial⟩), ?_⟩
    refine VB.oneC (i := 13) (listed' := LB 19 16383) (by kernel_rfl) rfl (o_call0 FO40 (journal_head_sector.ok r8577 t8579 hA8580) rfl rfl (ltn rfl) (All_of .nil)) rfl (by kernel_rfl) ?_
    rintro _ _ _ ⟨rfl, rfl, rfl⟩
    refine ⟨(PartP.on ⟨trivial, ⟨⟨3, rfl⟩, trivial⟩, trivial⟩ ⟨trivial, ⟨⟨0, rfl⟩, trivial⟩, trivial⟩), ?_⟩
    refine VB.oneC (i := 14) (listed' := LB 19 32767) (by kernel_rfl) rfl (o_call0 FO38 (disk_Put.ok k r8568 r8569 ((wrap64 (a1_2 + 1)).tmod 2) t8579 v8573 v8575 r8581 r8582 t8583 hA8584) rfl rfl (ltn rfl) (All_of (.cons (List.mem_of_getElem? (i := 1) rfl) (.cons (List.mem_of_getElem? (i := 0) rfl) .nil)))) rfl (by kernel_rfl) ?_
    rintro _ _ _ ⟨v8586, v8588, rfl, rfl, rfl⟩
    refine ⟨(PartP.on ⟨trivial, ⟨⟨3, rfl⟩, trivial⟩, trivial⟩ ⟨trivial, ⟨⟨0, rfl⟩, trivial⟩, trivial⟩), ?_⟩
    refine VB.more ⟨0, [], [.row v8586 1 (r8581.map enc_str), .row v8588 2 (r8582.map enc55)], [(g8558, 81, [.int .i64 a0_0, .int .i64 a0_1, .string a0_2])], []⟩ ⟨trivial, ⟨⟨0, rfl⟩, trivial⟩, trivial⟩ ?_
    refine VB.va (i := 15) (listed' := LB 19 65535) rfl (op_move rfl (ltn rfl)) rfl (by kernel_rfl) (by kernel_rfl) (by kernel_rfl) (by kernel_rfl) (by decide) (PartP.on ⟨⟨⟨0, rfl⟩, ⟨1, rfl⟩, trivial⟩, ⟨⟨3, rfl⟩, trivial⟩, trivial⟩ ⟨trivial, ⟨⟨0, rfl⟩, trivial⟩, trivial⟩) (fun _ _ _ h => h) ?_
    refine VB.va (i := 16) (listed' := LB 19 131071) rfl (op_extract rfl rfl (ltn rfl)) rfl (by kernel_rfl) (by kernel_rfl) (by kernel_rfl) (by kernel_rfl) (by decide) (PartP.on ⟨⟨⟨0, rfl⟩, ⟨1, rfl⟩, trivial⟩, ⟨⟨3, rfl⟩, trivial⟩, trivial⟩ ⟨trivial, ⟨⟨0, rfl⟩, trivial⟩, trivial⟩) (fun _ _ _ h => h) ?_
    refine VB.va (i := 17) (listed' := LB 19 262143) rfl (op_extract rfl rfl (ltn rfl)) rfl (by kernel_rfl) (by kernel_rfl) (by kernel_rfl) (by kernel_rfl) (by decide) (PartP.on ⟨⟨⟨0, rfl⟩, ⟨1, rfl⟩, trivial⟩, ⟨⟨3, rfl⟩, trivial⟩, trivial⟩ ⟨trivial, ⟨⟨0, rfl⟩, trivial⟩, trivial⟩) (fun _ _ _ h => h) ?_
    refine VB.one1 (i := 18) (listed' := LB 19 524287) (by kernel_rfl) rfl (o_store 0 2 rfl rfl rfl TI25 (.agg (.f 0 rfl (.f 1 rfl .nil))) rfl (len rfl)) rfl (by kernel_rfl) (PartP.off (by kernel_rfl) ⟨⟨⟨0, rfl⟩, ⟨1, rfl⟩, trivial⟩, ⟨⟨3, rfl⟩, trivial⟩, trivial⟩) ?_
    refine VB.done (by kernel_rfl) ?_
    exact VN.meet2 v8586 v8588 [0, 1] [] trivial ⟨rfl, ⟨rfl, rfl, trivial⟩, ⟨⟨0, rfl⟩, ⟨1, rfl⟩, trivial⟩, rfl, by decide, rfl, by decide⟩
  intro v8586 v8588 _
  refine VC.seq ?_
  refine VC.region ?_
  refine VL.va (op_load 0 2 rfl rfl TI25 rfl (fun h => absurd h (by decide)) (ltn rfl)) rfl ?_
  refine VL.step1 (o_store 1 2 rfl rfl rfl TI25 (.agg (.f 0 rfl (.f 1 rfl .nil))) rfl (len rfl)) rfl ?_
  refine VL.done ?_
  refine VN.then ?_
  refine VC.ret ?_
  simp only [Option.some.injEq, Prod.mk.injEq] at h
  obtain ⟨rfl, rfl⟩ := h
  exact VR.fn (rs := [.cell 4 25]) [.row v8586 1 (r8581.map enc_str), .row v8588 2 (r8582.map enc55)] [] [] rfl (.cell 1 rfl rfl TI25 (fun h => absurd h (by decide)) .nil) ⟨v8586, v8588, rfl, rfl, rfl⟩ ⟨⟨0, rfl⟩, ⟨1, rfl⟩, trivial⟩ rfl (by decide)
set_option maxHeartbeats 4000000 in
set_option maxRecDepth 100000 in
theorem journal_plan_sealed.ok (k : Nat) (a0_0 : Int) (a0_1 : Int) (a0_2 : ByteArray) (l1_0 : List ByteArray) (l1_1 : List S55) (a1_2 : Int) (a1_3 : Int) (a1_4 : Int) (l1_5 : List ByteArray) (l1_6 : List ByteArray) (v1_0 : Value) (v1_1 : Value) (v1_5 : Value) (v1_6 : Value) (r1 : List ByteArray) (r2 : List S55) (r3 : Int) (r4 : Int) (r5 : Int) (r6 : List ByteArray) (r7 : List ByteArray) (r8 : Int) (h : journal_plan_sealed.f k a0_0 a0_1 a0_2 l1_0 l1_1 a1_2 a1_3 a1_4 l1_5 l1_6 = some (r1, r2, r3, r4, r5, r6, r7, r8)) :
    VCalls Try.prog 45 [.agg #[.int .i64 a0_0, .int .i64 a0_1, .string a0_2], .agg #[v1_0, v1_1, .int .i64 a1_2, .int .i64 a1_3, .int .i64 a1_4, v1_5, v1_6]] [.row v1_0 1 (l1_0.map enc_str), .row v1_1 2 (l1_1.map enc55), .row v1_5 1 (l1_5.map enc_str), .row v1_6 1 (l1_6.map enc_str)] (fun v G own => ∃ w0 w1 w5 w6 : Value, v = .tuple #[.agg #[w0, w1, .int .i64 r3, .int .i64 r4, .int .i64 r5, w5, w6], .int .i64 r8] ∧ G = [.row w0 1 (r1.map enc_str), .row w1 2 (r2.map enc55)] ∧ own = [(w5, 9, 1, r6.map enc_str), (w6, 9, 1, r7.map enc_str)]) := by
  refine VCalls.intro Try.func45 rfl (len rfl) fun E hC hW hD hU => ?_
  unfold journal_plan_sealed.f at h
  refine VC.seq ?_
  refine VC.region ?_
  refine VL.sG (o_box rfl (.agg (.of rfl)) (ltn rfl)) rfl ?_
  intro g8626
  refine VL.sG (o_box rfl (.agg (.f 0 rfl (.f 1 rfl (.c rfl (.c rfl (.c rfl (.f 2 rfl (.f 3 rfl .nil)))))))) (ltn rfl)) rfl ?_
  intro g8627
  refine VL.sG (o_alloc Z27 ZL27 (ltn rfl)) rfl ?_
  intro g8628
  refine VL.va (op_assign rfl (ltn rfl)) rfl ?_
  refine VL.done ?_
  refine VN.then ?_
  refine VC.seq ?_
  refine VC.region ?_
  refine VL.va (op_load 2 3 rfl rfl TI81 rfl (fun h => absurd h (by decide)) (ltn rfl)) rfl ?_
  refine VL.va (op_load 1 7 rfl rfl TI27 rfl (fun h => absurd h (by decide)) (ltn rfl)) rfl ?_
  replace h := Option.bind_eq_some_iff.1 h
  obtain ⟨⟨r8629, r8630⟩, hA8631, h⟩ := h
  dsimp only at h
  refine VL.sC (o_call0 FO49 (journal_plan_second.ok k a0_0 a0_1 a0_2 l1_0 l1_1 a1_2 a1_3 a1_4 l1_5 l1_6 v1_0 v1_1 v1_5 v1_6 r8629 r8630 hA8631) rfl rfl (ltn rfl) (All_of (.cons (List.mem_of_getElem? (i := 0) rfl) (.cons (List.mem_of_getElem? (i := 1) rfl) (.cons (List.mem_of_getElem? (i := 2) rfl) (.cons (List.mem_of_getElem? (i := 3) rfl) .nil)))))) rfl ?_
  rintro _ _ _ ⟨v8633, v8635, rfl, rfl, rfl⟩
  replace h := Option.bind_eq_some_iff.1 h
  obtain ⟨⟨r8636, r8637, t8638⟩, hA8639, h⟩ := h
  dsimp only at h
  refine VL.sC (o_call0 FO41 (disk_Flush.ok k r8629 r8630 v8633 v8635 r8636 r8637 t8638 hA8639) rfl rfl (ltn rfl) (All_of (.cons (List.mem_of_getElem? (i := 0) rfl) (.cons (List.mem_of_getElem? (i := 1) rfl) .nil)))) rfl ?_
  rintro _ _ _ ⟨v8641, v8643, rfl, rfl, rfl⟩
  refine VL.va (op_move rfl (ltn rfl)) rfl ?_
  refine VL.va (op_extract rfl rfl (ltn rfl)) rfl ?_
  refine VL.va (op_extract rfl rfl (ltn rfl)) rfl ?_
  refine VL.sG (o_alloc Z25 ZL25 (ltn rfl)) rfl ?_
  intro g8644
  refine VL.step1 (o_store 0 2 rfl rfl rfl TI25 (.agg (.r 0 rfl (.r 1 rfl .nil))) rfl (len rfl)) rfl ?_
  refine VL.va (op_assign rfl (ltn rfl)) rfl ?_
  refine VL.done ?_
  refine VN.then ?_
  refine VC.seq ?_
  refine VC.region ?_
  refine VL.va (op_load 0 2 rfl rfl TI25 rfl (fun h => absurd h (by decide)) (ltn rfl)) rfl ?_
  refine VL.freezeRow' 0 rfl ?_
  refine VL.freezeRow' 0 rfl ?_
  replace h := Option.bind_eq_some_iff.1 h
  obtain ⟨⟨r8645, r8646, t8647, t8648, t8649, r8650, r8651, t8652⟩, hA8653, h⟩ := h
  dsimp only at h
  refine VL.sC (o_call0 FO9 (journal_Open.ok k r8636 r8637 v8641 v8643 r8645 r8646 t8647 t8648 t8649 r8650 r8651 t8652 hA8653) rfl rfl (ltn rfl) (All_of (.cons (List.mem_of_getElem? (i := 1) rfl) (.cons (List.mem_of_getElem? (i := 0) rfl) .nil)))) rfl ?_
  rintro _ _ _ ⟨v8655, v8657, v8659, v8661, rfl, rfl, rfl⟩
  refine VL.va (op_extract rfl rfl (ltn rfl)) rfl ?_
  refine VL.va (op_extract rfl rfl (ltn rfl)) rfl ?_
  refine VL.step1 (o_store 1 7 rfl rfl rfl TI27 (.agg (.f 0 rfl (.f 1 rfl (.c rfl (.c rfl (.c rfl (.r 0 rfl (.r 1 rfl .nil)))))))) rfl (len rfl)) rfl ?_
  refine VL.va (op_assign rfl (ltn rfl)) rfl ?_
  refine VL.done ?_
  refine VN.then ?_
  refine VC.ret ?_
  simp only [Option.some.injEq, Prod.mk.injEq] at h
  obtain ⟨rfl, rfl, rfl, rfl, rfl, rfl, rfl, rfl⟩ := h
  exact VR.fn (rs := [.cell 4 27, .tmp 5]) [.row v8655 1 (r8645.map enc_str), .row v8657 2 (r8646.map enc55)] [(v8659, 9, 1, r8650.map enc_str), (v8661, 9, 1, r8651.map enc_str)] [0, 1] rfl (.cell 1 rfl rfl TI27 (fun h => absurd h (by decide)) (.tmp rfl .nil)) ⟨v8655, v8657, v8659, v8661, rfl, rfl, rfl⟩ ⟨⟨0, rfl⟩, ⟨1, rfl⟩, trivial⟩ rfl (by decide)
set_option maxHeartbeats 4000000 in
set_option maxRecDepth 100000 in
theorem journal_Commit.ok (k : Nat) (l0_0 : List ByteArray) (l0_1 : List S55) (a0_2 : Int) (a0_3 : Int) (a0_4 : Int) (l0_5 : List ByteArray) (l0_6 : List ByteArray) (v0_0 : Value) (v0_1 : Value) (v0_5 : Value) (v0_6 : Value) (r1 : List ByteArray) (r2 : List S55) (r3 : Int) (r4 : Int) (r5 : Int) (r6 : List ByteArray) (r7 : List ByteArray) (r8 : Int) (h : journal_Commit.f k l0_0 l0_1 a0_2 a0_3 a0_4 l0_5 l0_6 = some (r1, r2, r3, r4, r5, r6, r7, r8)) :
    VCalls Try.prog 19 [.agg #[v0_0, v0_1, .int .i64 a0_2, .int .i64 a0_3, .int .i64 a0_4, v0_5, v0_6]] [.row v0_0 1 (l0_0.map enc_str), .row v0_1 2 (l0_1.map enc55), .row v0_5 1 (l0_5.map enc_str), .row v0_6 1 (l0_6.map enc_str)] (fun v G own => ∃ w0 w1 w5 w6 : Value, v = .tuple #[.agg #[w0, w1, .int .i64 r3, .int .i64 r4, .int .i64 r5, w5, w6], .int .i64 r8] ∧ G = [.row w0 1 (r1.map enc_str), .row w1 2 (r2.map enc55)] ∧ own = [(w5, 9, 1, r6.map enc_str), (w6, 9, 1, r7.map enc_str)]) := by
  refine VCalls.intro Try.func19 rfl (len rfl) fun E hC hW hD hU => ?_
  unfold journal_Commit.f at h
  refine VC.seq ?_
  refine VC.region ?_
  refine VL.sG (o_box rfl (.agg (.f 0 rfl (.f 1 rfl (.c rfl (.c rfl (.c rfl (.f 2 rfl (.f 3 rfl .nil)))))))) (ltn rfl)) rfl ?_
  intro g8683
  refine VL.sG (o_alloc Z27 ZL27 (ltn rfl)) rfl ?_
  intro g8684
  refine VL.va (op_assign rfl (ltn rfl)) rfl ?_
  refine VL.done ?_
  refine VN.then ?_
  refine VC.seq ?_
  refine VC.block ?_
  refine VC.seq ?_
  refine VC.region ?_
  refine VL.va (op_load 1 7 rfl rfl TI27 rfl (fun h => absurd h (by decide)) (ltn rfl)) rfl ?_
  replace h := Option.bind_eq_some_iff.1 h
  obtain ⟨t8704, hA8705, h⟩ := h
  refine VL.sC (o_call0 FO12 (journal_Right.ok k l0_0 l0_1 a0_2 a0_3 a0_4 l0_5 l0_6 v0_0 v0_1 v0_5 v0_6 t8704 hA8705) rfl rfl (ltn rfl) (All_of (.cons (List.mem_of_getElem? (i := 0) rfl) (.cons (List.mem_of_getElem? (i := 1) rfl) (.cons (List.mem_of_getElem? (i := 2) rfl) (.cons (List.mem_of_getElem? (i := 3) rfl) .nil)))))) rfl ?_
  rintro _ _ _ ⟨rfl, rfl, rfl⟩
  by_cases c8706 : t8704 = true
  · rw [if_pos c8706] at h
    obtain rfl := c8706
    refine VL.va (op_not rfl rfl (ltn rfl)) rfl ?_
    refine VL.va (op_assign rfl (ltn rfl)) rfl ?_
    refine VL.done ?_
    refine VN.then ?_
    refine VC.cond_f rfl ?_
    refine VC.seq ?_
    refine VC.region ?_
    refine VL.va (op_fieldAddr FI27_1 rfl (add_at _ _ _) (ltn rfl)) rfl ?_
    refine VL.va (op_load 1 1 rfl rfl TI3 rfl (by decide) (ltn rfl)) rfl ?_
    refine VL.letter ((a0_2 == 1099511627776)) fun b8707 hb8707 => ?_
    refine VL.va (op_cmp rfl rfl (congrArg some hb8707) (ltn rfl)) rfl ?_
    refine VL.va (op_assign rfl (ltn rfl)) rfl ?_
    refine VL.done ?_
    refine VN.then ?_
    by_cases c8708 : a0_2 = 1099511627776
    · rw [if_pos c8708] at h
      obtain rfl : b8707 = true := hb8707.symm.trans (beq_iff_eq.2 c8708)
      refine VC.cond_t rfl ?_
      refine VC.seq ?_
      refine VC.region ?_
      refine VL.va (op_build (vals := []) (vcs := []) (cells := [.slice none 0 0, .slice none 0 0, .int .i64 0, .int .i64 0, .int .i64 0, .slice none 0 0, .slice none 0 0]) SI27 rfl .nil (by kernel_rfl) (ltn rfl)) rfl ?_
      refine VL.step1 (o_store 0 7 rfl rfl rfl TI27 (.agg (.of rfl)) rfl (len rfl)) rfl ?_
      refine VL.va (op_assign rfl (ltn rfl)) rfl ?_
      refine VL.done ?_
      refine VN.then ?_
      refine VC.ret ?_
      refine VR.block ?_
      refine VR.then ?_
      simp only [Option.some.injEq, Prod.mk.injEq] at h
      obtain ⟨rfl, rfl, rfl, rfl, rfl, rfl, rfl, rfl⟩ := h
      refine VR.nilFact' 1 ?_
      refine VR.nilFact' 2 ?_
      refine VR.nilRow' 9 1 ?_
      refine VR.nilRow' 9 1 ?_
      exact VR.fn (rs := [.cell 2 27, .tmp 3]) [.row (.slice none 0 0) 1 (([] : List ByteArray).map enc_str), .row (.slice none 0 0) 2 (([] : List S55).map enc55)] [((.slice none 0 0), 9, 1, ([] : List ByteArray).map enc_str), ((.slice none 0 0), 9, 1, ([] : List ByteArray).map enc_str)] [1, 0] rfl (.cell 0 rfl rfl TI27 (fun h => absurd h (by decide)) (.tmp rfl .nil)) ⟨(.slice none 0 0), (.slice none 0 0), (.slice none 0 0), (.slice none 0 0), rfl, rfl, rfl⟩ ⟨⟨1, rfl⟩, ⟨0, rfl⟩, trivial⟩ rfl (by decide)
    · rw [if_neg c8708] at h
      obtain rfl : b8707 = false := hb8707.symm.trans (beq_eq_false_iff_ne.2 c8708)
      refine VC.cond_f rfl ?_
      refine VC.skip ?_
      refine VN.block ?_
      refine VN.then ?_
      replace h := Option.bind_eq_some_iff.1 h
      obtain ⟨⟨t8713, t8714, t8715⟩, hA8716, h⟩ := h
      dsimp only at h
      replace h := Option.bind_eq_some_iff.1 h
      obtain ⟨⟨r8717, r8718, t8719, t8720, t8721, r8722, r8723, t8724⟩, hA8725, h⟩ := h
      dsimp only at h
      refine VC.join4 (fun (v8727 : Value) (v8729 : Value) (v8731 : Value) (v8733 : Value) => ⟨20, [(2, .pointer (some ⟨g8684, 0, none⟩)), (3, .int .i64 t8724)], [.row v8727 1 (r8717.map enc_str), .row v8729 2 (r8718.map enc55)], [(g8684, 27, [v8727, v8729, .int .i64 t8719, .int .i64 t8720, .int .i64 t8721, v8731, v8733])], [(v8731, 9, 1, r8722.map enc_str), (v8733, 9, 1, r8723.map enc_str)]⟩) (fun (v8727 : Value) (v8729 : Value) (v8731 : Value) (v8733 : Value) => True) ?_ ?_
      · refine VC.draw ⟨0, [], [], [(g8683, 27, [v0_0, v0_1, .int .i64 a0_2, .int .i64 a0_3, .int .i64 a0_4, v0_5, v0_6])], []⟩ (by kernel_rfl) rfl (by kernel_rfl) (n := 8) (listed := LB 8 0) ?_
        refine VA.va (i := 0) (listed' := LB 8 1) rfl (op_load 0 7 rfl rfl TI27 rfl (fun h => absurd h (by decide)) (ltn rfl)) rfl (by kernel_rfl) (by kernel_rfl) (by kernel_rfl) (by kernel_rfl) ⟨trivial, ⟨⟨1, rfl⟩, trivial⟩, trivial⟩ (fun _ _ _ h => h) ?_
        refine VA.va (i := 2) (listed' := LB 8 5) rfl (op_load 0 7 rfl rfl TI27 rfl (fun h => absurd h (by decide)) (ltn rfl)) rfl (by kernel_rfl) (by kernel_rfl) (by kernel_rfl) (by kernel_rfl) ⟨trivial, ⟨⟨1, rfl⟩, trivial⟩, trivial⟩ (fun _ _ _ h => h) ?_
        refine VA.oneC (i := 1) (listed' := LB 8 7) (by kernel_rfl) rfl (o_call0 FO44 (journal_groups.ok k l0_0 l0_1 a0_2 a0_3 a0_4 l0_5 l0_6 v0_0 v0_1 v0_5 v0_6 t8713 t8714 t8715 hA8716) rfl rfl (ltn rfl) (All_of (.cons (List.mem_of_getElem? (i := 0) rfl) (.cons (List.mem_of_getElem? (i := 1) rfl) (.cons (List.mem_of_getElem? (i := 2) rfl) (.cons (List.mem_of_getElem? (i := 3) rfl) .nil)))))) rfl (by kernel_rfl) ?_
        rintro _ _ _ ⟨rfl, rfl, rfl⟩
        refine ⟨⟨trivial, ⟨⟨1, rfl⟩, trivial⟩, trivial⟩, ?_⟩
        refine VA.oneC (i := 3) (listed' := LB 8 15) (by kernel_rfl) rfl (o_call0 FO45 (journal_plan_sealed.ok k t8713 t8714 t8715 l0_0 l0_1 a0_2 a0_3 a0_4 l0_5 l0_6 v0_0 v0_1 v0_5 v0_6 r8717 r8718 t8719 t8720 t8721 r8722 r8723 t8724 hA8725) rfl rfl (ltn rfl) (All_of (.cons (List.mem_of_getElem? (i := 0) rfl) (.cons (List.mem_of_getElem? (i := 1) rfl) (.cons (List.mem_of_getElem? (i := 2) rfl) (.cons (List.mem_of_getElem? (i := 3) rfl) .nil)))))) rfl (by kernel_rfl) ?_
        rintro _ _ _ ⟨v8727, v8729, v8731, v8733, rfl, rfl, rfl⟩
        refine ⟨⟨trivial, ⟨⟨1, rfl⟩, trivial⟩, trivial⟩, ?_⟩
        refine VA.more ⟨0, [], [.row v8727 1 (r8717.map enc_str), .row v8729 2 (r8718.map enc55)], [(g8683, 27, [v0_0, v0_1, .int .i64 a0_2, .int .i64 a0_3, .int .i64 a0_4, v0_5, v0_6])], [(v8731, 9, 1, r8722.map enc_str), (v8733, 9, 1, r8723.map enc_str)]⟩ ⟨trivial, ⟨⟨0, rfl⟩, trivial⟩, trivial⟩ ?_
        refine VA.va (i := 4) (listed' := LB 8 31) rfl (op_extract rfl rfl (ltn rfl)) rfl (by kernel_rfl) (by kernel_rfl) (by kernel_rfl) (by kernel_rfl) ⟨⟨⟨0, rfl⟩, ⟨1, rfl⟩, trivial⟩, ⟨⟨1, rfl⟩, trivial⟩, ⟨⟨0, rfl⟩, ⟨1, rfl⟩, trivial⟩⟩ (fun _ _ _ h => h) ?_
        refine VA.va (i := 5) (listed' := LB 8 63) rfl (op_extract rfl rfl (ltn rfl)) rfl (by kernel_rfl) (by kernel_rfl) (by kernel_rfl) (by kernel_rfl) ⟨⟨⟨0, rfl⟩, ⟨1, rfl⟩, trivial⟩, ⟨⟨1, rfl⟩, trivial⟩, ⟨⟨0, rfl⟩, ⟨1, rfl⟩, trivial⟩⟩ (fun _ _ _ h => h) ?_
        refine VA.one1 (i := 6) (listed' := LB 8 127) (by kernel_rfl) rfl (o_store 0 7 rfl rfl rfl TI27 (.agg (.f 0 rfl (.f 1 rfl (.c rfl (.c rfl (.c rfl (.r 0 rfl (.r 1 rfl .nil)))))))) rfl (len rfl)) rfl (by kernel_rfl) ⟨⟨⟨0, rfl⟩, ⟨1, rfl⟩, trivial⟩, ⟨⟨1, rfl⟩, trivial⟩, ⟨⟨0, rfl⟩, ⟨1, rfl⟩, trivial⟩⟩ ?_
        refine VA.va (i := 7) (listed' := LB 8 255) rfl (op_assign rfl (ltn rfl)) rfl (by kernel_rfl) (by kernel_rfl) (by kernel_rfl) (by kernel_rfl) ⟨⟨⟨0, rfl⟩, ⟨1, rfl⟩, trivial⟩, ⟨⟨1, rfl⟩, trivial⟩, ⟨⟨0, rfl⟩, ⟨1, rfl⟩, trivial⟩⟩ (fun _ _ _ h => h) ?_
        refine VA.done (by kernel_rfl) ?_
        exact VN.meet4 v8727 v8729 v8731 v8733 [0] [0, 1] trivial ⟨rfl, ⟨rfl, rfl, trivial⟩, ⟨⟨0, rfl⟩, ⟨1, rfl⟩, trivial⟩, rfl, by decide, rfl, by decide⟩
      intro v8727 v8729 v8731 v8733 _
      refine VC.ret ?_
      simp only [Option.some.injEq, Prod.mk.injEq] at h
      obtain ⟨rfl, rfl, rfl, rfl, rfl, rfl, rfl, rfl⟩ := h
      exact VR.fn (rs := [.cell 2 27, .tmp 3]) [.row v8727 1 (r8717.map enc_str), .row v8729 2 (r8718.map enc55)] [(v8731, 9, 1, r8722.map enc_str), (v8733, 9, 1, r8723.map enc_str)] [0, 1] rfl (.cell 0 rfl rfl TI27 (fun h => absurd h (by decide)) (.tmp rfl .nil)) ⟨v8727, v8729, v8731, v8733, rfl, rfl, rfl⟩ ⟨⟨0, rfl⟩, ⟨1, rfl⟩, trivial⟩ rfl (by decide)
  · rw [if_neg c8706] at h
    obtain rfl := Bool.eq_false_iff.2 c8706
    refine VL.va (op_not rfl rfl (ltn rfl)) rfl ?_
    refine VL.va (op_assign rfl (ltn rfl)) rfl ?_
    refine VL.done ?_
    refine VN.then ?_
    refine VC.cond_t rfl ?_
    refine VC.seq ?_
    refine VC.region ?_
    refine VL.va (op_build (vals := []) (vcs := []) (cells := [.slice none 0 0, .slice none 0 0, .int .i64 0, .int .i64 0, .int .i64 0, .slice none 0 0, .slice none 0 0]) SI27 rfl .nil (by kernel_rfl) (ltn rfl)) rfl ?_
    refine VL.step1 (o_store 0 7 rfl rfl rfl TI27 (.agg (.of rfl)) rfl (len rfl)) rfl ?_
    refine VL.va (op_assign rfl (ltn rfl)) rfl ?_
    refine VL.done ?_
    refine VN.then ?_
    refine VC.ret ?_
    refine VR.block ?_
    refine VR.then ?_
    simp only [Option.some.injEq, Prod.mk.injEq] at h
    obtain ⟨rfl, rfl, rfl, rfl, rfl, rfl, rfl, rfl⟩ := h
    refine VR.nilFact' 1 ?_
    refine VR.nilFact' 2 ?_
    refine VR.nilRow' 9 1 ?_
    refine VR.nilRow' 9 1 ?_
    exact VR.fn (rs := [.cell 2 27, .tmp 3]) [.row (.slice none 0 0) 1 (([] : List ByteArray).map enc_str), .row (.slice none 0 0) 2 (([] : List S55).map enc55)] [((.slice none 0 0), 9, 1, ([] : List ByteArray).map enc_str), ((.slice none 0 0), 9, 1, ([] : List ByteArray).map enc_str)] [1, 0] rfl (.cell 0 rfl rfl TI27 (fun h => absurd h (by decide)) (.tmp rfl .nil)) ⟨(.slice none 0 0), (.slice none 0 0), (.slice none 0 0), (.slice none 0 0), rfl, rfl, rfl⟩ ⟨⟨1, rfl⟩, ⟨0, rfl⟩, trivial⟩ rfl (by decide)
set_option maxHeartbeats 4000000 in
set_option maxRecDepth 100000 in
theorem tarrylaw05_alive.ok (k : Nat)   (r1 : Bool) (h : tarrylaw05_alive.f k = some r1) :
    VCalls Try.prog 14 [] [] (fun v G own => v = .bool r1 ∧ G = [] ∧ own = []) := by
  refine VCalls.intro Try.func14 rfl (len rfl) fun E hC hW hD hU => ?_
  unfold tarrylaw05_alive.f at h
  refine VC.seq ?_
  refine VC.region ?_
  refine VL.va (op_assign rfl (ltn rfl)) rfl ?_
  refine VL.done ?_
  refine VN.then ?_
  refine VC.seq ?_
  refine VC.region ?_
  replace h := Option.bind_eq_some_iff.1 h
  obtain ⟨⟨r7839, r7840, t7841, t7842, t7843, r7844, r7845, t7846⟩, hA7847, h⟩ := h
  dsimp only at h
  refine VL.sC (o_call0 FO15 (journal_Format.ok k 8 r7839 r7840 t7841 t7842 t7843 r7844 r7845 t7846 hA7847) rfl rfl (ltn rfl) (All_of .nil)) rfl ?_
  rintro _ _ _ ⟨v7849, v7851, v7853, v7855, rfl, rfl, rfl⟩
  refine VL.va (op_move rfl (ltn rfl)) rfl ?_
  refine VL.va (op_extract rfl rfl (ltn rfl)) rfl ?_
  refine VL.va (op_extract rfl rfl (ltn rfl)) rfl ?_
  refine VL.sG (o_alloc Z27 ZL27 (ltn rfl)) rfl ?_
  intro g7856
  refine VL.step1 (o_store 0 7 rfl rfl rfl TI27 (.agg (.f 0 rfl (.f 1 rfl (.c rfl (.c rfl (.c rfl (.r 0 rfl (.r 1 rfl .nil)))))))) rfl (len rfl)) rfl ?_
  refine VL.va (op_assign rfl (ltn rfl)) rfl ?_
  refine VL.done ?_
  refine VN.then ?_
  refine VC.seq ?_
  refine VC.region ?_
  refine VL.va (op_load 0 7 rfl rfl TI27 rfl (fun h => absurd h (by decide)) (ltn rfl)) rfl ?_
  refine VL.freezeRow' 0 rfl ?_
  refine VL.freezeRow' 0 rfl ?_
  replace h := Option.bind_eq_some_iff.1 h
  obtain ⟨⟨r7951, r7952, t7953, t7954, t7955, r7956, r7957, t7958⟩, hA7959, h⟩ := h
  dsimp only at h
  refine VL.sC (o_call0 FO18 (journal_Append.ok k r7839 r7840 t7841 t7842 t7843 r7844 r7845 (⟨#[97]⟩ : ByteArray) v7849 v7851 v7853 v7855 r7951 r7952 t7953 t7954 t7955 r7956 r7957 t7958 hA7959) rfl rfl (ltn rfl) (All_of (.cons (List.mem_of_getElem? (i := 2) rfl) (.cons (List.mem_of_getElem? (i := 3) rfl) (.cons (List.mem_of_getElem? (i := 1) rfl) (.cons (List.mem_of_getElem? (i := 0) rfl) .nil)))))) rfl ?_
  rintro _ _ _ ⟨v7961, v7963, v7965, v7967, rfl, rfl, rfl⟩
  refine VL.va (op_move rfl (ltn rfl)) rfl ?_
  refine VL.va (op_extract rfl rfl (ltn rfl)) rfl ?_
  refine VL.va (op_extract rfl rfl (ltn rfl)) rfl ?_
  refine VL.step1 (o_store 0 7 rfl rfl rfl TI27 (.agg (.f 0 rfl (.f 1 rfl (.c rfl (.c rfl (.c rfl (.f 2 rfl (.f 3 rfl .nil)))))))) rfl (len rfl)) rfl ?_
  refine VL.va (op_assign rfl (ltn rfl)) rfl ?_
  refine VL.done ?_
  refine VN.then ?_
  refine VC.seq ?_
  refine VC.region ?_
  refine VL.va (op_load 0 7 rfl rfl TI27 rfl (fun h => absurd h (by decide)) (ltn rfl)) rfl ?_
  replace h := Option.bind_eq_some_iff.1 h
  obtain ⟨⟨r8738, r8739, t8740, t8741, t8742, r8743, r8744, t8745⟩, hA8746, h⟩ := h
  dsimp only at h
  refine VL.sC (o_call0 FO19 (journal_Commit.ok k r7951 r7952 t7953 t7954 t7955 r7956 r7957 v7961 v7963 v7965 v7967 r8738 r8739 t8740 t8741 t8742 r8743 r8744 t8745 hA8746) rfl rfl (ltn rfl) (All_of (.cons (List.mem_of_getElem? (i := 0) rfl) (.cons (List.mem_of_getElem? (i := 1) rfl) (.cons (List.mem_of_getElem? (i := 2) rfl) (.cons (List.mem_of_getElem? (i := 3) rfl) .nil)))))) rfl ?_
  rintro _ _ _ ⟨v8748, v8750, v8752, v8754, rfl, rfl, rfl⟩
  refine VL.va (op_move rfl (ltn rfl)) rfl ?_
  refine VL.va (op_extract rfl rfl (ltn rfl)) rfl ?_
  refine VL.va (op_extract rfl rfl (ltn rfl)) rfl ?_
  refine VL.step1 (o_store 0 7 rfl rfl rfl TI27 (.agg (.f 0 rfl (.f 1 rfl (.c rfl (.c rfl (.c rfl (.r 0 rfl (.r 1 rfl .nil)))))))) rfl (len rfl)) rfl ?_
  refine VL.va (op_assign rfl (ltn rfl)) rfl ?_
  refine VL.done ?_
  refine VN.then ?_
  refine VC.seq ?_
  refine VC.region ?_
  refine VL.va (op_move rfl (ltn rfl)) rfl ?_
  refine VL.letter ((t7846 == 0)) fun b8769 hb8769 => ?_
  refine VL.va (op_cmp rfl rfl (congrArg some hb8769) (ltn rfl)) rfl ?_
  refine VL.va (op_move rfl (ltn rfl)) rfl ?_
  by_cases c8770 : t7846 = 0
  · rw [if_pos c8770] at h
    obtain rfl : b8769 = true := hb8769.symm.trans (beq_iff_eq.2 c8770)
    refine VL.va (op_move rfl (ltn rfl)) rfl ?_
    refine VL.letter ((t7958 == 0)) fun b8771 hb8771 => ?_
    refine VL.va (op_cmp rfl rfl (congrArg some hb8771) (ltn rfl)) rfl ?_
    refine VL.va (op_pick rfl rfl (ltn rfl)) rfl ?_
    refine VL.va (op_move rfl (ltn rfl)) rfl ?_
    by_cases c8772 : t7958 = 0
    · rw [if_pos c8772] at h
      obtain rfl : b8771 = true := hb8771.symm.trans (beq_iff_eq.2 c8772)
      refine VL.va (op_move rfl (ltn rfl)) rfl ?_
      refine VL.letter ((t8745 == 0)) fun b8773 hb8773 => ?_
      refine VL.va (op_cmp rfl rfl (congrArg some hb8773) (ltn rfl)) rfl ?_
      refine VL.va (op_pick rfl rfl (ltn rfl)) rfl ?_
      refine VL.va (op_move rfl (ltn rfl)) rfl ?_
      by_cases c8774 : t8745 = 0
      · rw [if_pos c8774] at h
        obtain rfl : b8773 = true := hb8773.symm.trans (beq_iff_eq.2 c8774)
        refine VL.va (op_fieldAddr FI27_5 rfl (add_at _ _ _) (ltn rfl)) rfl ?_
        refine VL.va (op_load 0 1 rfl rfl TI22 rfl (by decide) (ltn rfl)) rfl ?_
        refine VL.va (op_len_own (m := r8744.length) 1 lenm Try.underlying22 rfl rfl (ltn rfl)) rfl ?_
        refine VL.letter (((r8744.length : Int) == 1)) fun b8775 hb8775 => ?_
        refine VL.va (op_cmp rfl rfl (congrArg some hb8775) (ltn rfl)) rfl ?_
        refine VL.va (op_pick rfl rfl (ltn rfl)) rfl ?_
        refine VL.va (op_move rfl (ltn rfl)) rfl ?_
        by_cases c8776 : (r8744.length : Int) = 1
        · rw [if_pos c8776] at h
          obtain rfl : b8775 = true := hb8775.symm.trans (beq_iff_eq.2 c8776)
          refine VL.va (op_fieldAddr FI27_5 rfl (add_at _ _ _) (ltn rfl)) rfl ?_
          refine VL.va (op_load 0 1 rfl rfl TI22 rfl (by decide) (ltn rfl)) rfl ?_
          replace h := Option.bind_eq_some_iff.1 h
          obtain ⟨x8777, hx8777, h⟩ := h
          refine VL.openR (m := r8744.length) 1 lenm rfl (pos_get hx8777) ?_
          rintro g8778 n8779 rfl
          refine VL.va (op_indexAddr Try.underlying22 TI9 rfl rfl (by decide) (lt_get (by decide) hx8777) (add_zero_at _ _) (ltn rfl)) rfl ?_
          refine VL.va (op_load_own (sz := 1) (o := 0) 1 0 1 rfl rfl (get_map hx8777) TI9 rfl (by decide) (ltn rfl)) rfl ?_
          refine VL.letter ((x8777 == (⟨#[97]⟩ : ByteArray))) fun b8780 hb8780 => ?_
          refine VL.va (op_cmps rfl rfl (congrArg some hb8780) (ltn rfl)) rfl ?_
          refine VL.va (op_pick rfl rfl (ltn rfl)) rfl ?_
          refine VL.va (op_move rfl (ltn rfl)) rfl ?_
          by_cases c8781 : (x8777 == (⟨#[97]⟩ : ByteArray)) = true
          · rw [if_pos c8781] at h
            obtain rfl : b8780 = true := hb8780.symm.trans (c8781)
            refine VL.va (op_fieldAddr FI27_1 rfl (add_at _ _ _) (ltn rfl)) rfl ?_
            refine VL.va (op_load 0 1 rfl rfl TI3 rfl (by decide) (ltn rfl)) rfl ?_
            refine VL.letter ((t8740 == 2)) fun b8782 hb8782 => ?_
            refine VL.va (op_cmp rfl rfl (congrArg some hb8782) (ltn rfl)) rfl ?_
            refine VL.va (op_pick rfl rfl (ltn rfl)) rfl ?_
            refine VL.va (op_assign rfl (ltn rfl)) rfl ?_
            refine VL.done ?_
            refine VN.then ?_
            refine VC.ret ?_
            obtain rfl := Option.some.inj h
            subst hb8782
            exact VR.fn (rs := [.tmp 0]) [] [] [] rfl (.tmp rfl .nil) ⟨rfl, rfl, rfl⟩ trivial rfl (by decide)
          · rw [if_neg c8781] at h
            obtain rfl : b8780 = false := hb8780.symm.trans (Bool.eq_false_iff.2 c8781)
            refine VL.un rfl rfl (ltn rfl) ?_
            refine VL.un rfl rfl (ltn rfl) ?_
            refine VL.un rfl rfl (ltn rfl) ?_
            refine VL.va (op_pick rfl rfl (ltn rfl)) rfl ?_
            refine VL.va (op_assign rfl (ltn rfl)) rfl ?_
            refine VL.done ?_
            refine VN.then ?_
            refine VC.ret ?_
            obtain rfl := Option.some.inj h
            exact VR.fn (rs := [.tmp 0]) [] [] [] rfl (.tmp rfl .nil) ⟨rfl, rfl, rfl⟩ trivial rfl (by decide)
        · rw [if_neg c8776] at h
          obtain rfl : b8775 = false := hb8775.symm.trans (beq_eq_false_iff_ne.2 c8776)
          refine VL.un rfl rfl (ltn rfl) ?_
          refine VL.un rfl rfl (ltn rfl) ?_
          refine VL.un rfl rfl (ltn rfl) ?_
          refine VL.un rfl rfl (ltn rfl) ?_
          refine VL.un rfl rfl (ltn rfl) ?_
          refine VL.va (op_pick rfl rfl (ltn rfl)) rfl ?_
          refine VL.va (op_move rfl (ltn rfl)) rfl ?_
          refine VL.un rfl rfl (ltn rfl) ?_
          refine VL.un rfl rfl (ltn rfl) ?_
          refine VL.un rfl rfl (ltn rfl) ?_
          refine VL.va (op_pick rfl rfl (ltn rfl)) rfl ?_
          refine VL.va (op_assign rfl (ltn rfl)) rfl ?_
          refine VL.done ?_
          refine VN.then ?_
          refine VC.ret ?_
          obtain rfl := Option.some.inj h
          exact VR.fn (rs := [.tmp 0]) [] [] [] rfl (.tmp rfl .nil) ⟨rfl, rfl, rfl⟩ trivial rfl (by decide)
      · rw [if_neg c8774] at h
        obtain rfl : b8773 = false := hb8773.symm.trans (beq_eq_false_iff_ne.2 c8774)
        refine VL.un rfl rfl (ltn rfl) ?_
        refine VL.un rfl rfl (ltn rfl) ?_
        refine VL.un rfl rfl (ltn rfl) ?_
        refine VL.un rfl rfl (ltn rfl) ?_
        refine VL.va (op_pick rfl rfl (ltn rfl)) rfl ?_
        refine VL.va (op_move rfl (ltn rfl)) rfl ?_
        refine VL.un rfl rfl (ltn rfl) ?_
        refine VL.un rfl rfl (ltn rfl) ?_
        refine VL.un rfl rfl (ltn rfl) ?_
        refine VL.un rfl rfl (ltn rfl) ?_
        refine VL.un rfl rfl (ltn rfl) ?_
        refine VL.va (op_pick rfl rfl (ltn rfl)) rfl ?_
        refine VL.va (op_move rfl (ltn rfl)) rfl ?_
        refine VL.un rfl rfl (ltn rfl) ?_
        refine VL.un rfl rfl (ltn rfl) ?_
        refine VL.un rfl rfl (ltn rfl) ?_
        refine VL.va (op_pick rfl rfl (ltn rfl)) rfl ?_
        refine VL.va (op_assign rfl (ltn rfl)) rfl ?_
        refine VL.done ?_
        refine VN.then ?_
        refine VC.ret ?_
        obtain rfl := Option.some.inj h
        exact VR.fn (rs := [.tmp 0]) [] [] [] rfl (.tmp rfl .nil) ⟨rfl, rfl, rfl⟩ trivial rfl (by decide)
    · rw [if_neg c8772] at h
      obtain rfl : b8771 = false := hb8771.symm.trans (beq_eq_false_iff_ne.2 c8772)
      refine VL.un rfl rfl (ltn rfl) ?_
      refine VL.un rfl rfl (ltn rfl) ?_
      refine VL.va (op_pick rfl rfl (ltn rfl)) rfl ?_
      refine VL.va (op_move rfl (ltn rfl)) rfl ?_
      refine VL.un rfl rfl (ltn rfl) ?_
      refine VL.un rfl rfl (ltn rfl) ?_
      refine VL.un rfl rfl (ltn rfl) ?_
      refine VL.un rfl rfl (ltn rfl) ?_
      refine VL.va (op_pick rfl rfl (ltn rfl)) rfl ?_
      refine VL.va (op_move rfl (ltn rfl)) rfl ?_
      refine VL.un rfl rfl (ltn rfl) ?_
      refine VL.un rfl rfl (ltn rfl) ?_
      refine VL.un rfl rfl (ltn rfl) ?_
      refine VL.un rfl rfl (ltn rfl) ?_
      refine VL.un rfl rfl (ltn rfl) ?_
      refine VL.va (op_pick rfl rfl (ltn rfl)) rfl ?_
      refine VL.va (op_move rfl (ltn rfl)) rfl ?_
      refine VL.un rfl rfl (ltn rfl) ?_
      refine VL.un rfl rfl (ltn rfl) ?_
      refine VL.un rfl rfl (ltn rfl) ?_
      refine VL.va (op_pick rfl rfl (ltn rfl)) rfl ?_
      refine VL.va (op_assign rfl (ltn rfl)) rfl ?_
      refine VL.done ?_
      refine VN.then ?_
      refine VC.ret ?_
      obtain rfl := Option.some.inj h
      exact VR.fn (rs := [.tmp 0]) [] [] [] rfl (.tmp rfl .nil) ⟨rfl, rfl, rfl⟩ trivial rfl (by decide)
  · rw [if_neg c8770] at h
    obtain rfl : b8769 = false := hb8769.symm.trans (beq_eq_false_iff_ne.2 c8770)
    refine VL.un rfl rfl (ltn rfl) ?_
    refine VL.un rfl rfl (ltn rfl) ?_
    refine VL.va (op_pick rfl rfl (ltn rfl)) rfl ?_
    refine VL.va (op_move rfl (ltn rfl)) rfl ?_
    refine VL.un rfl rfl (ltn rfl) ?_
    refine VL.un rfl rfl (ltn rfl) ?_
    refine VL.va (op_pick rfl rfl (ltn rfl)) rfl ?_
    refine VL.va (op_move rfl (ltn rfl)) rfl ?_
    refine VL.un rfl rfl (ltn rfl) ?_
    refine VL.un rfl rfl (ltn rfl) ?_
    refine VL.un rfl rfl (ltn rfl) ?_
    refine VL.un rfl rfl (ltn rfl) ?_
    refine VL.va (op_pick rfl rfl (ltn rfl)) rfl ?_
    refine VL.va (op_move rfl (ltn rfl)) rfl ?_
    refine VL.un rfl rfl (ltn rfl) ?_
    refine VL.un rfl rfl (ltn rfl) ?_
    refine VL.un rfl rfl (ltn rfl) ?_
    refine VL.un rfl rfl (ltn rfl) ?_
    refine VL.un rfl rfl (ltn rfl) ?_
    refine VL.va (op_pick rfl rfl (ltn rfl)) rfl ?_
    refine VL.va (op_move rfl (ltn rfl)) rfl ?_
    refine VL.un rfl rfl (ltn rfl) ?_
    refine VL.un rfl rfl (ltn rfl) ?_
    refine VL.un rfl rfl (ltn rfl) ?_
    refine VL.va (op_pick rfl rfl (ltn rfl)) rfl ?_
    refine VL.va (op_assign rfl (ltn rfl)) rfl ?_
    refine VL.done ?_
    refine VN.then ?_
    refine VC.ret ?_
    obtain rfl := Option.some.inj h
    exact VR.fn (rs := [.tmp 0]) [] [] [] rfl (.tmp rfl .nil) ⟨rfl, rfl, rfl⟩ trivial rfl (by decide)

end Go.Proofs.Ytipeglbeongfmaa.PJournalUnused
