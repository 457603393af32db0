/- Written by a program of this repo: what the program's functions do, each as a Lean function, shown of the loaded code; or a statement's row over that; no condition of its own. -/
import Derived.Test.YtdofmkbffffbpaaPWaitsGox6
namespace Go.Proofs.Ytdofmkbffffbpaa.PWaitsGo
open Go Go.RowKit Go.Proofs.YtdofmkbffffbpaaV
set_option linter.unusedVariables false
set_option linter.unusedSimpArgs false

set_option maxHeartbeats 4000000 in
set_option maxRecDepth 100000 in
theorem tarryref09_All.ok (k : Nat) (l0 : List S25) (v0 : Value) (r1 : Bool) (h : tarryref09_All.f k l0 = some r1) :
    VCalls Try.prog 14 [v0] [.row v0 4 (l0.map enc25)] (fun v G own => v = .bool r1 ∧ G = [] ∧ own = []) := by
  refine VCalls.intro Try.func14 rfl (len rfl) fun E hC hW hD hU => ?_
  unfold tarryref09_All.f at h
  refine VC.seq ?_
  refine VC.region ?_
  refine VL.va (op_assign rfl (ltn rfl)) rfl ?_
  refine VL.done ?_
  refine VN.then ?_
  refine VC.seq ?_
  refine VC.seq ?_
  refine VC.region ?_
  refine VL.va (op_move rfl (ltn rfl)) rfl ?_
  refine VL.va (op_len (m := l0.length) 0 lenm Try.underlying22 rfl rfl (ltn rfl)) rfl ?_
  refine VL.va (op_move rfl (ltn rfl)) rfl ?_
  refine VL.done ?_
  refine VN.then ?_
  refine VC.block ?_
  refine VC.loop1 (fun (i3330 : Int) => ⟨26, [(0, v0), (2, .bool false), (5, v0), (6, .int .i64 (l0.length : Int)), (7, .int .i64 i3330)], [.row v0 4 (l0.map enc25)], [], []⟩) (fun (ml1 : Nat) (i3330 : Int) => tarryref09_All.l1 k l0 ml1 i3330 = some r1) k 0 [] [] h ⟨rfl, ⟨rfl, rfl, rfl, rfl, rfl, trivial⟩, ⟨⟨0, rfl⟩, trivial⟩, rfl, by decide, rfl, by decide⟩ (by intros; simp [tarryref09_All.l1]) ?_
  clear h
  intro ml1 ihl1 i3330 h
  simp only [tarryref09_All.l1] at h
  refine VC.seq ?_
  refine VC.region ?_
  refine VL.letter (decide (i3330 < (l0.length : Int))) fun b3362 hb3362 => ?_
  refine VL.va (op_cmp rfl rfl (congrArg some hb3362) (ltn rfl)) rfl ?_
  refine VL.done ?_
  refine VN.then ?_
  refine VC.seq ?_
  by_cases c3365 : i3330 < (l0.length : Int)
  · rw [if_pos c3365] at h
    obtain rfl : b3362 = true := hb3362.symm.trans (decide_eq_true c3365)
    refine VC.cond_t rfl ?_
    refine VC.skip ?_
    refine VN.then ?_
    refine VC.seq ?_
    refine VC.block ?_
    refine VC.seq ?_
    refine VC.region ?_
    refine VL.va (op_move rfl (ltn rfl)) rfl ?_
    by_cases c3380 : 0 ≤ i3330
    · rw [if_pos c3380] at h
      replace h := Option.bind_eq_some_iff.1 h
      obtain ⟨x3381, hx3381, h⟩ := h
      refine VL.open (m := l0.length) 0 lenm rfl (pos_get hx3381) ?_
      rintro ad3382 n3383 rfl
      refine VL.va (op_indexAddr Try.underlying22 TI26 rfl rfl c3380 (lt_get c3380 hx3381) rfl (ltn rfl)) rfl ?_
      refine VL.va (op_load_row (sz := 4) (o := 0) 0 i3330.toNat 4 rfl rfl (get_map hx3381) TI26 rfl (fun h => absurd h (by decide)) (ltn rfl)) rfl ?_
      refine VL.sG (o_alloc Z26 ZL26 (ltn rfl)) rfl ?_
      intro g3384
      refine VL.va (op_assign rfl (ltn rfl)) rfl ?_
      refine VL.step1 (o_store 0 4 rfl rfl rfl TI26 (.agg (.of rfl)) rfl (len rfl)) rfl ?_
      refine VL.done ?_
      refine VN.then ?_
      replace h := Option.bind_eq_some_iff.1 h
      obtain ⟨t3385, hA3386, h⟩ := h
      by_cases c3387 : t3385 = true
      · rw [if_pos c3387] at h
        obtain rfl := c3387
        by_cases c3388 : i3330 ≤ (l0.length : Int)
        · rw [if_pos c3388] at h
          replace h := Option.bind_eq_some_iff.1 h
          obtain ⟨t3391, hA3392, h⟩ := h
          refine VC.join1 (fun (v3390 : Value) => ⟨26, [(0, (.slice (some ad3382) l0.length n3383)), (2, .bool false), (3, .int .i64 i3330), (4, .pointer (some ⟨g3384, 0, none⟩)), (5, (.slice (some ad3382) l0.length n3383)), (6, .int .i64 (l0.length : Int)), (7, .int .i64 i3330), (8, .bool true), (9, .int .i64 i3330), (11, .agg #[.string x3381.f0, .int .i64 x3381.f1, .int .i64 x3381.f2, .int .i64 x3381.f3]), (12, .agg #[.string x3381.f0, .int .i64 x3381.f1, .int .i64 x3381.f2, .int .i64 x3381.f3]), (13, .bool true), (14, .bool false), (15, .bool false), (16, (.slice (some ad3382) l0.length n3383)), (17, .int .i64 i3330), (18, v3390), (19, .agg #[.string x3381.f0, .int .i64 x3381.f1, .int .i64 x3381.f2, .int .i64 x3381.f3]), (20, .bool t3391), (21, .bool t3391)], [.row v3390 4 (((l0.take i3330.toNat).drop 0).map enc25), .row (.slice (some ad3382) l0.length n3383) 4 (l0.map enc25)], [(g3384, 26, [.string x3381.f0, .int .i64 x3381.f1, .int .i64 x3381.f2, .int .i64 x3381.f3])], []⟩) (fun (v3390 : Value) => True) ?_ ?_
          · refine VC.draw ⟨0, [], [.row (.slice (some ad3382) l0.length n3383) 4 (l0.map enc25)], [(g3384, 26, [.string x3381.f0, .int .i64 x3381.f1, .int .i64 x3381.f2, .int .i64 x3381.f3])], []⟩ (by kernel_rfl) rfl (by kernel_rfl) (n := 10) (listed := LB 10 0) ?_
            refine VA.va (i := 0) (listed' := LB 10 1) rfl (op_load 0 4 rfl rfl TI26 rfl (fun h => absurd h (by decide)) (ltn rfl)) rfl (by kernel_rfl) (by kernel_rfl) (by kernel_rfl) (by kernel_rfl) ⟨⟨⟨0, rfl⟩, trivial⟩, ⟨⟨0, rfl⟩, trivial⟩, trivial⟩ (fun _ _ _ h => h) ?_
            refine VA.oneC (i := 1) (listed' := LB 10 3) (by kernel_rfl) rfl (o_call0 FO17 (tarryref09_May.ok k x3381.f0 x3381.f1 x3381.f2 x3381.f3 true hA3386) rfl rfl (ltn rfl) (All_of .nil)) rfl (by kernel_rfl) ?_
            rintro _ _ _ ⟨rfl, rfl, rfl⟩
            refine ⟨⟨⟨⟨0, rfl⟩, trivial⟩, ⟨⟨0, rfl⟩, trivial⟩, trivial⟩, ?_⟩
            refine VA.va (i := 2) (listed' := LB 10 7) rfl (op_not rfl rfl (ltn rfl)) rfl (by kernel_rfl) (by kernel_rfl) (by kernel_rfl) (by kernel_rfl) ⟨⟨⟨0, rfl⟩, trivial⟩, ⟨⟨0, rfl⟩, trivial⟩, trivial⟩ (fun _ _ _ h => h) ?_
            refine VA.va (i := 3) (listed' := LB 10 15) rfl (op_move rfl (ltn rfl)) rfl (by kernel_rfl) (by kernel_rfl) (by kernel_rfl) (by kernel_rfl) ⟨⟨⟨0, rfl⟩, trivial⟩, ⟨⟨0, rfl⟩, trivial⟩, trivial⟩ (fun _ _ _ h => h) ?_
            refine VA.va (i := 4) (listed' := LB 10 31) rfl (op_move rfl (ltn rfl)) rfl (by kernel_rfl) (by kernel_rfl) (by kernel_rfl) (by kernel_rfl) ⟨⟨⟨0, rfl⟩, trivial⟩, ⟨⟨0, rfl⟩, trivial⟩, trivial⟩ (fun _ _ _ h => h) ?_
            refine VA.va (i := 5) (listed' := LB 10 63) rfl (op_move rfl (ltn rfl)) rfl (by kernel_rfl) (by kernel_rfl) (by kernel_rfl) (by kernel_rfl) ⟨⟨⟨0, rfl⟩, trivial⟩, ⟨⟨0, rfl⟩, trivial⟩, trivial⟩ (fun _ _ _ h => h) ?_
            refine VA.cut (i := 6) (listed' := LB 10 127) rfl (m := l0.length) 0 0 i3330.toNat lenm cutm Try.underlying22 TI26 rfl rfl ⟨rfl, ⟨_, _, rfl, c3380, rfl⟩, by omega, by omega⟩ (ltn rfl) rfl (by kernel_rfl) (by kernel_rfl) (by kernel_rfl) (by kernel_rfl) ⟨⟨⟨0, rfl⟩, trivial⟩, ⟨⟨0, rfl⟩, trivial⟩, trivial⟩ (fun _ _ _ _ h => h) ?_
            intro v3390
            refine VA.va (i := 7) (listed' := LB 10 255) rfl (op_load 0 4 rfl rfl TI26 rfl (fun h => absurd h (by decide)) (ltn rfl)) rfl (by kernel_rfl) (by kernel_rfl) (by kernel_rfl) (by kernel_rfl) ⟨⟨⟨1, rfl⟩, trivial⟩, ⟨⟨0, rfl⟩, trivial⟩, trivial⟩ (fun _ _ _ h => h) ?_
            refine VA.oneC (i := 8) (listed' := LB 10 511) (by kernel_rfl) rfl (o_call0 FO18 (tarryref09_Twice.ok k ((l0.take i3330.toNat).drop 0) x3381.f0 x3381.f1 x3381.f2 x3381.f3 v3390 t3391 hA3392) rfl rfl (ltn rfl) (All_of (.cons (List.mem_of_getElem? (i := 0) rfl) .nil))) rfl (by kernel_rfl) ?_
            rintro _ _ _ ⟨rfl, rfl, rfl⟩
            refine ⟨⟨⟨⟨1, rfl⟩, trivial⟩, ⟨⟨0, rfl⟩, trivial⟩, trivial⟩, ?_⟩
            refine VA.va (i := 9) (listed' := LB 10 1023) rfl (op_pick rfl rfl (ltn rfl)) rfl (by kernel_rfl) (by kernel_rfl) (by kernel_rfl) (by kernel_rfl) ⟨⟨⟨1, rfl⟩, trivial⟩, ⟨⟨0, rfl⟩, trivial⟩, trivial⟩ (fun _ _ _ h => h) ?_
            refine VA.done (by kernel_rfl) ?_
            exact VN.meet1 v3390 [0] [] trivial ⟨rfl, ⟨rfl, rfl, rfl, rfl, rfl, rfl, rfl, rfl, rfl, rfl, rfl, rfl, rfl, rfl, rfl, rfl, rfl, rfl, rfl, rfl, trivial⟩, ⟨⟨0, rfl⟩, ⟨1, rfl⟩, trivial⟩, rfl, by decide, rfl, by decide⟩
          intro v3390 _
          by_cases c3393 : t3391 = true
          · rw [if_pos c3393] at h
            obtain rfl := c3393
            refine VC.cond_t rfl ?_
            refine VC.seq ?_
            refine VC.region ?_
            refine VL.va (op_assign rfl (ltn rfl)) rfl ?_
            refine VL.done ?_
            refine VN.then ?_
            refine VC.ret ?_
            refine VR.block ?_
            refine VR.then ?_
            refine VR.then ?_
            refine VR.block ?_
            refine VR.then ?_
            obtain rfl := Option.some.inj h
            exact VR.fn (rs := [.tmp 2]) [] [] [] rfl (.tmp rfl .nil) ⟨rfl, rfl, rfl⟩ trivial rfl (by decide)
          · rw [if_neg c3393] at h
            obtain rfl := Bool.eq_false_iff.2 c3393
            refine VC.cond_f rfl ?_
            refine VC.skip ?_
            refine VN.block ?_
            refine VN.then ?_
            refine VC.region ?_
            refine VL.va (op_ari64 rfl rfl rfl (ltn rfl)) rfl ?_
            refine VL.va (op_move rfl (ltn rfl)) rfl ?_
            refine VL.done ?_
            refine VN.again [] [] (ihl1 (wrap64 (i3330 + 1)) h) ⟨rfl, ⟨rfl, rfl, rfl, rfl, rfl, trivial⟩, ⟨⟨1, rfl⟩, trivial⟩, rfl, by decide, rfl, by decide⟩
        · rw [if_neg c3388] at h; cases h
      · rw [if_neg c3387] at h
        obtain rfl := Bool.eq_false_iff.2 c3387
        refine VC.join0 (⟨26, [(0, (.slice (some ad3382) l0.length n3383)), (2, .bool false), (3, .int .i64 i3330), (4, .pointer (some ⟨g3384, 0, none⟩)), (5, (.slice (some ad3382) l0.length n3383)), (6, .int .i64 (l0.length : Int)), (7, .int .i64 i3330), (8, .bool true), (9, .int .i64 i3330), (11, .agg #[.string x3381.f0, .int .i64 x3381.f1, .int .i64 x3381.f2, .int .i64 x3381.f3]), (12, .agg #[.string x3381.f0, .int .i64 x3381.f1, .int .i64 x3381.f2, .int .i64 x3381.f3]), (13, .bool false), (14, .bool true), (15, .bool true), (16, undef), (17, undef), (18, undef), (19, undef), (20, undef), (21, .bool true)], [.row (.slice (some ad3382) l0.length n3383) 4 (l0.map enc25)], [(g3384, 26, [.string x3381.f0, .int .i64 x3381.f1, .int .i64 x3381.f2, .int .i64 x3381.f3])], []⟩) (True) ?_ ?_
        · refine VC.draw ⟨0, [], [], [(g3384, 26, [.string x3381.f0, .int .i64 x3381.f1, .int .i64 x3381.f2, .int .i64 x3381.f3])], []⟩ (by kernel_rfl) rfl (by kernel_rfl) (n := 10) (listed := LB 10 0) ?_
          refine VA.va (i := 0) (listed' := LB 10 1) rfl (op_load 0 4 rfl rfl TI26 rfl (fun h => absurd h (by decide)) (ltn rfl)) rfl (by kernel_rfl) (by kernel_rfl) (by kernel_rfl) (by kernel_rfl) ⟨trivial, ⟨⟨0, rfl⟩, trivial⟩, trivial⟩ (fun _ _ _ h => h) ?_
          refine VA.oneC (i := 1) (listed' := LB 10 3) (by kernel_rfl) rfl (o_call0 FO17 (tarryref09_May.ok k x3381.f0 x3381.f1 x3381.f2 x3381.f3 false hA3386) rfl rfl (ltn rfl) (All_of .nil)) rfl (by kernel_rfl) ?_
          rintro _ _ _ ⟨rfl, rfl, rfl⟩
          refine ⟨⟨trivial, ⟨⟨0, rfl⟩, trivial⟩, trivial⟩, ?_⟩
          refine VA.va (i := 2) (listed' := LB 10 7) rfl (op_not rfl rfl (ltn rfl)) rfl (by kernel_rfl) (by kernel_rfl) (by kernel_rfl) (by kernel_rfl) ⟨trivial, ⟨⟨0, rfl⟩, trivial⟩, trivial⟩ (fun _ _ _ h => h) ?_
          refine VA.va (i := 3) (listed' := LB 10 15) rfl (op_move rfl (ltn rfl)) rfl (by kernel_rfl) (by kernel_rfl) (by kernel_rfl) (by kernel_rfl) ⟨trivial, ⟨⟨0, rfl⟩, trivial⟩, trivial⟩ (fun _ _ _ h => h) ?_
          refine VA.un (i := 4) (listed' := LB 10 31) rfl rfl rfl (ltn rfl) (by kernel_rfl) (by kernel_rfl) (by kernel_rfl) (by kernel_rfl) ⟨trivial, ⟨⟨0, rfl⟩, trivial⟩, trivial⟩ (fun _ _ _ h => h) ?_
          refine VA.un (i := 5) (listed' := LB 10 63) rfl rfl rfl (ltn rfl) (by kernel_rfl) (by kernel_rfl) (by kernel_rfl) (by kernel_rfl) ⟨trivial, ⟨⟨0, rfl⟩, trivial⟩, trivial⟩ (fun _ _ _ h => h) ?_
          refine VA.un (i := 6) (listed' := LB 10 127) rfl rfl rfl (ltn rfl) (by kernel_rfl) (by kernel_rfl) (by kernel_rfl) (by kernel_rfl) ⟨trivial, ⟨⟨0, rfl⟩, trivial⟩, trivial⟩ (fun _ _ _ h => h) ?_
          refine VA.un (i := 7) (listed' := LB 10 255) rfl rfl rfl (ltn rfl) (by kernel_rfl) (by kernel_rfl) (by kernel_rfl) (by kernel_rfl) ⟨trivial, ⟨⟨0, rfl⟩, trivial⟩, trivial⟩ (fun _ _ _ h => h) ?_
          refine VA.un (i := 8) (listed' := LB 10 511) rfl rfl rfl (ltn rfl) (by kernel_rfl) (by kernel_rfl) (by kernel_rfl) (by kernel_rfl) ⟨trivial, ⟨⟨0, rfl⟩, trivial⟩, trivial⟩ (fun _ _ _ h => h) ?_
          refine VA.va (i := 9) (listed' := LB 10 1023) rfl (op_pick rfl rfl (ltn rfl)) rfl (by kernel_rfl) (by kernel_rfl) (by kernel_rfl) (by kernel_rfl) ⟨trivial, ⟨⟨0, rfl⟩, trivial⟩, trivial⟩ (fun _ _ _ h => h) ?_
          refine VA.done (by kernel_rfl) ?_
          exact VN.meet0  [0] [] trivial ⟨rfl, ⟨rfl, rfl, rfl, rfl, rfl, rfl, rfl, rfl, rfl, rfl, rfl, rfl, rfl, rfl, rfl, rfl, rfl, rfl, rfl, rfl, trivial⟩, ⟨⟨0, rfl⟩, trivial⟩, rfl, by decide, rfl, by decide⟩
        intro _
        refine VC.cond_t rfl ?_
        refine VC.seq ?_
        refine VC.region ?_
        refine VL.va (op_assign rfl (ltn rfl)) rfl ?_
        refine VL.done ?_
        refine VN.then ?_
        refine VC.ret ?_
        refine VR.block ?_
        refine VR.then ?_
        refine VR.then ?_
        refine VR.block ?_
        refine VR.then ?_
        obtain rfl := Option.some.inj h
        exact VR.fn (rs := [.tmp 2]) [] [] [] rfl (.tmp rfl .nil) ⟨rfl, rfl, rfl⟩ trivial rfl (by decide)
    · rw [if_neg c3380] at h; cases h
  · rw [if_neg c3365] at h
    obtain rfl : b3362 = false := hb3362.symm.trans (decide_eq_false c3365)
    refine VC.cond_f rfl ?_
    refine VC.exit ?_
    refine VX.then ?_
    refine VX.then ?_
    refine VX.hit ?_
    refine VN.then ?_
    refine VC.seq ?_
    refine VC.region ?_
    refine VL.va (op_move rfl (ltn rfl)) rfl ?_
    refine VL.va (op_len (m := l0.length) 0 lenm Try.underlying22 rfl rfl (ltn rfl)) rfl ?_
    refine VL.letter (decide ((l0.length : Int) ≤ 32)) fun b3394 hb3394 => ?_
    refine VL.va (op_cmp rfl rfl (congrArg some hb3394) (ltn rfl)) rfl ?_
    refine VL.va (op_assign rfl (ltn rfl)) rfl ?_
    refine VL.done ?_
    refine VN.then ?_
    refine VC.ret ?_
    obtain rfl := Option.some.inj h
    subst hb3394
    exact VR.fn (rs := [.tmp 2]) [] [] [] rfl (.tmp rfl .nil) ⟨rfl, rfl, rfl⟩ trivial rfl (by decide)
set_option maxHeartbeats 4000000 in
set_option maxRecDepth 100000 in
theorem tarryref07_Less.ok (k : Nat) (a0 : ByteArray) (a1 : ByteArray)  (r1 : Bool) (h : tarryref07_Less.f k a0 a1 = some r1) :
    VCalls Try.prog 51 [.string a0, .string a1] [] (fun v G own => v = .bool r1 ∧ G = [] ∧ own = []) := by
  refine VCalls.intro Try.func51 rfl (len rfl) fun E hC hW hD hU => ?_
  unfold tarryref07_Less.f at h
  refine VC.seq ?_
  refine VC.region ?_
  refine VL.va (op_assign rfl (ltn rfl)) rfl ?_
  refine VL.done ?_
  refine VN.then ?_
  refine VC.seq ?_
  refine VC.seq ?_
  refine VC.region ?_
  refine VL.va (op_assign rfl (ltn rfl)) rfl ?_
  refine VL.done ?_
  refine VN.then ?_
  refine VC.block ?_
  refine VC.loop1 (fun (i3516 : Int) => ⟨37, [(0, .string a0), (1, .string a1), (4, .bool false), (5, .int .i64 i3516)], [], [], []⟩) (fun (ml1 : Nat) (i3516 : Int) => tarryref07_Less.l1 k a0 a1 ml1 i3516 = some r1) k 0 [] [] h ⟨rfl, ⟨rfl, rfl, rfl, rfl, trivial⟩, trivial, rfl, by decide, rfl, by decide⟩ (by intros; simp [tarryref07_Less.l1]) ?_
  clear h
  intro ml1 ihl1 i3516 h
  simp only [tarryref07_Less.l1] at h
  refine VC.seq ?_
  refine VC.seq ?_
  refine VC.region ?_
  refine VL.va (op_move rfl (ltn rfl)) rfl ?_
  refine VL.va (op_move rfl (ltn rfl)) rfl ?_
  refine VL.va (op_lens Try.underlying9 rfl (ltn rfl)) rfl ?_
  refine VL.letter (decide (i3516 < (a0.size : Int))) fun b3555 hb3555 => ?_
  refine VL.va (op_cmp rfl rfl (congrArg some hb3555) (ltn rfl)) rfl ?_
  refine VL.va (op_move rfl (ltn rfl)) rfl ?_
  by_cases c3556 : i3516 < (a0.size : Int)
  · rw [if_pos c3556] at h
    obtain rfl : b3555 = true := hb3555.symm.trans (decide_eq_true c3556)
    refine VL.va (op_move rfl (ltn rfl)) rfl ?_
    refine VL.va (op_move rfl (ltn rfl)) rfl ?_
    refine VL.va (op_lens Try.underlying9 rfl (ltn rfl)) rfl ?_
    refine VL.letter (decide (i3516 < (a1.size : Int))) fun b3557 hb3557 => ?_
    refine VL.va (op_cmp rfl rfl (congrArg some hb3557) (ltn rfl)) rfl ?_
    refine VL.va (op_pick rfl rfl (ltn rfl)) rfl ?_
    refine VL.done ?_
    refine VN.then ?_
    by_cases c3558 : i3516 < (a1.size : Int)
    · rw [if_pos c3558] at h
      obtain rfl : b3557 = true := hb3557.symm.trans (decide_eq_true c3558)
      refine VC.cond_t rfl ?_
      refine VC.skip ?_
      refine VN.then ?_
      refine VC.seq ?_
      refine VC.block ?_
      by_cases c3565 : 0 ≤ i3516
      · rw [if_pos c3565] at h
        by_cases c3566 : i3516 < (a0.size : Int)
        · rw [if_pos c3566] at h
          by_cases c3567 : i3516 < (a1.size : Int)
          · rw [if_pos c3567] at h
            refine VC.letter (((bt a0 i3516) != (bt a1 i3516))) fun b3568 hb3568 => ?_
            refine VC.join0 (⟨37, [(0, .string a0), (1, .string a1), (4, .bool false), (5, .int .i64 i3516), (6, .int .i64 i3516), (7, .string a0), (8, .int .i64 (a0.size : Int)), (9, .bool true), (10, .bool true), (11, .int .i64 i3516), (12, .string a1), (13, .int .i64 (a1.size : Int)), (14, .bool true), (15, .bool true), (18, .string a0), (19, .int .i64 i3516), (20, .int .u8 (bt a0 i3516)), (21, .string a1), (22, .int .i64 i3516), (23, .int .u8 (bt a1 i3516)), (24, .bool b3568)], [], [], []⟩) (True) ?_ ?_
            · refine VC.draw ⟨0, [], [], [], []⟩ (by kernel_rfl) rfl (by kernel_rfl) (n := 7) (listed := LB 7 0) ?_
              refine VA.va (i := 0) (listed' := LB 7 1) rfl (op_move rfl (ltn rfl)) rfl (by kernel_rfl) (by kernel_rfl) (by kernel_rfl) (by kernel_rfl) ⟨trivial, trivial, trivial⟩ (fun _ _ _ h => h) ?_
              refine VA.va (i := 1) (listed' := LB 7 3) rfl (op_move rfl (ltn rfl)) rfl (by kernel_rfl) (by kernel_rfl) (by kernel_rfl) (by kernel_rfl) ⟨trivial, trivial, trivial⟩ (fun _ _ _ h => h) ?_
              refine VA.va (i := 2) (listed' := LB 7 7) rfl (op_indexS Try.underlying9 rfl rfl c3565 c3566 rfl (ltn rfl)) rfl (by kernel_rfl) (by kernel_rfl) (by kernel_rfl) (by kernel_rfl) ⟨trivial, trivial, trivial⟩ (fun _ _ _ h => h) ?_
              refine VA.va (i := 3) (listed' := LB 7 15) rfl (op_move rfl (ltn rfl)) rfl (by kernel_rfl) (by kernel_rfl) (by kernel_rfl) (by kernel_rfl) ⟨trivial, trivial, trivial⟩ (fun _ _ _ h => h) ?_
              refine VA.va (i := 4) (listed' := LB 7 31) rfl (op_move rfl (ltn rfl)) rfl (by kernel_rfl) (by kernel_rfl) (by kernel_rfl) (by kernel_rfl) ⟨trivial, trivial, trivial⟩ (fun _ _ _ h => h) ?_
              refine VA.va (i := 5) (listed' := LB 7 63) rfl (op_indexS Try.underlying9 rfl rfl c3565 c3567 rfl (ltn rfl)) rfl (by kernel_rfl) (by kernel_rfl) (by kernel_rfl) (by kernel_rfl) ⟨trivial, trivial, trivial⟩ (fun _ _ _ h => h) ?_
              refine VA.va (i := 6) (listed' := LB 7 127) rfl (op_cmp rfl rfl (congrArg some hb3568) (ltn rfl)) rfl (by kernel_rfl) (by kernel_rfl) (by kernel_rfl) (by kernel_rfl) ⟨trivial, trivial, trivial⟩ (fun _ _ _ h => h) ?_
              refine VA.done (by kernel_rfl) ?_
              exact VN.meet0  [] [] trivial ⟨rfl, ⟨rfl, rfl, rfl, rfl, rfl, rfl, rfl, rfl, rfl, rfl, rfl, rfl, rfl, rfl, rfl, rfl, rfl, rfl, rfl, rfl, rfl, trivial⟩, trivial, rfl, by decide, rfl, by decide⟩
            intro _
            by_cases c3569 : (bt a0 i3516) = (bt a1 i3516)
            · rw [if_pos c3569] at h
              obtain rfl : b3568 = false := hb3568.symm.trans (bne_eq_false_iff_eq.2 c3569)
              refine VC.cond_f rfl ?_
              refine VC.skip ?_
              refine VN.block ?_
              refine VN.then ?_
              refine VC.region ?_
              refine VL.va (op_move rfl (ltn rfl)) rfl ?_
              refine VL.va (op_ari64 rfl rfl rfl (ltn rfl)) rfl ?_
              refine VL.va (op_assign rfl (ltn rfl)) rfl ?_
              refine VL.done ?_
              refine VN.again [] [] (ihl1 (wrap64 (i3516 + 1)) h) ⟨rfl, ⟨rfl, rfl, rfl, rfl, trivial⟩, trivial, rfl, by decide, rfl, by decide⟩
            · rw [if_neg c3569] at h
              obtain rfl : b3568 = true := hb3568.symm.trans (bne_iff_ne.2 c3569)
              refine VC.cond_t rfl ?_
              refine VC.letter (decide ((bt a0 i3516) < (bt a1 i3516))) fun b3570 hb3570 => ?_
              refine VC.join0 (⟨37, [(0, .string a0), (1, .string a1), (4, .bool b3570), (5, .int .i64 i3516), (6, .int .i64 i3516), (7, .string a0), (8, .int .i64 (a0.size : Int)), (9, .bool true), (10, .bool true), (11, .int .i64 i3516), (12, .string a1), (13, .int .i64 (a1.size : Int)), (14, .bool true), (15, .bool true), (18, .string a0), (19, .int .i64 i3516), (20, .int .u8 (bt a0 i3516)), (21, .string a1), (22, .int .i64 i3516), (23, .int .u8 (bt a1 i3516)), (24, .bool true), (25, .string a0), (26, .int .i64 i3516), (27, .int .u8 (bt a0 i3516)), (28, .string a1), (29, .int .i64 i3516), (30, .int .u8 (bt a1 i3516)), (31, .bool b3570)], [], [], []⟩) (True) ?_ ?_
              · refine VC.draw ⟨0, [], [], [], []⟩ (by kernel_rfl) rfl (by kernel_rfl) (n := 8) (listed := LB 8 0) ?_
                refine VA.va (i := 0) (listed' := LB 8 1) rfl (op_move rfl (ltn rfl)) rfl (by kernel_rfl) (by kernel_rfl) (by kernel_rfl) (by kernel_rfl) ⟨trivial, trivial, trivial⟩ (fun _ _ _ h => h) ?_
                refine VA.va (i := 1) (listed' := LB 8 3) rfl (op_move rfl (ltn rfl)) rfl (by kernel_rfl) (by kernel_rfl) (by kernel_rfl) (by kernel_rfl) ⟨trivial, trivial, trivial⟩ (fun _ _ _ h => h) ?_
                refine VA.va (i := 2) (listed' := LB 8 7) rfl (op_indexS Try.underlying9 rfl rfl c3565 c3566 rfl (ltn rfl)) rfl (by kernel_rfl) (by kernel_rfl) (by kernel_rfl) (by kernel_rfl) ⟨trivial, trivial, trivial⟩ (fun _ _ _ h => h) ?_
                refine VA.va (i := 3) (listed' := LB 8 15) rfl (op_move rfl (ltn rfl)) rfl (by kernel_rfl) (by kernel_rfl) (by kernel_rfl) (by kernel_rfl) ⟨trivial, trivial, trivial⟩ (fun _ _ _ h => h) ?_
                refine VA.va (i := 4) (listed' := LB 8 31) rfl (op_move rfl (ltn rfl)) rfl (by kernel_rfl) (by kernel_rfl) (by kernel_rfl) (by kernel_rfl) ⟨trivial, trivial, trivial⟩ (fun _ _ _ h => h) ?_
                refine VA.va (i := 5) (listed' := LB 8 63) rfl (op_indexS Try.underlying9 rfl rfl c3565 c3567 rfl (ltn rfl)) rfl (by kernel_rfl) (by kernel_rfl) (by kernel_rfl) (by kernel_rfl) ⟨trivial, trivial, trivial⟩ (fun _ _ _ h => h) ?_
                refine VA.va (i := 6) (listed' := LB 8 127) rfl (op_cmp rfl rfl (congrArg some hb3570) (ltn rfl)) rfl (by kernel_rfl) (by kernel_rfl) (by kernel_rfl) (by kernel_rfl) ⟨trivial, trivial, trivial⟩ (fun _ _ _ h => h) ?_
                refine VA.va (i := 7) (listed' := LB 8 255) rfl (op_assign rfl (ltn rfl)) rfl (by kernel_rfl) (by kernel_rfl) (by kernel_rfl) (by kernel_rfl) ⟨trivial, trivial, trivial⟩ (fun _ _ _ h => h) ?_
                refine VA.done (by kernel_rfl) ?_
                exact VN.meet0  [] [] trivial ⟨rfl, ⟨rfl, rfl, rfl, rfl, rfl, rfl, rfl, rfl, rfl, rfl, rfl, rfl, rfl, rfl, rfl, rfl, rfl, rfl, rfl, rfl, rfl, rfl, rfl, rfl, rfl, rfl, rfl, rfl, trivial⟩, trivial, rfl, by decide, rfl, by decide⟩
              intro _
              refine VC.ret ?_
              refine VR.block ?_
              refine VR.then ?_
              refine VR.then ?_
              refine VR.block ?_
              refine VR.then ?_
              obtain rfl := Option.some.inj h
              subst hb3570
              exact VR.fn (rs := [.tmp 4]) [] [] [] rfl (.tmp rfl .nil) ⟨rfl, rfl, rfl⟩ trivial rfl (by decide)
          · rw [if_neg c3567] at h; cases h
        · rw [if_neg c3566] at h; cases h
      · rw [if_neg c3565] at h; cases h
    · rw [if_neg c3558] at h
      obtain rfl : b3557 = false := hb3557.symm.trans (decide_eq_false c3558)
      refine VC.cond_f rfl ?_
      refine VC.exit ?_
      refine VX.then ?_
      refine VX.then ?_
      refine VX.hit ?_
      refine VN.then ?_
      refine VC.seq ?_
      refine VC.region ?_
      refine VL.va (op_move rfl (ltn rfl)) rfl ?_
      refine VL.va (op_lens Try.underlying9 rfl (ltn rfl)) rfl ?_
      refine VL.va (op_move rfl (ltn rfl)) rfl ?_
      refine VL.va (op_lens Try.underlying9 rfl (ltn rfl)) rfl ?_
      refine VL.letter (decide ((a0.size : Int) < (a1.size : Int))) fun b3571 hb3571 => ?_
      refine VL.va (op_cmp rfl rfl (congrArg some hb3571) (ltn rfl)) rfl ?_
      refine VL.va (op_assign rfl (ltn rfl)) rfl ?_
      refine VL.done ?_
      refine VN.then ?_
      refine VC.ret ?_
      obtain rfl := Option.some.inj h
      subst hb3571
      exact VR.fn (rs := [.tmp 4]) [] [] [] rfl (.tmp rfl .nil) ⟨rfl, rfl, rfl⟩ trivial rfl (by decide)
  · rw [if_neg c3556] at h
    obtain rfl : b3555 = false := hb3555.symm.trans (decide_eq_false c3556)
    refine VL.un rfl rfl (ltn rfl) ?_
    refine VL.un rfl rfl (ltn rfl) ?_
    refine VL.un rfl rfl (ltn rfl) ?_
    refine VL.un rfl rfl (ltn rfl) ?_
    refine VL.va (op_pick rfl rfl (ltn rfl)) rfl ?_
    refine VL.done ?_
    refine VN.then ?_
    refine VC.cond_f rfl ?_
    refine VC.exit ?_
    refine VX.then ?_
    refine VX.then ?_
    refine VX.hit ?_
    refine VN.then ?_
    refine VC.seq ?_
    refine VC.region ?_
    refine VL.va (op_move rfl (ltn rfl)) rfl ?_
    refine VL.va (op_lens Try.underlying9 rfl (ltn rfl)) rfl ?_
    refine VL.va (op_move rfl (ltn rfl)) rfl ?_
    refine VL.va (op_lens Try.underlying9 rfl (ltn rfl)) rfl ?_
    refine VL.letter (decide ((a0.size : Int) < (a1.size : Int))) fun b3572 hb3572 => ?_
    refine VL.va (op_cmp rfl rfl (congrArg some hb3572) (ltn rfl)) rfl ?_
    refine VL.va (op_assign rfl (ltn rfl)) rfl ?_
    refine VL.done ?_
    refine VN.then ?_
    refine VC.ret ?_
    obtain rfl := Option.some.inj h
    subst hb3572
    exact VR.fn (rs := [.tmp 4]) [] [] [] rfl (.tmp rfl .nil) ⟨rfl, rfl, rfl⟩ trivial rfl (by decide)
set_option maxHeartbeats 4000000 in
set_option maxRecDepth 100000 in
theorem tarryref06_Less.ok (a0_0 : Int) (a0_1 : Int) (a0_2 : Int) (a1_0 : Int) (a1_1 : Int) (a1_2 : Int)  (r1 : Bool) (h : tarryref06_Less.f a0_0 a0_1 a0_2 a1_0 a1_1 a1_2 = some r1) :
    VCalls Try.prog 52 [.agg #[.int .i64 a0_0, .int .i64 a0_1, .int .i64 a0_2], .agg #[.int .i64 a1_0, .int .i64 a1_1, .int .i64 a1_2]] [] (fun v G own => v = .bool r1 ∧ G = [] ∧ own = []) := by
  refine VCalls.intro Try.func52 rfl (len rfl) fun E hC hW hD hU => ?_
  unfold tarryref06_Less.f at h
  refine VC.seq ?_
  refine VC.region ?_
  refine VL.sG (o_box rfl (.agg (.of rfl)) (ltn rfl)) rfl ?_
  intro g3578
  refine VL.sG (o_box rfl (.agg (.of rfl)) (ltn rfl)) rfl ?_
  intro g3579
  refine VL.va (op_assign rfl (ltn rfl)) rfl ?_
  refine VL.done ?_
  refine VN.then ?_
  refine VC.seq ?_
  refine VC.seq ?_
  refine VC.region ?_
  refine VL.va (op_fieldAddr FI24_0 rfl (add_at _ _ _) (ltn rfl)) rfl ?_
  refine VL.va (op_load 1 1 rfl rfl TI3 rfl (by decide) (ltn rfl)) rfl ?_
  refine VL.va (op_fieldAddr FI24_0 rfl (add_at _ _ _) (ltn rfl)) rfl ?_
  refine VL.va (op_load 0 1 rfl rfl TI3 rfl (by decide) (ltn rfl)) rfl ?_
  refine VL.letter ((a0_0 != a1_0)) fun b3583 hb3583 => ?_
  refine VL.va (op_cmp rfl rfl (congrArg some hb3583) (ltn rfl)) rfl ?_
  refine VL.done ?_
  refine VN.then ?_
  by_cases c3584 : a0_0 = a1_0
  · rw [if_pos c3584] at h
    obtain rfl : b3583 = false := hb3583.symm.trans (bne_eq_false_iff_eq.2 c3584)
    refine VC.cond_f rfl ?_
    refine VC.skip ?_
    refine VN.then ?_
    refine VC.seq ?_
    refine VC.seq ?_
    refine VC.region ?_
    refine VL.va (op_fieldAddr FI24_1 rfl (add_at _ _ _) (ltn rfl)) rfl ?_
    refine VL.va (op_load 1 1 rfl rfl TI3 rfl (by decide) (ltn rfl)) rfl ?_
    refine VL.va (op_fieldAddr FI24_1 rfl (add_at _ _ _) (ltn rfl)) rfl ?_
    refine VL.va (op_load 0 1 rfl rfl TI3 rfl (by decide) (ltn rfl)) rfl ?_
    refine VL.letter ((a0_1 != a1_1)) fun b3588 hb3588 => ?_
    refine VL.va (op_cmp rfl rfl (congrArg some hb3588) (ltn rfl)) rfl ?_
    refine VL.done ?_
    refine VN.then ?_
    by_cases c3589 : a0_1 = a1_1
    · rw [if_pos c3589] at h
      obtain rfl : b3588 = false := hb3588.symm.trans (bne_eq_false_iff_eq.2 c3589)
      refine VC.cond_f rfl ?_
      refine VC.skip ?_
      refine VN.then ?_
      refine VC.seq ?_
      refine VC.region ?_
      refine VL.va (op_fieldAddr FI24_2 rfl (add_at _ _ _) (ltn rfl)) rfl ?_
      refine VL.va (op_load 1 1 rfl rfl TI3 rfl (by decide) (ltn rfl)) rfl ?_
      refine VL.va (op_fieldAddr FI24_2 rfl (add_at _ _ _) (ltn rfl)) rfl ?_
      refine VL.va (op_load 0 1 rfl rfl TI3 rfl (by decide) (ltn rfl)) rfl ?_
      refine VL.letter (decide (a0_2 < a1_2)) fun b3590 hb3590 => ?_
      refine VL.va (op_cmp rfl rfl (congrArg some hb3590) (ltn rfl)) rfl ?_
      refine VL.va (op_assign rfl (ltn rfl)) rfl ?_
      refine VL.done ?_
      refine VN.then ?_
      refine VC.ret ?_
      obtain rfl := Option.some.inj h
      subst hb3590
      exact VR.fn (rs := [.tmp 4]) [] [] [] rfl (.tmp rfl .nil) ⟨rfl, rfl, rfl⟩ trivial rfl (by decide)
    · rw [if_neg c3589] at h
      obtain rfl : b3588 = true := hb3588.symm.trans (bne_iff_ne.2 c3589)
      refine VC.cond_t rfl ?_
      refine VC.seq ?_
      refine VC.region ?_
      refine VL.va (op_fieldAddr FI24_1 rfl (add_at _ _ _) (ltn rfl)) rfl ?_
      refine VL.va (op_load 1 1 rfl rfl TI3 rfl (by decide) (ltn rfl)) rfl ?_
      refine VL.va (op_fieldAddr FI24_1 rfl (add_at _ _ _) (ltn rfl)) rfl ?_
      refine VL.va (op_load 0 1 rfl rfl TI3 rfl (by decide) (ltn rfl)) rfl ?_
      refine VL.letter (decide (a0_1 < a1_1)) fun b3591 hb3591 => ?_
      refine VL.va (op_cmp rfl rfl (congrArg some hb3591) (ltn rfl)) rfl ?_
      refine VL.va (op_assign rfl (ltn rfl)) rfl ?_
      refine VL.done ?_
      refine VN.then ?_
      refine VC.ret ?_
      refine VR.then ?_
      obtain rfl := Option.some.inj h
      subst hb3591
      exact VR.fn (rs := [.tmp 4]) [] [] [] rfl (.tmp rfl .nil) ⟨rfl, rfl, rfl⟩ trivial rfl (by decide)
  · rw [if_neg c3584] at h
    obtain rfl : b3583 = true := hb3583.symm.trans (bne_iff_ne.2 c3584)
    refine VC.cond_t rfl ?_
    refine VC.seq ?_
    refine VC.region ?_
    refine VL.va (op_fieldAddr FI24_0 rfl (add_at _ _ _) (ltn rfl)) rfl ?_
    refine VL.va (op_load 1 1 rfl rfl TI3 rfl (by decide) (ltn rfl)) rfl ?_
    refine VL.va (op_fieldAddr FI24_0 rfl (add_at _ _ _) (ltn rfl)) rfl ?_
    refine VL.va (op_load 0 1 rfl rfl TI3 rfl (by decide) (ltn rfl)) rfl ?_
    refine VL.letter (decide (a0_0 < a1_0)) fun b3592 hb3592 => ?_
    refine VL.va (op_cmp rfl rfl (congrArg some hb3592) (ltn rfl)) rfl ?_
    refine VL.va (op_assign rfl (ltn rfl)) rfl ?_
    refine VL.done ?_
    refine VN.then ?_
    refine VC.ret ?_
    refine VR.then ?_
    obtain rfl := Option.some.inj h
    subst hb3592
    exact VR.fn (rs := [.tmp 4]) [] [] [] rfl (.tmp rfl .nil) ⟨rfl, rfl, rfl⟩ trivial rfl (by decide)
set_option maxHeartbeats 4000000 in
set_option maxRecDepth 100000 in
theorem tarryref09_Less.ok (k : Nat) (a0_0 : ByteArray) (a0_1 : Int) (a0_2 : Int) (a0_3 : Int) (a1_0 : ByteArray) (a1_1 : Int) (a1_2 : Int) (a1_3 : Int)  (r1 : Bool) (h : tarryref09_Less.f k a0_0 a0_1 a0_2 a0_3 a1_0 a1_1 a1_2 a1_3 = some r1) :
    VCalls Try.prog 38 [.agg #[.string a0_0, .int .i64 a0_1, .int .i64 a0_2, .int .i64 a0_3], .agg #[.string a1_0, .int .i64 a1_1, .int .i64 a1_2, .int .i64 a1_3]] [] (fun v G own => v = .bool r1 ∧ G = [] ∧ own = []) := by
  refine VCalls.intro Try.func38 rfl (len rfl) fun E hC hW hD hU => ?_
  unfold tarryref09_Less.f at h
  refine VC.seq ?_
  refine VC.region ?_
  refine VL.sG (o_box rfl (.agg (.of rfl)) (ltn rfl)) rfl ?_
  intro g3413
  refine VL.sG (o_box rfl (.agg (.of rfl)) (ltn rfl)) rfl ?_
  intro g3414
  refine VL.va (op_assign rfl (ltn rfl)) rfl ?_
  refine VL.done ?_
  refine VN.then ?_
  refine VC.seq ?_
  refine VC.region ?_
  refine VL.va (op_fieldAddr FI26_0 rfl (add_at _ _ _) (ltn rfl)) rfl ?_
  refine VL.va (op_load 1 1 rfl rfl TI9 rfl (by decide) (ltn rfl)) rfl ?_
  refine VL.va (op_fieldAddr FI26_0 rfl (add_at _ _ _) (ltn rfl)) rfl ?_
  refine VL.va (op_load 0 1 rfl rfl TI9 rfl (by decide) (ltn rfl)) rfl ?_
  replace h := Option.bind_eq_some_iff.1 h
  obtain ⟨t3595, hA3596, h⟩ := h
  refine VL.sC (o_call0 FO51 (tarryref07_Less.ok k a0_0 a1_0 t3595 hA3596) rfl rfl (ltn rfl) (All_of .nil)) rfl ?_
  rintro _ _ _ ⟨rfl, rfl, rfl⟩
  refine VL.va (op_move rfl (ltn rfl)) rfl ?_
  by_cases c3597 : t3595 = true
  · rw [if_pos c3597] at h
    obtain rfl := c3597
    refine VL.un rfl rfl (ltn rfl) ?_
    refine VL.un rfl rfl (ltn rfl) ?_
    refine VL.un rfl rfl (ltn rfl) ?_
    refine VL.un rfl rfl (ltn rfl) ?_
    refine VL.un rfl rfl (ltn rfl) ?_
    refine VL.un rfl rfl (ltn rfl) ?_
    refine VL.un rfl rfl (ltn rfl) ?_
    refine VL.un rfl rfl (ltn rfl) ?_
    refine VL.un rfl rfl (ltn rfl) ?_
    refine VL.un rfl rfl (ltn rfl) ?_
    refine VL.un rfl rfl (ltn rfl) ?_
    refine VL.un rfl rfl (ltn rfl) ?_
    refine VL.va (op_pick rfl rfl (ltn rfl)) rfl ?_
    refine VL.va (op_assign rfl (ltn rfl)) rfl ?_
    refine VL.done ?_
    refine VN.then ?_
    refine VC.ret ?_
    obtain rfl := Option.some.inj h
    exact VR.fn (rs := [.tmp 4]) [] [] [] rfl (.tmp rfl .nil) ⟨rfl, rfl, rfl⟩ trivial rfl (by decide)
  · rw [if_neg c3597] at h
    obtain rfl := Bool.eq_false_iff.2 c3597
    refine VL.va (op_fieldAddr FI26_0 rfl (add_at _ _ _) (ltn rfl)) rfl ?_
    refine VL.va (op_load 1 1 rfl rfl TI9 rfl (by decide) (ltn rfl)) rfl ?_
    refine VL.va (op_fieldAddr FI26_0 rfl (add_at _ _ _) (ltn rfl)) rfl ?_
    refine VL.va (op_load 0 1 rfl rfl TI9 rfl (by decide) (ltn rfl)) rfl ?_
    refine VL.letter ((a0_0 == a1_0)) fun b3598 hb3598 => ?_
    refine VL.va (op_cmps rfl rfl (congrArg some hb3598) (ltn rfl)) rfl ?_
    refine VL.va (op_move rfl (ltn rfl)) rfl ?_
    by_cases c3599 : (a0_0 == a1_0) = true
    · rw [if_pos c3599] at h
      obtain rfl : b3598 = true := hb3598.symm.trans (c3599)
      refine VL.va (op_fieldAddr FI26_1 rfl (add_at _ _ _) (ltn rfl)) rfl ?_
      refine VL.va (op_load 1 3 rfl rfl TI24 rfl (fun h => absurd h (by decide)) (ltn rfl)) rfl ?_
      refine VL.va (op_fieldAddr FI26_1 rfl (add_at _ _ _) (ltn rfl)) rfl ?_
      refine VL.va (op_load 0 3 rfl rfl TI24 rfl (fun h => absurd h (by decide)) (ltn rfl)) rfl ?_
      replace h := Option.bind_eq_some_iff.1 h
      obtain ⟨t3600, hA3601, h⟩ := h
      refine VL.sC (o_call0 FO52 (tarryref06_Less.ok a0_1 a0_2 a0_3 a1_1 a1_2 a1_3 t3600 hA3601) rfl rfl (ltn rfl) (All_of .nil)) rfl ?_
      rintro _ _ _ ⟨rfl, rfl, rfl⟩
      refine VL.va (op_pick rfl rfl (ltn rfl)) rfl ?_
      refine VL.va (op_pick rfl rfl (ltn rfl)) rfl ?_
      refine VL.va (op_assign rfl (ltn rfl)) rfl ?_
      refine VL.done ?_
      refine VN.then ?_
      refine VC.ret ?_
      obtain rfl := Option.some.inj h
      exact VR.fn (rs := [.tmp 4]) [] [] [] rfl (.tmp rfl .nil) ⟨rfl, rfl, rfl⟩ trivial rfl (by decide)
    · rw [if_neg c3599] at h
      obtain rfl : b3598 = false := hb3598.symm.trans (Bool.eq_false_iff.2 c3599)
      refine VL.un rfl rfl (ltn rfl) ?_
      refine VL.un rfl rfl (ltn rfl) ?_
      refine VL.un rfl rfl (ltn rfl) ?_
      refine VL.un rfl rfl (ltn rfl) ?_
      refine VL.un rfl rfl (ltn rfl) ?_
      refine VL.va (op_pick rfl rfl (ltn rfl)) rfl ?_
      refine VL.va (op_pick rfl rfl (ltn rfl)) rfl ?_
      refine VL.va (op_assign rfl (ltn rfl)) rfl ?_
      refine VL.done ?_
      refine VN.then ?_
      refine VC.ret ?_
      obtain rfl := Option.some.inj h
      exact VR.fn (rs := [.tmp 4]) [] [] [] rfl (.tmp rfl .nil) ⟨rfl, rfl, rfl⟩ trivial rfl (by decide)

end Go.Proofs.Ytdofmkbffffbpaa.PWaitsGo
