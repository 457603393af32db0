/- Written by a program of this repo: what the program's functions do, each as a Lean function, shown of the loaded code; or a statement's row over that; no condition of its own. -/
import Derived.Test.YtipeglbeongfmaaPJournalLivesx1
namespace Go.Proofs.Ytipeglbeongfmaa.PJournalLives
open Go Go.RowKit Go.Proofs.YtipeglbeongfmaaV
set_option linter.unusedVariables false
set_option linter.unusedSimpArgs false
set_option maxHeartbeats 4000000
set_option maxRecDepth 100000

theorem slices_ContainsFunc_api_Write_api_Write.ok (k : Nat) (l0 : List S55) (a1_0_0 : Int) (v0 : Value) (p1_0 : Nat) (p1_1 : Nat) (r1 : Bool) (h : slices_ContainsFunc_api_Write_api_Write.f k l0 a1_0_0 = some r1) :
    VCalls Try.prog 54 [v0, (.func (.func 52) #[] #[.pointer (some ⟨p1_0, 0, none⟩), .pointer (some ⟨p1_1, 0, none⟩)])] [.row v0 2 (l0.map enc55), .at_ ⟨p1_0, 0, none⟩ [.int .i64 a1_0_0], .at_ ⟨p1_1, 0, none⟩ [(.func (.func 51) #[] #[])]] (fun v G own => v = .bool r1 ∧ G = [] ∧ own = []) := by
  refine VCalls.intro Try.func54 rfl (len rfl) fun E hC hW hD hU => ?_
  unfold slices_ContainsFunc_api_Write_api_Write.f at h
  refine sr <| vs rfl <| nx <| vm rfl <| vm rfl <| ?_
  replace h := bd h
  obtain ⟨t444, hA445, h⟩ := h
  refine sC (o_call0 FO75 (slices_IndexFunc_api_Write_api_Write.ok k l0 a1_0_0 v0 p1_0 p1_1 t444 hA445) rfl rfl (ltn rfl) (All_of (.cons (mG 0 rfl) (.cons (mG 1 rfl) (.cons (mG 2 rfl) .nil))))) <| ?_
  rintro _ _ _ ⟨rfl, rfl, rfl⟩
  refine VL.letter (decide (t444 ≥ 0)) fun b446 hb446 => va (op_cmp rfl rfl (congrArg some hb446)) <| vs rfl <| dt <| VC.ret <| ?_
  obtain rfl := Option.some.inj h
  subst hb446
  exact VR.fn (rs := [.tmp 4]) [] [] [] rfl (.tmp rfl .nil) ⟨rfl, rfl, rfl⟩ trivial rfl (by decide)

theorem disk_Right.ok (k : Nat) (l0_0 : List ByteArray) (l0_1 : List S55) (v0_0 : Value) (v0_1 : Value) (r1 : Bool) (h : disk_Right.f k l0_0 l0_1 = some r1) :
    VCalls Try.prog 23 [.agg #[v0_0, v0_1]] [.row v0_0 1 (l0_0.map enc_str), .row v0_1 2 (l0_1.map enc55)] (fun v G own => v = .bool r1 ∧ G = [] ∧ own = []) := by
  refine VCalls.intro Try.func23 rfl (len rfl) fun E hC hW hD hU => ?_
  unfold disk_Right.f at h
  refine sr <| sG (o_box rfl (.agg (.f 0 rfl (.f 1 rfl .nil)))) fun g211 => vs rfl <| nx <| va (op_fieldAddr FI25_0 rfl (add_at _ _ _)) <| va (op_load 0 1 rfl rfl TI22 rfl (by decide)) <| va (op_len (m := l0_0.length) 0 lenm Try.underlying22 rfl rfl) <|
   sG (o_alloc Z3 ZL3) fun g212 => s1 (o_store 0 1 rfl rfl rfl TI3 (.c rfl) rfl (len rfl)) <| nx <| sG (o_alloc Z87 ZL87) fun g213 => s1 (o_store 0 1 rfl rfl rfl TI87 (.c rfl) rfl (len rfl)) <| nx <| va (op_makeFunc (vals := [.pointer (some ⟨g212, 0, none⟩), .pointer (some ⟨g213, 0, none⟩)]) rfl) <|
   vs rfl <| nx <| va (op_load 1 1 rfl rfl TI3 rfl (by decide)) <| VL.letter (decide ((l0_0.length : Int) ≥ 1)) fun b450 hb450 => va (op_cmp rfl rfl (congrArg some hb450)) <| vm rfl <| ?_
  replace h := iC h
  rcases h with ⟨c451, h⟩ | ⟨c451, h⟩
  · cases lT c451 hb450
    refine va (op_load 1 1 rfl rfl TI3 rfl (by decide)) <| VL.letter (decide ((l0_0.length : Int) ≤ 512)) fun b452 hb452 => va (op_cmp rfl rfl (congrArg some hb452)) <| va (op_pick rfl rfl) <| vm rfl <| ?_
    replace h := iC h
    rcases h with ⟨c453, h⟩ | ⟨c453, h⟩
    · cases lT c453 hb452
      refine va (op_fieldAddr FI25_1 rfl (add_at _ _ _)) <| va (op_load 2 1 rfl rfl TI23 rfl (by decide)) <| va (op_len (m := l0_1.length) 1 lenm Try.underlying23 rfl rfl) <| VL.letter (decide ((l0_1.length : Int) ≤ 64)) fun b454 hb454 => va (op_cmp rfl rfl (congrArg some hb454)) <|
       va (op_pick rfl rfl) <| vm rfl <| ?_
      replace h := iC h
      rcases h with ⟨c455, h⟩ | ⟨c455, h⟩
      · cases lT c455 hb454
        refine va (op_fieldAddr FI25_0 rfl (add_at _ _ _)) <| va (op_load 2 1 rfl rfl TI22 rfl (by decide)) <| va (op_load 0 1 rfl rfl TI87 rfl (by decide)) <| ?_
        replace h := bd h
        obtain ⟨t456, hA457, h⟩ := h
        refine sC (o_call0 FO53 (slices_ContainsFunc_string_string.ok k l0_0 v0_0 t456 hA457) rfl rfl (ltn rfl) (All_of (.cons (mG 0 rfl) .nil))) <| ?_
        rintro _ _ _ ⟨rfl, rfl, rfl⟩
        replace h := iC h
        rcases h with ⟨c458, h⟩ | ⟨c458, h⟩
        · obtain rfl := c458
          refine va (op_not rfl rfl) <| va (op_pick rfl rfl) <| vm rfl <| un rfl <| un rfl <| un rfl <| un rfl <| un rfl <| va (op_pick rfl rfl) <| vs rfl <| dt <| VC.ret <| ?_
          obtain rfl := Option.some.inj h
          exact VR.fn (rs := [.tmp 2]) [] [] [] rfl (.tmp rfl .nil) ⟨rfl, rfl, rfl⟩ trivial rfl (by decide)
        obtain rfl := Bool.eq_false_iff.2 c458
        refine va (op_not rfl rfl) <| va (op_pick rfl rfl) <| vm rfl <| va (op_fieldAddr FI25_1 rfl (add_at _ _ _)) <| va (op_load 2 1 rfl rfl TI23 rfl (by decide)) <| vm rfl <| VL.freeze' 1 rfl <| VL.freeze' 0 rfl <| ?_
        replace h := bd h
        obtain ⟨t459, hA460, h⟩ := h
        refine sC (o_call0 FO54 (slices_ContainsFunc_api_Write_api_Write.ok k l0_1 (l0_0.length : Int) v0_1 g212 g213 t459 hA460) rfl rfl (ltn rfl) (All_of (.cons (mG 3 rfl) (.cons (mG 1 rfl) (.cons (mG 0 rfl) .nil))))) <| ?_
        rintro _ _ _ ⟨rfl, rfl, rfl⟩
        replace h := iC h
        rcases h with ⟨c461, h⟩ | ⟨c461, h⟩
        · obtain rfl := c461
          refine va (op_not rfl rfl) <| va (op_pick rfl rfl) <| vs rfl <| dt <| VC.ret <| ?_
          obtain rfl := Option.some.inj h
          exact VR.fn (rs := [.tmp 2]) [] [] [] rfl (.tmp rfl .nil) ⟨rfl, rfl, rfl⟩ trivial rfl (by decide)
        obtain rfl := Bool.eq_false_iff.2 c461
        refine va (op_not rfl rfl) <| va (op_pick rfl rfl) <| vs rfl <| dt <| VC.ret <| ?_
        obtain rfl := Option.some.inj h
        exact VR.fn (rs := [.tmp 2]) [] [] [] rfl (.tmp rfl .nil) ⟨rfl, rfl, rfl⟩ trivial rfl (by decide)
      cases lF c455 hb454
      refine un rfl <| un rfl <| un rfl <| un rfl <| un rfl <| va (op_pick rfl rfl) <| vm rfl <| un rfl <| un rfl <| un rfl <| un rfl <| un rfl <| va (op_pick rfl rfl) <| vs rfl <| dt <| VC.ret <| ?_
      obtain rfl := Option.some.inj h
      exact VR.fn (rs := [.tmp 2]) [] [] [] rfl (.tmp rfl .nil) ⟨rfl, rfl, rfl⟩ trivial rfl (by decide)
    cases lF c453 hb452
    refine un rfl <| un rfl <| un rfl <| un rfl <| va (op_pick rfl rfl) <| vm rfl <| un rfl <| un rfl <| un rfl <| un rfl <| un rfl <| va (op_pick rfl rfl) <| vm rfl <| un rfl <| un rfl <| un rfl <| un rfl <| un rfl <| va (op_pick rfl rfl) <| vs rfl <| dt <| VC.ret <| ?_
    obtain rfl := Option.some.inj h
    exact VR.fn (rs := [.tmp 2]) [] [] [] rfl (.tmp rfl .nil) ⟨rfl, rfl, rfl⟩ trivial rfl (by decide)
  cases lF c451 hb450
  refine un rfl <| un rfl <| va (op_pick rfl rfl) <| vm rfl <| un rfl <| un rfl <| un rfl <| un rfl <| va (op_pick rfl rfl) <| vm rfl <| un rfl <| un rfl <| un rfl <| un rfl <| un rfl <| va (op_pick rfl rfl) <| vm rfl <| un rfl <| un rfl <| un rfl <| un rfl <| un rfl <| va (op_pick rfl rfl) <|
   vs rfl <| dt <| VC.ret <| ?_
  obtain rfl := Option.some.inj h
  exact VR.fn (rs := [.tmp 2]) [] [] [] rfl (.tmp rfl .nil) ⟨rfl, rfl, rfl⟩ trivial rfl (by decide)

theorem slices_Clip_api_Write_api_Write.ok (l0 : List S55) (v0 : Value) (r1 : List S55) (h : slices_Clip_api_Write_api_Write.f l0 = some r1) :
    VCalls Try.prog 71 [v0] [.row v0 2 (l0.map enc55)] (fun v G own => ∃ A : Option Addr, v = .slice A r1.length r1.length ∧ G = [.row (.slice A r1.length r1.length) 2 (r1.map enc55)] ∧ own = []) := by
  obtain rfl := Option.some.inj h
  clear h
  refine VCalls.intro Try.func71 rfl (len rfl) fun E hC hW hD hU => ?_
  refine VC.seq (VC.region ?_)
  refine VL.va (op_assign rfl (ltn rfl)) rfl ?_
  refine VL.done (VN.then ?_)
  refine VC.seq (VC.region ?_)
  refine VL.va (op_move rfl (ltn rfl)) rfl ?_
  refine VL.va (op_move rfl (ltn rfl)) rfl ?_
  refine VL.va (op_len (m := l0.length) 0 lenm Try.underlying23 rfl rfl (ltn rfl)) rfl ?_
  refine VL.va (op_move rfl (ltn rfl)) rfl ?_
  refine VL.va (op_len (m := l0.length) 0 lenm Try.underlying23 rfl rfl (ltn rfl)) rfl ?_
  refine VL.sG (o_clip (m := l0.length) 0 lenm Try.underlying23 TI56 rfl rfl rfl rfl (ltn rfl)) rfl ?_
  intro A
  refine VL.va (op_assign rfl (ltn rfl)) rfl ?_
  refine VL.done (VN.then ?_)
  refine VC.ret ?_
  exact VR.fn (rs := [.tmp 2]) [.row (.slice A l0.length l0.length) 2 (l0.map enc55)] [] [] rfl (.tmp rfl .nil) ⟨_, rfl, rfl, rfl⟩ ⟨⟨0, rfl⟩, trivial⟩ rfl (by decide)

theorem disk_Put.ok (k : Nat) (l0_0 : List ByteArray) (l0_1 : List S55) (a1 : Int) (a2 : ByteArray) (v0_0 : Value) (v0_1 : Value) (r1 : List ByteArray) (r2 : List S55) (r3 : Int) (h : disk_Put.f k l0_0 l0_1 a1 a2 = some (r1, r2, r3)) :
    VCalls Try.prog 38 [.agg #[v0_0, v0_1], .int .i64 a1, .string a2] [.row v0_0 1 (l0_0.map enc_str), .row v0_1 2 (l0_1.map enc55)] (fun v G own => ∃ w0 w1 : Value, v = .tuple #[.agg #[w0, w1], .int .i64 r3] ∧ G = [.row w0 1 (r1.map enc_str), .row w1 2 (r2.map enc55)] ∧ own = []) := by
  refine VCalls.intro Try.func38 rfl (len rfl) fun E hC hW hD hU => ?_
  unfold disk_Put.f at h
  refine sr <| sG (o_box rfl (.agg (.f 0 rfl (.f 1 rfl .nil)))) fun g523 => sG (o_alloc Z25 ZL25) fun g524 => vs rfl <| ds <| VC.block <| sr <| va (op_load 1 2 rfl rfl TI25 rfl (fun h => absurd h (by decide))) <| ?_
  replace h := bd h
  obtain ⟨t555, hA556, h⟩ := h
  refine sC (o_call0 FO23 (disk_Right.ok k l0_0 l0_1 v0_0 v0_1 t555 hA556) rfl rfl (ltn rfl) (All_of (.cons (mG 0 rfl) (.cons (mG 1 rfl) .nil)))) <| ?_
  rintro _ _ _ ⟨rfl, rfl, rfl⟩
  replace h := iC h
  rcases h with ⟨c557, h⟩ | ⟨c557, h⟩
  · obtain rfl := c557
    refine va (op_not rfl rfl) <| vs rfl <| dt <| cf <| sr <| vm rfl <| VL.letter (decide (a1 < 0)) fun b561 hb561 => va (op_cmp rfl rfl (congrArg some hb561)) <| vm rfl <| ?_
    replace h := iC h
    rcases h with ⟨c562, h⟩ | ⟨c562, h⟩
    · cases lT c562 hb561
      refine un rfl <| un rfl <| un rfl <| un rfl <| un rfl <| va (op_pick rfl rfl) <| vs rfl <| dt <| ct <| sr <| va (op_build (vals := []) (vcs := []) (cells := [.slice none 0 0, .slice none 0 0]) SI25 rfl .nil (by kernel_rfl)) <| s1 (o_store 0 2 rfl rfl rfl TI25 (.agg (.of rfl)) rfl (len rfl)) <|
       vs rfl <| dt <| VC.ret <| VR.block <| VR.then <| ?_
      simp only [Option.some.injEq, Prod.mk.injEq] at h
      obtain ⟨rfl, rfl, rfl⟩ := h
      exact VR.nilFact' 1 <| VR.nilFact' 2 <| VR.fn (rs := [.cell 6 25, .tmp 7]) [.row (.slice none 0 0) 1 (([] : List ByteArray).map enc_str), .row (.slice none 0 0) 2 (([] : List S55).map enc55)] [] [] rfl (.cell 0 rfl rfl TI25 (fun h => absurd h (by decide)) (.tmp rfl .nil)) ⟨(.slice none 0 0), (.slice none 0 0), rfl, rfl, rfl⟩ ⟨⟨1, rfl⟩, ⟨0, rfl⟩, trivial⟩ rfl (by decide)
    cases lF c562 hb561
    refine vm rfl <| va (op_fieldAddr FI25_0 rfl (add_at _ _ _)) <| va (op_load 1 1 rfl rfl TI22 rfl (by decide)) <| va (op_len (m := l0_0.length) 0 lenm Try.underlying22 rfl rfl) <| VL.letter (decide (a1 ≥ (l0_0.length : Int))) fun b565 hb565 => va (op_cmp rfl rfl (congrArg some hb565)) <|
     va (op_pick rfl rfl) <| vs rfl <| dt <| ?_
    replace h := iC h
    rcases h with ⟨c566, h⟩ | ⟨c566, h⟩
    · cases lT c566 hb565
      refine ct <| sr <| va (op_build (vals := []) (vcs := []) (cells := [.slice none 0 0, .slice none 0 0]) SI25 rfl .nil (by kernel_rfl)) <| s1 (o_store 0 2 rfl rfl rfl TI25 (.agg (.of rfl)) rfl (len rfl)) <| vs rfl <| dt <| VC.ret <| VR.block <| VR.then <| ?_
      simp only [Option.some.injEq, Prod.mk.injEq] at h
      obtain ⟨rfl, rfl, rfl⟩ := h
      exact VR.nilFact' 1 <| VR.nilFact' 2 <| VR.fn (rs := [.cell 6 25, .tmp 7]) [.row (.slice none 0 0) 1 (([] : List ByteArray).map enc_str), .row (.slice none 0 0) 2 (([] : List S55).map enc55)] [] [] rfl (.cell 0 rfl rfl TI25 (fun h => absurd h (by decide)) (.tmp rfl .nil)) ⟨(.slice none 0 0), (.slice none 0 0), rfl, rfl, rfl⟩ ⟨⟨1, rfl⟩, ⟨0, rfl⟩, trivial⟩ rfl (by decide)
    cases lF c566 hb565
    refine cf <| sr <| vm rfl <| va (op_lens Try.underlying9 rfl) <| VL.letter (((a2.size : Int) != 64)) fun b569 hb569 => va (op_cmp rfl rfl (congrArg some hb569)) <| vs rfl <| dt <| ?_
    replace h := iC h
    rcases h with ⟨c570, h⟩ | ⟨c570, h⟩
    · obtain rfl : b569 = false := hb569.symm.trans (bne_eq_false_iff_eq.2 c570)
      refine cf <| sr <| va (op_fieldAddr FI25_1 rfl (add_at _ _ _)) <| va (op_load 1 1 rfl rfl TI23 rfl (by decide)) <| va (op_len (m := l0_1.length) 1 lenm Try.underlying23 rfl rfl) <| VL.letter (((l0_1.length : Int) == 64)) fun b571 hb571 => va (op_cmp rfl rfl (congrArg some hb571)) <| vs rfl <| dt <|
       ?_
      replace h := iC h
      rcases h with ⟨c572, h⟩ | ⟨c572, h⟩
      · obtain rfl : b571 = true := hb571.symm.trans (beq_iff_eq.2 c572)
        refine ct <| sr <| va (op_build (vals := []) (vcs := []) (cells := [.slice none 0 0, .slice none 0 0]) SI25 rfl .nil (by kernel_rfl)) <| s1 (o_store 0 2 rfl rfl rfl TI25 (.agg (.of rfl)) rfl (len rfl)) <| vs rfl <| dt <| VC.ret <| VR.block <| VR.then <| ?_
        simp only [Option.some.injEq, Prod.mk.injEq] at h
        obtain ⟨rfl, rfl, rfl⟩ := h
        exact VR.nilFact' 1 <| VR.nilFact' 2 <| VR.fn (rs := [.cell 6 25, .tmp 7]) [.row (.slice none 0 0) 1 (([] : List ByteArray).map enc_str), .row (.slice none 0 0) 2 (([] : List S55).map enc55)] [] [] rfl (.cell 0 rfl rfl TI25 (fun h => absurd h (by decide)) (.tmp rfl .nil)) ⟨(.slice none 0 0), (.slice none 0 0), rfl, rfl, rfl⟩ ⟨⟨1, rfl⟩, ⟨0, rfl⟩, trivial⟩ rfl (by decide)
      obtain rfl : b571 = false := hb571.symm.trans (beq_eq_false_iff_ne.2 c572)
      refine cf <| VC.skip <| VN.block <| tx <| va (op_fieldAddr FI25_1 rfl (add_at _ _ _)) <| va (op_load 1 1 rfl rfl TI23 rfl (by decide)) <| ?_
      replace h := bd h
      obtain ⟨r575, hA576, h⟩ := h
      refine sC (o_call0 FO71 (slices_Clip_api_Write_api_Write.ok l0_1 v0_1 r575 hA576) rfl rfl (ltn rfl) (All_of (.cons (mG 1 rfl) .nil))) <| ?_
      rintro _ _ _ ⟨A577, rfl, rfl, rfl⟩
      refine vm rfl <| vm rfl <| va (op_build (vals := [(0, .int .i64 a1), (1, .string a2)]) (vcs := [(0, [.int .i64 a1]), (1, [.string a2])]) (cells := [.int .i64 a1, .string a2]) SI56 rfl (.cons ⟨rfl, (.c rfl)⟩ (.cons ⟨rfl, (.c rfl)⟩ .nil)) (by kernel_rfl)) <|
       sG (o_buildSlice (vals := [(0, .agg #[.int .i64 a1, .string a2])]) (cells := #[.int .i64 a1, .string a2]) (es := List.map enc55 ([(⟨a1, a2⟩ : S55)] : List S55)) Try.underlying23 TI56 Z56 rfl (by decide) (by decide) (by kernel_rfl) (by kernel_rfl) rfl (flat_map enc55_ok _)) fun v580 => ?_
      replace h := iN h
      obtain ⟨c581, h⟩ := h
      refine sG (o_append_clip 0 appm Try.underlying23 EI56 rfl rfl rfl (.inr ⟨0, _, rfl⟩) (bndm c581)) fun v582 => va (op_fieldAddr FI25_1 rfl (add_at _ _ _)) <| s1 (o_store 1 1 rfl rfl rfl TI23 (.f 0 rfl) rfl (len rfl)) <| nx <| va (op_load 1 2 rfl rfl TI25 rfl (fun h => absurd h (by decide))) <|
       s1 (o_store 0 2 rfl rfl rfl TI25 (.agg (.f 2 rfl (.f 0 rfl .nil))) rfl (len rfl)) <| vs rfl <| dt <| VC.ret <| ?_
      simp only [Option.some.injEq, Prod.mk.injEq] at h
      obtain ⟨rfl, rfl, rfl⟩ := h
      exact VR.fn (rs := [.cell 6 25, .tmp 7]) [.row v0_0 1 (l0_0.map enc_str), .row v582 2 ((r575 ++ ([(⟨a1, a2⟩ : S55)] : List S55)).map enc55)] [] [] rfl (.cell 0 rfl rfl TI25 (fun h => absurd h (by decide)) (.tmp rfl .nil)) ⟨v0_0, v582, rfl, rfl, rfl⟩ ⟨⟨2, rfl⟩, ⟨0, rfl⟩, trivial⟩ rfl (by decide)
    obtain rfl : b569 = true := hb569.symm.trans (bne_iff_ne.2 c570)
    refine ct <| sr <| va (op_build (vals := []) (vcs := []) (cells := [.slice none 0 0, .slice none 0 0]) SI25 rfl .nil (by kernel_rfl)) <| s1 (o_store 0 2 rfl rfl rfl TI25 (.agg (.of rfl)) rfl (len rfl)) <| vs rfl <| dt <| VC.ret <| VR.block <| VR.then <| ?_
    simp only [Option.some.injEq, Prod.mk.injEq] at h
    obtain ⟨rfl, rfl, rfl⟩ := h
    exact VR.nilFact' 1 <| VR.nilFact' 2 <| VR.fn (rs := [.cell 6 25, .tmp 7]) [.row (.slice none 0 0) 1 (([] : List ByteArray).map enc_str), .row (.slice none 0 0) 2 (([] : List S55).map enc55)] [] [] rfl (.cell 0 rfl rfl TI25 (fun h => absurd h (by decide)) (.tmp rfl .nil)) ⟨(.slice none 0 0), (.slice none 0 0), rfl, rfl, rfl⟩ ⟨⟨1, rfl⟩, ⟨0, rfl⟩, trivial⟩ rfl (by decide)
  obtain rfl := Bool.eq_false_iff.2 c557
  refine va (op_not rfl rfl) <| vs rfl <| dt <| ct <| sr <| va (op_build (vals := []) (vcs := []) (cells := [.slice none 0 0, .slice none 0 0]) SI25 rfl .nil (by kernel_rfl)) <| s1 (o_store 0 2 rfl rfl rfl TI25 (.agg (.of rfl)) rfl (len rfl)) <| vs rfl <| dt <| VC.ret <| VR.block <| VR.then <| ?_
  simp only [Option.some.injEq, Prod.mk.injEq] at h
  obtain ⟨rfl, rfl, rfl⟩ := h
  exact VR.nilFact' 1 <| VR.nilFact' 2 <| VR.fn (rs := [.cell 6 25, .tmp 7]) [.row (.slice none 0 0) 1 (([] : List ByteArray).map enc_str), .row (.slice none 0 0) 2 (([] : List S55).map enc55)] [] [] rfl (.cell 0 rfl rfl TI25 (fun h => absurd h (by decide)) (.tmp rfl .nil)) ⟨(.slice none 0 0), (.slice none 0 0), rfl, rfl, rfl⟩ ⟨⟨1, rfl⟩, ⟨0, rfl⟩, trivial⟩ rfl (by decide)

theorem slices_Clone_string_string.ok (l0 : List ByteArray) (v0 : Value) (r1 : List ByteArray) (h : slices_Clone_string_string.f l0 = some r1) :
    VCalls Try.prog 73 [v0] [.row v0 1 (l0.map enc_str)] (fun v G own => ∃ w0 : Value, v = w0 ∧ G = [] ∧ own = [(w0, 9, 1, r1.map enc_str)]) := by
  unfold slices_Clone_string_string.f at h
  by_cases hc : ¬ (l0.length * 16 ≤ 140737488355328)
  · rw [if_neg hc] at h; cases h
  replace hc := Decidable.not_not.1 hc
  rw [if_pos hc] at h
  obtain rfl := Option.some.inj h
  clear h
  refine VCalls.intro Try.func73 rfl (len rfl) fun E hC hW hD hU => ?_
  refine VC.formF 0 rfl fun A cap hv h1 h2 h3 => ?_
  rw [lenm] at hv h1 h3
  subst hv
  refine VC.seq (VC.region ?_)
  refine VL.va (op_assign rfl (ltn rfl)) rfl ?_
  refine VL.done (VN.then ?_)
  refine VC.seq ?_
  refine VC.seq (VC.region ?_)
  refine VL.va (op_move rfl (ltn rfl)) rfl ?_
  refine VL.va (op_isnil Try.underlying22 rfl rfl (ltn rfl)) rfl ?_
  refine VL.done (VN.then ?_)
  cases A with
  | none =>
    have e : l0 = [] := List.eq_nil_of_length_eq_zero (h3 rfl)
    subst e
    refine VC.cond_t rfl ?_
    refine VC.seq (VC.region ?_)
    refine VL.va (op_assign rfl (ltn rfl)) rfl ?_
    refine VL.done (VN.then ?_)
    refine VC.ret (VR.then ?_)
    refine VR.nilRow' 9 1 ?_
    exact VR.fn (rs := [.tmp 2]) [] [(.slice none 0 0, 9, 1, [])] [0] rfl (.tmp rfl .nil) ⟨_, rfl, rfl, rfl⟩ trivial rfl (by decide)
  | some ad =>
    refine VC.cond_f rfl (VC.skip (VN.then ?_))
    refine VC.seq (VC.region ?_)
    refine VL.sG (o_buildSlice (vals := []) (cells := #[]) (es := List.map enc_str ([] : List ByteArray)) Try.underlying22 TI9 Z9 rfl (by decide) (by decide) (by kernel_rfl) rfl rfl (flat_map enc_str_ok _) (ltn rfl)) rfl ?_
    intro v1
    refine VL.va (op_move rfl (ltn rfl)) rfl ?_
    refine VL.sG (o_append (es3 := l0.map enc_str) 0 rfl Try.underlying22 EI9 rfl rfl rfl (.inl ⟨0, rfl⟩) (by rw [lenm, lenm]; simpa using hc) (ltn rfl)) rfl ?_
    intro v2
    refine VL.va (op_assign rfl (ltn rfl)) rfl ?_
    refine VL.done (VN.then ?_)
    refine VC.ret ?_
    exact VR.fn (rs := [.tmp 2]) [] [(v2, 9, 1, l0.map enc_str)] [0] rfl (.tmp rfl .nil) ⟨_, rfl, rfl, rfl⟩ trivial rfl (by decide)

theorem disk_Crash.ok (k : Nat) (l0_0 : List ByteArray) (l0_1 : List S55) (a1 : Int) (a2 : Int) (v0_0 : Value) (v0_1 : Value) (r1 : List ByteArray) (r2 : List S55) (r3 : Int) (h : disk_Crash.f k l0_0 l0_1 a1 a2 = some (r1, r2, r3)) :
    VCalls Try.prog 50 [.agg #[v0_0, v0_1], .int .u64 a1, .int .i64 a2] [.row v0_0 1 (l0_0.map enc_str), .row v0_1 2 (l0_1.map enc55)] (fun v G own => ∃ w0 w1 : Value, v = .tuple #[.agg #[w0, w1], .int .i64 r3] ∧ G = [] ∧ own = [(w0, 9, 1, r1.map enc_str), (w1, 56, 2, r2.map enc55)]) := by
  refine VCalls.introU (fun T => T = 5) Try.func50 rfl (len rfl) fun E hC hW hD hU => ?_
  unfold disk_Crash.f at h
  refine sr <| sG (o_box rfl (.agg (.f 0 rfl (.f 1 rfl .nil)))) fun g602 => sG (o_alloc Z25 ZL25) fun g603 => vs rfl <| ds <| sr <| va (op_load 1 2 rfl rfl TI25 rfl (fun h => absurd h (by decide))) <| ?_
  replace h := bd h
  obtain ⟨t615, hA616, h⟩ := h
  refine sC (o_call0 FO23 (disk_Right.ok k l0_0 l0_1 v0_0 v0_1 t615 hA616) rfl rfl (ltn rfl) (All_of (.cons (mG 0 rfl) (.cons (mG 1 rfl) .nil)))) <| ?_
  rintro _ _ _ ⟨rfl, rfl, rfl⟩
  replace h := iC h
  rcases h with ⟨c617, h⟩ | ⟨c617, h⟩
  · obtain rfl := c617
    refine va (op_not rfl rfl) <| dt <| cf <| sk <| sr <| va (op_fieldAddr FI25_0 rfl (add_at _ _ _)) <| va (op_load 1 1 rfl rfl TI22 rfl (by decide)) <| ?_
    replace h := bd h
    obtain ⟨r618, hA619, h⟩ := h
    refine sC (o_call_b0 FO73 (slices_Clone_string_string.ok l0_0 v0_0 r618 hA619) rfl rfl (ltn rfl) (All_of (.cons (.inl (mG 0 rfl)) .nil)) (by rintro _ _ _ ⟨_, rfl, rfl, rfl⟩; rfl)) <| ?_
    rintro v621 _ _ ⟨_, rfl, rfl, rfl⟩
    refine vs rfl <| nx <| vs rfl <| dt <| VC.join3 (fun (v1025 : Value) (l1026 : List ByteArray) (i1027 : Int) => ⟨77, [(2, .int .i64 a2), (3, .pointer (some ⟨g602, 0, none⟩)), (6, .pointer (some ⟨g603, 0, none⟩)), (7, .int .i64 0), (8, v1025), (9, .int .i64 i1027)], [.row v0_0 1 (l0_0.map enc_str), .row v0_1 2 (l0_1.map enc55)], [(g603, 25, [.slice none 0 0, .slice none 0 0]), (g602, 25, [v0_0, v0_1])], [(v1025, 9, 1, l1026.map enc_str)]⟩) (fun (v1025 : Value) (l1026 : List ByteArray) (i1027 : Int) => disk_Crash.j2 k a2 l0_1 l1026 i1027 = some (r1, r2, r3)) ?_ ?_
    · refine sr <| va (op_fieldAddr FI25_1 rfl (add_at _ _ _)) <| va (op_load 1 1 rfl rfl TI23 rfl (by decide)) <| va (op_len (m := l0_1.length) 1 lenm Try.underlying23 rfl rfl) <| vm rfl <| dt <| VC.block <|
       VC.loop4 (fun (v962 : Value) (l963 : List ByteArray) (i964 : Int) (i965 : Int) => ⟨77, [(1, .int .u64 a1), (2, .int .i64 a2), (3, .pointer (some ⟨g602, 0, none⟩)), (6, .pointer (some ⟨g603, 0, none⟩)), (7, .int .i64 0), (8, v962), (9, .int .i64 i964), (22, v0_1), (23, .int .i64 (l0_1.length : Int)), (24, .int .i64 i965)], [.row v0_1 2 (l0_1.map enc55), .row v0_0 1 (l0_0.map enc_str)], [(g603, 25, [.slice none 0 0, .slice none 0 0]), (g602, 25, [v0_0, v0_1])], [(v962, 9, 1, l963.map enc_str)]⟩) (fun (ml3 : Nat) (v962 : Value) (l963 : List ByteArray) (i964 : Int) (i965 : Int) => disk_Crash.l3 k a1 a2 l0_1 ml3 l963 i964 i965 = some (r1, r2, r3)) k v621 r618 (-1) 0 [0, 1] [0] h ⟨rfl, ⟨rfl, rfl, rfl, rfl, rfl, rfl, rfl, rfl, rfl, rfl, trivial⟩, ⟨⟨1, rfl⟩, ⟨0, rfl⟩, trivial⟩, rfl, by decide, rfl, by decide⟩ (by intros; simp [disk_Crash.l3]) <|
       ?_
      clear h
      intro ml3 ihl3 v962 l963 i964 i965 h
      simp only [disk_Crash.l3] at h
      refine sr <| VL.letter (decide (i965 < (l0_1.length : Int))) fun b995 hb995 => va (op_cmp rfl rfl (congrArg some hb995)) <| ds <| ?_
      replace h := iC h
      rcases h with ⟨c997, h⟩ | ⟨c997, h⟩
      · cases lT c997 hb995
        refine ct <| sk <| sq <| VC.block <| sr <| vm rfl <| ?_
        replace h := iN h
        obtain ⟨c1011, h⟩ := h
        replace h := bd h
        obtain ⟨x1012, hx1012, h⟩ := h
        refine VL.open (m := l0_1.length) 0 lenm rfl (pos_get hx1012) <| ?_
        rintro ad1013 n1014 rfl
        refine va (op_indexAddr Try.underlying23 TI56 rfl rfl c1011 (lt_get c1011 hx1012) rfl) <| va (op_load_row (sz := 2) (o := 0) 0 i965.toNat 2 rfl rfl (get_map hx1012) TI56 rfl (fun h => absurd h (by decide))) <| sG (o_alloc Z56 ZL56) fun g1015 => vs rfl <|
         s1 (o_store 0 2 rfl rfl rfl TI56 (.agg (.of rfl)) rfl (len rfl)) <| nx <| vm rfl <| vm rfl <| va (op_shr rfl rfl c1011 rfl) <| va (op_bits rfl rfl rfl) <|
         VL.letter (((Go.bits .and .u64 (a1.fdiv (2 ^ min i965.toNat IntKind.u64.bits)) 1) == 1)) fun b1016 hb1016 => va (op_cmp rfl rfl (congrArg some hb1016)) <| dt <| ?_
        replace h := iC h
        rcases h with ⟨c1017, h⟩ | ⟨c1017, h⟩
        · obtain rfl : b1016 = true := hb1016.symm.trans (beq_iff_eq.2 c1017)
          refine ct <| rg <| vm rfl <| va (op_fieldAddr FI56_0 rfl (add_at _ _ _)) <| va (op_load 0 1 rfl rfl TI3 rfl (by decide)) <| va (op_fieldAddr FI56_1 rfl (add_at _ _ _)) <| va (op_load 0 1 rfl rfl TI9 rfl (by decide)) <| ?_
          replace h := iN h
          obtain ⟨c1018, h⟩ := h
          replace h := bd h
          obtain ⟨x1019, hx1019, h⟩ := h
          refine VL.openR (m := l963.length) 0 lenm rfl (pos_get hx1019) <| ?_
          rintro g1020 n1021 rfl
          refine va (op_indexAddr Try.underlying22 TI9 rfl rfl c1018 (lt_get c1018 hx1019) (add_zero_at _ _)) <| s1 (o_store_own (sz := 1) (o := 0) (es3 := List.map enc_str (l963.set x1012.f0.toNat x1012.f1)) 0 x1012.f0.toNat 1 lenm (setm rfl) rfl rfl rfl (get_map hx1019) TI9 (.c rfl) rfl (len rfl)) <| dn <|
           VN.block <| tr <| va (op_ari64 rfl rfl rfl) <| vm rfl <| dn <|
           VN.again [1, 2] [0] (ihl3 (.slice (some ⟨g1020, 0, none⟩) l963.length n1021) (l963.set x1012.f0.toNat x1012.f1) i964 (wrap64 (i965 + 1)) h) ⟨rfl, ⟨rfl, rfl, rfl, rfl, rfl, rfl, rfl, rfl, rfl, rfl, trivial⟩, ⟨⟨0, rfl⟩, ⟨1, rfl⟩, trivial⟩, rfl, by decide, rfl, by decide⟩
        obtain rfl : b1016 = false := hb1016.symm.trans (beq_eq_false_iff_ne.2 c1017)
        refine cf <| rg <| vm rfl <| vs rfl <| dn <| VN.block <| tr <| va (op_ari64 rfl rfl rfl) <| vm rfl <| dn <|
         VN.again [1, 2] [0] (ihl3 v962 l963 i965 (wrap64 (i965 + 1)) h) ⟨rfl, ⟨rfl, rfl, rfl, rfl, rfl, rfl, rfl, rfl, rfl, rfl, trivial⟩, ⟨⟨0, rfl⟩, ⟨1, rfl⟩, trivial⟩, rfl, by decide, rfl, by decide⟩
      cases lF c997 hb995
      refine cf <| VC.exit <| VX.then <| VX.then <| VX.hit <| VN.meet3 v962 l963 i964 [0, 1] [0] h ⟨rfl, ⟨rfl, rfl, rfl, rfl, rfl, rfl, trivial⟩, ⟨⟨1, rfl⟩, ⟨0, rfl⟩, trivial⟩, rfl, by decide, rfl, by decide⟩
    clear h
    intro v1025 l1026 i1027 h
    unfold disk_Crash.j2 at h
    refine sq <| sr <| vm rfl <| VL.letter (decide (i1027 ≥ 0)) fun b1063 hb1063 => va (op_cmp rfl rfl (congrArg some hb1063)) <| vm rfl <| ?_
    replace h := iC h
    rcases h with ⟨c1064, h⟩ | ⟨c1064, h⟩
    · cases lT c1064 hb1063
      refine vm rfl <| VL.letter (decide (a2 ≥ 1)) fun b1065 hb1065 => va (op_cmp rfl rfl (congrArg some hb1065)) <| va (op_pick rfl rfl) <| vm rfl <| ?_
      replace h := iC h
      rcases h with ⟨c1066, h⟩ | ⟨c1066, h⟩
      · cases lT c1066 hb1065
        refine vm rfl <| VL.letter (decide (a2 < 64)) fun b1067 hb1067 => va (op_cmp rfl rfl (congrArg some hb1067)) <| va (op_pick rfl rfl) <| dt <| ?_
        replace h := iC h
        rcases h with ⟨c1068, h⟩ | ⟨c1068, h⟩
        · cases lT c1068 hb1067
          refine ct <| sr <| va (op_fieldAddr FI25_1 rfl (add_at _ _ _)) <| va (op_load 1 1 rfl rfl TI23 rfl (by decide)) <| vm rfl <| ?_
          replace h := iN h
          obtain ⟨c1069, h⟩ := h
          replace h := bd h
          obtain ⟨x1070, hx1070, h⟩ := h
          refine VL.open (m := l0_1.length) 1 lenm rfl (pos_get hx1070) <| ?_
          rintro ad1071 n1072 rfl
          refine va (op_indexAddr Try.underlying23 TI56 rfl rfl c1069 (lt_get c1069 hx1070) rfl) <| va (op_load_row (sz := 2) (o := 0) 1 i1027.toNat 2 rfl rfl (get_map hx1070) TI56 rfl (fun h => absurd h (by decide))) <|
           sG (o_alloc Z56 ZL56) fun g1073 => s1 (o_store 0 2 rfl rfl rfl TI56 (.agg (.of rfl)) rfl (len rfl)) <| nx <| vm rfl <| va (op_fieldAddr FI56_0 rfl (add_at _ _ _)) <| va (op_load 0 1 rfl rfl TI3 rfl (by decide)) <| ?_
          replace h := iN h
          obtain ⟨c1074, h⟩ := h
          replace h := bd h
          obtain ⟨x1075, hx1075, h⟩ := h
          refine VL.openR (m := l1026.length) 0 lenm rfl (pos_get hx1075) <| ?_
          rintro g1076 n1077 rfl
          refine va (op_indexAddr Try.underlying22 TI9 rfl rfl c1074 (lt_get c1074 hx1075) (add_zero_at _ _)) <| va (op_load_own (sz := 1) (o := 0) 0 x1070.f0.toNat 1 rfl rfl (get_map hx1075) TI9 rfl (by decide)) <|
           o_strBytesB Try.underlying9 Try.underlying41 Try.underlying5 (by rw [hU]) rfl (ltn rfl) rfl fun g1078 n1079 z1080 => vs rfl <| nx <| vm rfl <| va (op_fieldAddr FI56_1 rfl (add_at _ _ _)) <| va (op_load 1 1 rfl rfl TI9 rfl (by decide)) <| vm rfl <| ?_
          replace h := iN h
          obtain ⟨c1081, h⟩ := h
          replace h := iN h
          obtain ⟨c1082, h⟩ := h
          refine va (op_sliceS 0 a2.toNat Try.underlying9 rfl ⟨rfl, ⟨_, _, rfl, c1081, rfl⟩, Nat.zero_le _, tN (a := a2) (b := (x1070.f1.size : Int)) rfl rfl c1082⟩ rfl) <| ?_
          replace h := iN h
          obtain ⟨c1083, h⟩ := h
          refine s1 (o_copyS 0 Try.underlying41 TI5 rfl rfl rfl c1083 rfl) <| dr <| vm rfl <| va (op_fieldAddr FI56_0 rfl (add_at _ _ _)) <| va (op_load 1 1 rfl rfl TI3 rfl (by decide)) <| vm rfl <| ?_
          replace h := iN h
          obtain ⟨c1084, h⟩ := h
          refine va (op_bytesStrB 0 Try.underlying41 Try.underlying9 Try.underlying5 rfl rfl c1084) <| ?_
          replace h := bd h
          obtain ⟨x1085, hx1085, h⟩ := h
          refine va (op_indexAddr Try.underlying22 TI9 rfl rfl c1074 (lt_get c1074 hx1085) (add_zero_at _ _)) <|
           s1 (o_store_own (sz := 1) (o := 0) (es3 := List.map enc_str (l1026.set x1070.f0.toNat (strOfNums ((byI (x1070.f1.extract 0 a2.toNat)).take (min (x1070.f1.extract 0 a2.toNat).size x1075.size) ++ (byI x1075).drop (min (x1070.f1.extract 0 a2.toNat).size x1075.size))))) 0 x1070.f0.toNat 1 lenm (setm rfl) rfl rfl rfl (get_map hx1085) TI9 (.c rfl) rfl (len rfl)) <|
           nx <| vm rfl <| va (op_build (vals := [(0, (.slice (some ⟨g1076, 0, none⟩) l1026.length n1077))]) (vcs := [(0, [(.slice (some ⟨g1076, 0, none⟩) l1026.length n1077)])]) (cells := [(.slice (some ⟨g1076, 0, none⟩) l1026.length n1077), .slice none 0 0]) SI25 rfl (.cons ⟨rfl, (.r 0 rfl)⟩ .nil) (by kernel_rfl)) <|
           s1 (o_store 2 2 rfl rfl rfl TI25 (.agg (.r 0 rfl (.c rfl .nil))) rfl (len rfl)) <| vs rfl <| dt <| VC.ret <| ?_
          simp only [Option.some.injEq, Prod.mk.injEq] at h
          obtain ⟨rfl, rfl, rfl⟩ := h
          exact VR.nilRow' 56 2 <| VR.fn (rs := [.cell 6 25, .tmp 7]) [] [((.slice (some ⟨g1076, 0, none⟩) l1026.length n1077), 9, 1, (l1026.set x1070.f0.toNat (strOfNums ((byI (x1070.f1.extract 0 a2.toNat)).take (min (x1070.f1.extract 0 a2.toNat).size x1075.size) ++ (byI x1075).drop (min (x1070.f1.extract 0 a2.toNat).size x1075.size)))).map enc_str), ((.slice none 0 0), 56, 2, ([] : List S55).map enc55)] [1, 0] rfl (.cell 2 rfl rfl TI25 (fun h => absurd h (by decide)) (.tmp rfl .nil)) ⟨(.slice (some ⟨g1076, 0, none⟩) l1026.length n1077), (.slice none 0 0), rfl, rfl, rfl⟩ trivial rfl (by decide)
        cases lF c1068 hb1067
        refine cf <| sk <| sr <| vm rfl <| va (op_build (vals := [(0, v1025)]) (vcs := [(0, [v1025])]) (cells := [v1025, .slice none 0 0]) SI25 rfl (.cons ⟨rfl, (.r 0 rfl)⟩ .nil) (by kernel_rfl)) <| s1 (o_store 0 2 rfl rfl rfl TI25 (.agg (.r 0 rfl (.c rfl .nil))) rfl (len rfl)) <| vs rfl <| dt <| VC.ret <|
         ?_
        simp only [Option.some.injEq, Prod.mk.injEq] at h
        obtain ⟨rfl, rfl, rfl⟩ := h
        exact VR.nilRow' 56 2 <| VR.fn (rs := [.cell 6 25, .tmp 7]) [] [(v1025, 9, 1, l1026.map enc_str), ((.slice none 0 0), 56, 2, ([] : List S55).map enc55)] [1, 0] rfl (.cell 0 rfl rfl TI25 (fun h => absurd h (by decide)) (.tmp rfl .nil)) ⟨v1025, (.slice none 0 0), rfl, rfl, rfl⟩ trivial rfl (by decide)
      cases lF c1066 hb1065
      refine un rfl <| un rfl <| va (op_pick rfl rfl) <| dt <| cf <| sk <| sr <| vm rfl <| va (op_build (vals := [(0, v1025)]) (vcs := [(0, [v1025])]) (cells := [v1025, .slice none 0 0]) SI25 rfl (.cons ⟨rfl, (.r 0 rfl)⟩ .nil) (by kernel_rfl)) <|
       s1 (o_store 0 2 rfl rfl rfl TI25 (.agg (.r 0 rfl (.c rfl .nil))) rfl (len rfl)) <| vs rfl <| dt <| VC.ret <| ?_
      simp only [Option.some.injEq, Prod.mk.injEq] at h
      obtain ⟨rfl, rfl, rfl⟩ := h
      exact VR.nilRow' 56 2 <| VR.fn (rs := [.cell 6 25, .tmp 7]) [] [(v1025, 9, 1, l1026.map enc_str), ((.slice none 0 0), 56, 2, ([] : List S55).map enc55)] [1, 0] rfl (.cell 0 rfl rfl TI25 (fun h => absurd h (by decide)) (.tmp rfl .nil)) ⟨v1025, (.slice none 0 0), rfl, rfl, rfl⟩ trivial rfl (by decide)
    cases lF c1064 hb1063
    refine un rfl <| un rfl <| va (op_pick rfl rfl) <| vm rfl <| un rfl <| un rfl <| va (op_pick rfl rfl) <| dt <| cf <| sk <| sr <| vm rfl <| va (op_build (vals := [(0, v1025)]) (vcs := [(0, [v1025])]) (cells := [v1025, .slice none 0 0]) SI25 rfl (.cons ⟨rfl, (.r 0 rfl)⟩ .nil) (by kernel_rfl)) <|
     s1 (o_store 0 2 rfl rfl rfl TI25 (.agg (.r 0 rfl (.c rfl .nil))) rfl (len rfl)) <| vs rfl <| dt <| VC.ret <| ?_
    simp only [Option.some.injEq, Prod.mk.injEq] at h
    obtain ⟨rfl, rfl, rfl⟩ := h
    exact VR.nilRow' 56 2 <| VR.fn (rs := [.cell 6 25, .tmp 7]) [] [(v1025, 9, 1, l1026.map enc_str), ((.slice none 0 0), 56, 2, ([] : List S55).map enc55)] [1, 0] rfl (.cell 0 rfl rfl TI25 (fun h => absurd h (by decide)) (.tmp rfl .nil)) ⟨v1025, (.slice none 0 0), rfl, rfl, rfl⟩ trivial rfl (by decide)
  obtain rfl := Bool.eq_false_iff.2 c617
  refine va (op_not rfl rfl) <| dt <| ct <| sr <| va (op_build (vals := []) (vcs := []) (cells := [.slice none 0 0, .slice none 0 0]) SI25 rfl .nil (by kernel_rfl)) <| s1 (o_store 0 2 rfl rfl rfl TI25 (.agg (.of rfl)) rfl (len rfl)) <| vs rfl <| dt <| VC.ret <| VR.then <| ?_
  simp only [Option.some.injEq, Prod.mk.injEq] at h
  obtain ⟨rfl, rfl, rfl⟩ := h
  exact VR.nilRow' 9 1 <| VR.nilRow' 56 2 <| VR.fn (rs := [.cell 6 25, .tmp 7]) [] [((.slice none 0 0), 9, 1, ([] : List ByteArray).map enc_str), ((.slice none 0 0), 56, 2, ([] : List S55).map enc55)] [1, 0] rfl (.cell 0 rfl rfl TI25 (fun h => absurd h (by decide)) (.tmp rfl .nil)) ⟨(.slice none 0 0), (.slice none 0 0), rfl, rfl, rfl⟩ trivial rfl (by decide)

theorem disk_Flush.ok (k : Nat) (l0_0 : List ByteArray) (l0_1 : List S55) (v0_0 : Value) (v0_1 : Value) (r1 : List ByteArray) (r2 : List S55) (r3 : Int) (h : disk_Flush.f k l0_0 l0_1 = some (r1, r2, r3)) :
    VCalls Try.prog 41 [.agg #[v0_0, v0_1]] [.row v0_0 1 (l0_0.map enc_str), .row v0_1 2 (l0_1.map enc55)] (fun v G own => ∃ w0 w1 : Value, v = .tuple #[.agg #[w0, w1], .int .i64 r3] ∧ G = [] ∧ own = [(w0, 9, 1, r1.map enc_str), (w1, 56, 2, r2.map enc55)]) := by
  refine VCalls.intro Try.func41 rfl (len rfl) fun E hC hW hD hU => ?_
  unfold disk_Flush.f at h
  refine sr <| sG (o_box rfl (.agg (.f 0 rfl (.f 1 rfl .nil)))) fun g598 => sG (o_alloc Z25 ZL25) fun g599 => vs rfl <| nx <| va (op_load 1 2 rfl rfl TI25 rfl (fun h => absurd h (by decide))) <| ?_
  replace h := bd h
  obtain ⟨⟨r1094, r1095, t1096⟩, hA1097, h⟩ := h
  dsimp only at h
  refine sC (o_call0 FO50 (disk_Crash.ok k l0_0 l0_1 18446744073709551615 0 v0_0 v0_1 r1094 r1095 t1096 hA1097) rfl rfl (ltn rfl) (All_of (.cons (mG 0 rfl) (.cons (mG 1 rfl) .nil)))) <| ?_
  rintro _ _ _ ⟨v1099, v1101, rfl, rfl, rfl⟩
  refine va (op_extract rfl rfl) <| va (op_extract rfl rfl) <| s1 (o_store 0 2 rfl rfl rfl TI25 (.agg (.r 0 rfl (.r 1 rfl .nil))) rfl (len rfl)) <| vs rfl <| dt <| VC.ret <| ?_
  simp only [Option.some.injEq, Prod.mk.injEq] at h
  obtain ⟨rfl, rfl, rfl⟩ := h
  exact VR.fn (rs := [.cell 2 25, .tmp 3]) [] [(v1099, 9, 1, r1094.map enc_str), (v1101, 56, 2, r1095.map enc55)] [0, 1] rfl (.cell 0 rfl rfl TI25 (fun h => absurd h (by decide)) (.tmp rfl .nil)) ⟨v1099, v1101, rfl, rfl, rfl⟩ trivial rfl (by decide)

theorem journal_room.ok (a0 : Int)  (r1 : Int) (h : journal_room.f a0 = some r1) :
    VCalls Try.prog 55 [.int .i64 a0] [] (fun v G own => v = .int .i64 r1 ∧ G = [] ∧ own = []) := by
  refine VCalls.intro Try.func55 rfl (len rfl) fun E hC hW hD hU => ?_
  unfold journal_room.f at h
  refine sr <| vs rfl <| nx <| vm rfl <| va (op_ari64 rfl rfl rfl) <| va (op_quo rfl rfl (by decide) rfl) <| va (op_ari64 rfl rfl rfl) <| vs rfl <| dt <| VC.ret <| ?_
  obtain rfl := Option.some.inj h
  exact VR.fn (rs := [.tmp 2]) [] [] [] rfl (.tmp rfl .nil) ⟨rfl, rfl, rfl⟩ trivial rfl (by decide)

end Go.Proofs.Ytipeglbeongfmaa.PJournalLives
