/- Written by a program of this repo: what the program's functions do, each as a Lean function, shown of the loaded code; or a statement's row over that; no condition of its own. -/
import Derived.Test.YtipeglbeongfmaaGreatPJournalCrashesx16
namespace Go.Proofs.YtipeglbeongfmaaGreat.PJournalCrashes
open Go Go.RowKit Go.Proofs.YtipeglbeongfmaaGreatV
set_option linter.unusedVariables false
set_option linter.unusedSimpArgs false
set_option maxHeartbeats 4000000
set_option maxRecDepth 100000

theorem journal_Format.ok (k : Nat) (a0 : Int)  (r1 : List ByteArray) (r2 : List S71) (r3 : Int) (r4 : Int) (r5 : Int) (r6 : List ByteArray) (r7 : List ByteArray) (r8 : Int) (h : journal_Format.f k a0 = some (r1, r2, r3, r4, r5, r6, r7, r8)) :
    VCalls Tryz.prog 31 [iv a0] [] (fun v G own => ∃ w0 w1 w5 w6 : Value, v = .tuple #[.agg #[w0, w1, iv r3, iv r4, iv r5, w5, w6], iv r8] ∧ G = [.row w0 1 (r1.map enc_str), .row w1 2 (r2.map enc71)] ∧ own = [(w5, 9, 1, r6.map enc_str), (w6, 9, 1, r7.map enc_str)]) := by
  refine VCalls.intro Tryz.func31 rfl (len rfl) fun E hC hW hD hU => ?_
  unfold journal_Format.f at h
  refine sr <| sG (o_alloc Z27 ZL27) fun g27441 => vs rfl <| ds <| sr <| vm rfl <| VL.letter (decide (a0 < 8)) fun b27448 hb27448 => va (op_cmp rfl rfl (congrArg some hb27448)) <| dt <| ?_
  replace h := iC h
  rcases h with ⟨c27449, h⟩ | ⟨c27449, h⟩
  · cases lT c27449 hb27448
    refine ct <| sr <| va (op_build (vals := []) (vcs := []) (cells := [sn, sn, iv 0, iv 0, iv 0, sn, sn]) SI27 rfl .nil (by kernel_rfl)) <| s1 (o_store 0 7 rfl rfl rfl TI27 (.agg (.of rfl)) rfl (len rfl)) <| vs rfl <| dt <|
     VC.ret <| VR.then <| ?_
    simp only [Option.some.injEq, Prod.mk.injEq] at h
    obtain ⟨rfl, rfl, rfl, rfl, rfl, rfl, rfl, rfl⟩ := h
    exact VR.nilFact' 1 <| VR.nilFact' 2 <| VR.nilRow' 9 1 <| VR.nilRow' 9 1 <| rf [.cell 2 27, .tmp 3] [1, 0] (.cell 0 rfl rfl TI27 (fun h => absurd h (by decide)) (.tmp rfl .nil)) ⟨sn, sn, sn, sn, rfl, rfl, rfl⟩
  cases lF c27449 hb27448
  refine cf <| sk <| sr <| vm rfl <| ?_
  replace h := bd h
  obtain ⟨⟨r27454, r27455, t27456⟩, hA27457, h⟩ := h
  dsimp only at h
  refine sC (o_call0 FO53 (disk_New.ok a0 r27454 r27455 t27456 hA27457) rfl rfl (ltn rfl) (All_of .nil)) <| ?_
  rintro _ _ _ ⟨v27459, v27461, rfl, rfl, rfl⟩
  refine vm rfl <| va (op_extract rfl rfl) <| va (op_extract rfl rfl) <| sG (o_alloc Z25 ZL25) fun g27462 => s1 (o_store 0 2 rfl rfl rfl TI25 (.agg (.r 0 rfl (.r 1 rfl .nil))) rfl (len rfl)) <| vs rfl <| ds <| sr <| vm rfl <|
   VL.letter ((t27456 != 0)) fun b27469 hb27469 => va (op_cmp rfl rfl (congrArg some hb27469)) <| dt <| ?_
  replace h := iC h
  rcases h with ⟨c27470, h⟩ | ⟨c27470, h⟩
  · obtain rfl : b27469 = false := hb27469.symm.trans (bne_eq_false_iff_eq.2 c27470)
    refine cf <| sk <| ?_
    replace h := bd h
    obtain ⟨r27471, hA27472, h⟩ := h
    replace h := bd h
    obtain ⟨t27473, hA27474, h⟩ := h
    replace h := bd h
    obtain ⟨⟨r27475, r27476, t27477⟩, hA27478, h⟩ := h
    dsimp only at h
    refine VC.freezeRow' 0 rfl <| VC.freezeRow' 0 rfl <|
     VC.join2 (fun (v27480 : Value) (v27482 : Value) => ⟨34, [(2, pt g27441 0), (3, iv 0), (4, pt g27462 0)], [.row v27480 1 (r27475.map enc_str), .row v27482 2 (r27476.map enc71)], [(g27462, 25, [v27480, v27482]), (g27441, 27, [sn, sn, iv 0, iv 0, iv 0, sn, sn])], []⟩) (fun (v27480 : Value) (v27482 : Value) => True) ?_ ?_
    · refine VC.drawB ⟨0, [], [], [], []⟩ [7] ⟨0, [], [], [(g27462, 25, [v27459, v27461])], []⟩ (by kernel_rfl) rfl (by kernel_rfl) (n := 8) (listed := LB 8 0) <|
       VB.vb (i := 0) (listed' := LB 8 1) rfl (op_load 0 2 rfl rfl TI25 rfl (fun h => absurd h (by decide))) rfl (by kernel_rfl) (by kernel_rfl) (by kernel_rfl) (by kernel_rfl) (by kernel_rfl) (by kernel_rfl) (PartP.on ⟨trivial, trivial, trivial⟩ ⟨trivial, ⟨⟨0, rfl⟩, trivial⟩, trivial⟩) (fun _ _ _ h => h) <|
       VB.oneC (i := 1) (listed' := LB 8 3) (by kernel_rfl) rfl (o_call0 FO55 (journal_headOf.ok k 1 0 0 r27471 hA27472) rfl rfl (ltn rfl) (All_of .nil)) rfl (by kernel_rfl) <| ?_
      rintro _ _ _ ⟨rfl, rfl, rfl⟩
      refine ⟨(PartP.on ⟨trivial, trivial, trivial⟩ ⟨trivial, ⟨⟨0, rfl⟩, trivial⟩, trivial⟩), ?_⟩
      refine VB.oneC (i := 2) (listed' := LB 8 7) (by kernel_rfl) rfl (o_call0 FO56 (journal_head_sector.ok r27471 t27473 hA27474) rfl rfl (ltn rfl) (All_of .nil)) rfl (by kernel_rfl) <| ?_
      rintro _ _ _ ⟨rfl, rfl, rfl⟩
      refine ⟨(PartP.on ⟨trivial, trivial, trivial⟩ ⟨trivial, ⟨⟨0, rfl⟩, trivial⟩, trivial⟩), ?_⟩
      refine VB.oneC (i := 3) (listed' := LB 8 15) (by kernel_rfl) rfl (o_call0 FO54 (disk_Put.ok k r27454 r27455 1 t27473 v27459 v27461 r27475 r27476 t27477 hA27478) rfl rfl (ltn rfl) (All_of (.cons (mG 1 rfl) (.cons (mG 0 rfl) .nil)))) rfl (by kernel_rfl) <| ?_
      rintro _ _ _ ⟨v27480, v27482, rfl, rfl, rfl⟩
      refine ⟨(PartP.on ⟨trivial, trivial, trivial⟩ ⟨trivial, ⟨⟨0, rfl⟩, trivial⟩, trivial⟩), ?_⟩
      exact VB.more ⟨0, [], [.row v27480 1 (r27475.map enc_str), .row v27482 2 (r27476.map enc71)], [], []⟩ ⟨trivial, trivial, trivial⟩ <| bv 4 31 rfl (mv rfl) <| bv 5 63 rfl (op_extract rfl rfl) <| bv 6 127 rfl (op_extract rfl rfl) <|
       VB.one1 (i := 7) (listed' := LB 8 255) (by kernel_rfl) rfl (o_store 0 2 rfl rfl rfl TI25 (.agg (.f 0 rfl (.f 1 rfl .nil))) rfl (len rfl)) rfl (by kernel_rfl) (PartP.off (by kernel_rfl) ⟨⟨⟨0, rfl⟩, ⟨1, rfl⟩, trivial⟩, trivial, trivial⟩) <| VB.done (by kernel_rfl) <|
       VN.meet2 v27480 v27482 [0, 1] [] trivial
    intro v27480 v27482 _
    refine sr <| va (op_load 0 2 rfl rfl TI25 rfl (fun h => absurd h (by decide))) <| ?_
    replace h := bd h
    obtain ⟨⟨r27483, r27484, t27485⟩, hA27486, h⟩ := h
    dsimp only at h
    refine sC (o_call0 FO52 (disk_Flush.ok k r27475 r27476 v27480 v27482 r27483 r27484 t27485 hA27486) rfl rfl (ltn rfl) (All_of (.cons (mG 0 rfl) (.cons (mG 1 rfl) .nil)))) <| ?_
    rintro _ _ _ ⟨v27488, v27490, rfl, rfl, rfl⟩
    refine vm rfl <| va (op_extract rfl rfl) <| va (op_extract rfl rfl) <| s1 (o_store 0 2 rfl rfl rfl TI25 (.agg (.r 0 rfl (.r 1 rfl .nil))) rfl (len rfl)) <| nx <| va (op_load 0 2 rfl rfl TI25 rfl (fun h => absurd h (by decide))) <| VL.freezeRow' 0 rfl <| VL.freezeRow' 0 rfl <| ?_
    replace h := bd h
    obtain ⟨⟨r27491, r27492, t27493, t27494, t27495, r27496, r27497, t27498⟩, hA27499, h⟩ := h
    dsimp only at h
    refine sC (o_call0 FO46 (journal_Open.ok k r27483 r27484 v27488 v27490 r27491 r27492 t27493 t27494 t27495 r27496 r27497 t27498 hA27499) rfl rfl (ltn rfl) (All_of (.cons (mG 1 rfl) (.cons (mG 0 rfl) .nil)))) <| ?_
    rintro _ _ _ ⟨v27501, v27503, v27505, v27507, rfl, rfl, rfl⟩
    refine va (op_extract rfl rfl) <| va (op_extract rfl rfl) <| s1 (o_store 1 7 rfl rfl rfl TI27 (.agg (.f 0 rfl (.f 1 rfl (.c rfl (.c rfl (.c rfl (.r 0 rfl (.r 1 rfl .nil)))))))) rfl (len rfl)) <| vs rfl <| dt <| VC.ret <| ?_
    simp only [Option.some.injEq, Prod.mk.injEq] at h
    obtain ⟨rfl, rfl, rfl, rfl, rfl, rfl, rfl, rfl⟩ := h
    exact rf [.cell 2 27, .tmp 3] [0, 1] (.cell 1 rfl rfl TI27 (fun h => absurd h (by decide)) (.tmp rfl .nil)) ⟨v27501, v27503, v27505, v27507, rfl, rfl, rfl⟩
  obtain rfl : b27469 = true := hb27469.symm.trans (bne_iff_ne.2 c27470)
  refine ct <| sr <| va (op_build (vals := []) (vcs := []) (cells := [sn, sn, iv 0, iv 0, iv 0, sn, sn]) SI27 rfl .nil (by kernel_rfl)) <| vm rfl <| s1 (o_store 1 7 rfl rfl rfl TI27 (.agg (.of rfl)) rfl (len rfl)) <| vs rfl <|
   dt <| VC.ret <| VR.then <| ?_
  simp only [Option.some.injEq, Prod.mk.injEq] at h
  obtain ⟨rfl, rfl, rfl, rfl, rfl, rfl, rfl, rfl⟩ := h
  exact VR.nilFact' 1 <| VR.nilFact' 2 <| VR.nilRow' 9 1 <| VR.nilRow' 9 1 <| rf [.cell 2 27, .tmp 3] [1, 0] (.cell 1 rfl rfl TI27 (fun h => absurd h (by decide)) (.tmp rfl .nil)) ⟨sn, sn, sn, sn, rfl, rfl, rfl⟩

theorem slices_Clip_string_string.ok (l0 : List ByteArray) (v0 : Value) (r1 : List ByteArray) (h : slices_Clip_string_string.f l0 = some r1) :
    VCalls Tryz.prog 25 [v0] [.row v0 1 (l0.map enc_str)] (fun v G own => ∃ A : Option Addr, v = .slice A r1.length r1.length ∧ G = [.row (.slice A r1.length r1.length) 1 (r1.map enc_str)] ∧ own = []) := by
  obtain rfl := Option.some.inj h
  clear h
  refine VCalls.intro Tryz.func25 rfl (len rfl) fun E hC hW hD hU => ?_
  refine VC.seq (VC.region ?_)
  refine VL.va (op_assign rfl (ltn rfl)) rfl ?_
  refine VL.done (VN.then ?_)
  refine VC.seq (VC.region ?_)
  refine VL.va (op_move rfl (ltn rfl)) rfl ?_
  refine VL.va (op_move rfl (ltn rfl)) rfl ?_
  refine VL.va (op_len (m := l0.length) 0 lenm Tryz.underlying22 rfl rfl (ltn rfl)) rfl ?_
  refine VL.va (op_move rfl (ltn rfl)) rfl ?_
  refine VL.va (op_len (m := l0.length) 0 lenm Tryz.underlying22 rfl rfl (ltn rfl)) rfl ?_
  refine VL.sG (o_clip (m := l0.length) 0 lenm Tryz.underlying22 TI9 rfl rfl rfl rfl (ltn rfl)) rfl ?_
  intro A
  refine VL.va (op_assign rfl (ltn rfl)) rfl ?_
  refine VL.done (VN.then ?_)
  refine VC.ret ?_
  exact VR.fn (rs := [.tmp 2]) [.row (.slice A l0.length l0.length) 1 (l0.map enc_str)] [] [] rfl (.tmp rfl .nil) ⟨_, rfl, rfl, rfl⟩ ⟨⟨0, rfl⟩, trivial⟩ rfl (by decide)

theorem journal_Append.ok (k : Nat) (l0_0 : List ByteArray) (l0_1 : List S71) (a0_2 : Int) (a0_3 : Int) (a0_4 : Int) (l0_5 : List ByteArray) (l0_6 : List ByteArray) (a1 : ByteArray) (v0_0 : Value) (v0_1 : Value) (v0_5 : Value) (v0_6 : Value) (r1 : List ByteArray) (r2 : List S71) (r3 : Int) (r4 : Int) (r5 : Int) (r6 : List ByteArray) (r7 : List ByteArray) (r8 : Int) (h : journal_Append.f k l0_0 l0_1 a0_2 a0_3 a0_4 l0_5 l0_6 a1 = some (r1, r2, r3, r4, r5, r6, r7, r8)) :
    VCalls Tryz.prog 6 [.agg #[v0_0, v0_1, iv a0_2, iv a0_3, iv a0_4, v0_5, v0_6], .string a1] [.row v0_0 1 (l0_0.map enc_str), .row v0_1 2 (l0_1.map enc71), .row v0_5 1 (l0_5.map enc_str), .row v0_6 1 (l0_6.map enc_str)] (fun v G own => ∃ w0 w1 w5 w6 : Value, v = .tuple #[.agg #[w0, w1, iv r3, iv r4, iv r5, w5, w6], iv r8] ∧ G = [.row w0 1 (r1.map enc_str), .row w1 2 (r2.map enc71), .row w5 1 (r6.map enc_str), .row w6 1 (r7.map enc_str)] ∧ own = []) := by
  refine VCalls.intro Tryz.func6 rfl (len rfl) fun E hC hW hD hU => ?_
  unfold journal_Append.f at h
  refine sr <| sG (o_box rfl (.agg (.f 0 rfl (.f 1 rfl (.c rfl (.c rfl (.c rfl (.f 2 rfl (.f 3 rfl .nil))))))))) fun g27577 => sG (o_alloc Z27 ZL27) fun g27578 => vs rfl <| ds <| sr <| va (op_load 1 7 rfl rfl TI27 rfl (fun h => absurd h (by decide))) <| ?_
  replace h := bd h
  obtain ⟨t27592, hA27593, h⟩ := h
  refine sC (o_call0 FO24 (journal_Right.ok k l0_0 l0_1 a0_2 a0_3 a0_4 l0_5 l0_6 v0_0 v0_1 v0_5 v0_6 t27592 hA27593) rfl rfl (ltn rfl) (All_of (.cons (mG 0 rfl) (.cons (mG 1 rfl) (.cons (mG 2 rfl) (.cons (mG 3 rfl) .nil)))))) <| ?_
  rintro _ _ _ ⟨rfl, rfl, rfl⟩
  replace h := iC h
  rcases h with ⟨c27594, h⟩ | ⟨c27594, h⟩
  · obtain rfl := c27594
    refine va (op_not rfl rfl) <| dt <| cf <| sk <| sr <| va (op_fieldAddr FI27_4 rfl (add_at _ _ _)) <| va (op_load 1 1 rfl rfl TI22 rfl (by decide)) <| ?_
    replace h := bd h
    obtain ⟨r27595, hA27596, h⟩ := h
    refine sC (o_call0 FO25 (slices_Clip_string_string.ok l0_5 v0_5 r27595 hA27596) rfl rfl (ltn rfl) (All_of (.cons (mG 2 rfl) .nil))) <| ?_
    rintro _ _ _ ⟨A27597, rfl, rfl, rfl⟩
    refine vm rfl <| sG (o_buildSlice (vals := [(0, .string a1)]) (cells := #[.string a1]) (es := List.map enc_str ([a1] : List ByteArray)) Tryz.underlying22 TI9 Z9 rfl (by decide) (by decide) (by kernel_rfl) (by kernel_rfl) rfl (flat_map enc_str_ok _)) fun v27600 => ?_
    replace h := iN h
    obtain ⟨c27601, h⟩ := h
    refine sG (o_append_clip 0 appm Tryz.underlying22 EI9 rfl rfl rfl (.inr ⟨0, _, rfl⟩) (bndm c27601)) fun v27602 => vs rfl <| ds <| sr <| va (op_load 1 7 rfl rfl TI27 rfl (fun h => absurd h (by decide))) <| vm rfl <| ?_
    replace h := bd h
    obtain ⟨t27612, hA27613, h⟩ := h
    refine sC (o_call0 FO26 (journal_waits.ok k l0_0 l0_1 a0_2 a0_3 a0_4 l0_5 l0_6 (r27595 ++ ([a1] : List ByteArray)) v0_0 v0_1 v0_5 v0_6 v27602 t27612 hA27613) rfl rfl (ltn rfl) (All_of (.cons (mG 2 rfl) (.cons (mG 3 rfl) (.cons (mG 4 rfl) (.cons (mG 5 rfl) (.cons (mG 0 rfl) .nil))))))) <| ?_
    rintro _ _ _ ⟨rfl, rfl, rfl⟩
    refine vs rfl <| nx <| vm rfl <| VL.letter ((t27612 != 0)) fun b27614 hb27614 => va (op_cmp rfl rfl (congrArg some hb27614)) <| dt <| ?_
    replace h := iC h
    rcases h with ⟨c27615, h⟩ | ⟨c27615, h⟩
    · obtain rfl : b27614 = false := hb27614.symm.trans (bne_eq_false_iff_eq.2 c27615)
      refine cf <| sk <| sr <| vm rfl <| va (op_fieldAddr FI27_4 rfl (add_at _ _ _)) <| s1 (o_store 1 1 rfl rfl rfl TI22 (.f 0 rfl) rfl (len rfl)) <| nx <| va (op_load 1 7 rfl rfl TI27 rfl (fun h => absurd h (by decide))) <|
       s1 (o_store 0 7 rfl rfl rfl TI27 (.agg (.f 2 rfl (.f 3 rfl (.c rfl (.c rfl (.c rfl (.f 0 rfl (.f 5 rfl .nil)))))))) rfl (len rfl)) <| vs rfl <| dt <| VC.ret <| ?_
      simp only [Option.some.injEq, Prod.mk.injEq] at h
      obtain ⟨rfl, rfl, rfl, rfl, rfl, rfl, rfl, rfl⟩ := h
      exact rf [.cell 4 27, .tmp 5] [] (.cell 0 rfl rfl TI27 (fun h => absurd h (by decide)) (.tmp rfl .nil)) ⟨v0_0, v0_1, v27602, v0_6, rfl, rfl, rfl⟩
    obtain rfl : b27614 = true := hb27614.symm.trans (bne_iff_ne.2 c27615)
    refine ct <| sr <| va (op_build (vals := []) (vcs := []) (cells := [sn, sn, iv 0, iv 0, iv 0, sn, sn]) SI27 rfl .nil (by kernel_rfl)) <| vm rfl <| s1 (o_store 0 7 rfl rfl rfl TI27 (.agg (.of rfl)) rfl (len rfl)) <| vs rfl <|
     dt <| VC.ret <| VR.then <| ?_
    simp only [Option.some.injEq, Prod.mk.injEq] at h
    obtain ⟨rfl, rfl, rfl, rfl, rfl, rfl, rfl, rfl⟩ := h
    exact VR.nilFact' 1 <| VR.nilFact' 2 <| VR.nilFact' 1 <| VR.nilFact' 1 <| rf [.cell 4 27, .tmp 5] [] (.cell 0 rfl rfl TI27 (fun h => absurd h (by decide)) (.tmp rfl .nil)) ⟨sn, sn, sn, sn, rfl, rfl, rfl⟩
  obtain rfl := Bool.eq_false_iff.2 c27594
  refine va (op_not rfl rfl) <| dt <| ct <| sr <| va (op_build (vals := []) (vcs := []) (cells := [sn, sn, iv 0, iv 0, iv 0, sn, sn]) SI27 rfl .nil (by kernel_rfl)) <|
   s1 (o_store 0 7 rfl rfl rfl TI27 (.agg (.of rfl)) rfl (len rfl)) <| vs rfl <| dt <| VC.ret <| VR.then <| ?_
  simp only [Option.some.injEq, Prod.mk.injEq] at h
  obtain ⟨rfl, rfl, rfl, rfl, rfl, rfl, rfl, rfl⟩ := h
  exact VR.nilFact' 1 <| VR.nilFact' 2 <| VR.nilFact' 1 <| VR.nilFact' 1 <| rf [.cell 4 27, .tmp 5] [] (.cell 0 rfl rfl TI27 (fun h => absurd h (by decide)) (.tmp rfl .nil)) ⟨sn, sn, sn, sn, rfl, rfl, rfl⟩

theorem journal_plan_sealed.ok (k : Nat) (a0_0 : Int) (a0_1 : Int) (a0_2 : ByteArray) (l1_0 : List ByteArray) (l1_1 : List S71) (a1_2 : Int) (a1_3 : Int) (a1_4 : Int) (l1_5 : List ByteArray) (l1_6 : List ByteArray) (v1_0 : Value) (v1_1 : Value) (v1_5 : Value) (v1_6 : Value) (r1 : List ByteArray) (r2 : List S71) (r3 : Int) (r4 : Int) (r5 : Int) (r6 : List ByteArray) (r7 : List ByteArray) (r8 : Int) (h : journal_plan_sealed.f k a0_0 a0_1 a0_2 l1_0 l1_1 a1_2 a1_3 a1_4 l1_5 l1_6 = some (r1, r2, r3, r4, r5, r6, r7, r8)) :
    VCalls Tryz.prog 28 [.agg #[iv a0_0, iv a0_1, .string a0_2], .agg #[v1_0, v1_1, iv a1_2, iv a1_3, iv a1_4, v1_5, v1_6]] [.row v1_0 1 (l1_0.map enc_str), .row v1_1 2 (l1_1.map enc71), .row v1_5 1 (l1_5.map enc_str), .row v1_6 1 (l1_6.map enc_str)] (fun v G own => ∃ w0 w1 w5 w6 : Value, v = .tuple #[.agg #[w0, w1, iv r3, iv r4, iv r5, w5, w6], iv r8] ∧ G = [.row w0 1 (r1.map enc_str), .row w1 2 (r2.map enc71)] ∧ own = [(w5, 9, 1, r6.map enc_str), (w6, 9, 1, r7.map enc_str)]) := by
  refine VCalls.intro Tryz.func28 rfl (len rfl) fun E hC hW hD hU => ?_
  unfold journal_plan_sealed.f at h
  refine sr <| sG (o_box rfl (.agg (.of rfl))) fun g27723 => sG (o_box rfl (.agg (.f 0 rfl (.f 1 rfl (.c rfl (.c rfl (.c rfl (.f 2 rfl (.f 3 rfl .nil))))))))) fun g27724 => sG (o_alloc Z27 ZL27) fun g27725 => vs rfl <| nx <| va (op_load 2 3 rfl rfl TI53 rfl (fun h => absurd h (by decide))) <|
   va (op_load 1 7 rfl rfl TI27 rfl (fun h => absurd h (by decide))) <| ?_
  replace h := bd h
  obtain ⟨⟨r27726, r27727⟩, hA27728, h⟩ := h
  dsimp only at h
  refine sC (o_call0 FO39 (journal_plan_second.ok k a0_0 a0_1 a0_2 l1_0 l1_1 a1_2 a1_3 a1_4 l1_5 l1_6 v1_0 v1_1 v1_5 v1_6 r27726 r27727 hA27728) rfl rfl (ltn rfl) (All_of (.cons (mG 0 rfl) (.cons (mG 1 rfl) (.cons (mG 2 rfl) (.cons (mG 3 rfl) .nil)))))) <| ?_
  rintro _ _ _ ⟨v27730, v27732, rfl, rfl, rfl⟩
  replace h := bd h
  obtain ⟨⟨r27733, r27734, t27735⟩, hA27736, h⟩ := h
  dsimp only at h
  refine sC (o_call0 FO52 (disk_Flush.ok k r27726 r27727 v27730 v27732 r27733 r27734 t27735 hA27736) rfl rfl (ltn rfl) (All_of (.cons (mG 0 rfl) (.cons (mG 1 rfl) .nil)))) <| ?_
  rintro _ _ _ ⟨v27738, v27740, rfl, rfl, rfl⟩
  refine vm rfl <| va (op_extract rfl rfl) <| va (op_extract rfl rfl) <| sG (o_alloc Z25 ZL25) fun g27741 => s1 (o_store 0 2 rfl rfl rfl TI25 (.agg (.r 0 rfl (.r 1 rfl .nil))) rfl (len rfl)) <| vs rfl <| nx <| va (op_load 0 2 rfl rfl TI25 rfl (fun h => absurd h (by decide))) <| VL.freezeRow' 0 rfl <|
   VL.freezeRow' 0 rfl <| ?_
  replace h := bd h
  obtain ⟨⟨r27742, r27743, t27744, t27745, t27746, r27747, r27748, t27749⟩, hA27750, h⟩ := h
  dsimp only at h
  refine sC (o_call0 FO46 (journal_Open.ok k r27733 r27734 v27738 v27740 r27742 r27743 t27744 t27745 t27746 r27747 r27748 t27749 hA27750) rfl rfl (ltn rfl) (All_of (.cons (mG 1 rfl) (.cons (mG 0 rfl) .nil)))) <| ?_
  rintro _ _ _ ⟨v27752, v27754, v27756, v27758, rfl, rfl, rfl⟩
  refine va (op_extract rfl rfl) <| va (op_extract rfl rfl) <| s1 (o_store 1 7 rfl rfl rfl TI27 (.agg (.f 0 rfl (.f 1 rfl (.c rfl (.c rfl (.c rfl (.r 0 rfl (.r 1 rfl .nil)))))))) rfl (len rfl)) <| vs rfl <| dt <| VC.ret <| ?_
  simp only [Option.some.injEq, Prod.mk.injEq] at h
  obtain ⟨rfl, rfl, rfl, rfl, rfl, rfl, rfl, rfl⟩ := h
  exact rf [.cell 4 27, .tmp 5] [0, 1] (.cell 1 rfl rfl TI27 (fun h => absurd h (by decide)) (.tmp rfl .nil)) ⟨v27752, v27754, v27756, v27758, rfl, rfl, rfl⟩

theorem journal_Commit.ok (k : Nat) (l0_0 : List ByteArray) (l0_1 : List S71) (a0_2 : Int) (a0_3 : Int) (a0_4 : Int) (l0_5 : List ByteArray) (l0_6 : List ByteArray) (v0_0 : Value) (v0_1 : Value) (v0_5 : Value) (v0_6 : Value) (r1 : List ByteArray) (r2 : List S71) (r3 : Int) (r4 : Int) (r5 : Int) (r6 : List ByteArray) (r7 : List ByteArray) (r8 : Int) (h : journal_Commit.f k l0_0 l0_1 a0_2 a0_3 a0_4 l0_5 l0_6 = some (r1, r2, r3, r4, r5, r6, r7, r8)) :
    VCalls Tryz.prog 7 [.agg #[v0_0, v0_1, iv a0_2, iv a0_3, iv a0_4, v0_5, v0_6]] [.row v0_0 1 (l0_0.map enc_str), .row v0_1 2 (l0_1.map enc71), .row v0_5 1 (l0_5.map enc_str), .row v0_6 1 (l0_6.map enc_str)] (fun v G own => ∃ w0 w1 w5 w6 : Value, v = .tuple #[.agg #[w0, w1, iv r3, iv r4, iv r5, w5, w6], iv r8] ∧ G = [.row w0 1 (r1.map enc_str), .row w1 2 (r2.map enc71)] ∧ own = [(w5, 9, 1, r6.map enc_str), (w6, 9, 1, r7.map enc_str)]) := by
  refine VCalls.intro Tryz.func7 rfl (len rfl) fun E hC hW hD hU => ?_
  unfold journal_Commit.f at h
  refine sr <| sG (o_box rfl (.agg (.f 0 rfl (.f 1 rfl (.c rfl (.c rfl (.c rfl (.f 2 rfl (.f 3 rfl .nil))))))))) fun g27780 => sG (o_alloc Z27 ZL27) fun g27781 => vs rfl <| ds <| VC.block <| sr <| va (op_load 1 7 rfl rfl TI27 rfl (fun h => absurd h (by decide))) <| ?_
  replace h := bd h
  obtain ⟨t27801, hA27802, h⟩ := h
  refine sC (o_call0 FO24 (journal_Right.ok k l0_0 l0_1 a0_2 a0_3 a0_4 l0_5 l0_6 v0_0 v0_1 v0_5 v0_6 t27801 hA27802) rfl rfl (ltn rfl) (All_of (.cons (mG 0 rfl) (.cons (mG 1 rfl) (.cons (mG 2 rfl) (.cons (mG 3 rfl) .nil)))))) <| ?_
  rintro _ _ _ ⟨rfl, rfl, rfl⟩
  replace h := iC h
  rcases h with ⟨c27803, h⟩ | ⟨c27803, h⟩
  · obtain rfl := c27803
    refine va (op_not rfl rfl) <| vs rfl <| dt <| cf <| sr <| va (op_fieldAddr FI27_1 rfl (add_at _ _ _)) <| va (op_load 1 1 rfl rfl TI3 rfl (by decide)) <| VL.letter ((a0_2 == 1099511627776)) fun b27804 hb27804 => va (op_cmp rfl rfl (congrArg some hb27804)) <| vs rfl <| dt <| ?_
    replace h := iC h
    rcases h with ⟨c27805, h⟩ | ⟨c27805, h⟩
    · obtain rfl : b27804 = true := hb27804.symm.trans (beq_iff_eq.2 c27805)
      refine ct <| sr <| va (op_build (vals := []) (vcs := []) (cells := [sn, sn, iv 0, iv 0, iv 0, sn, sn]) SI27 rfl .nil (by kernel_rfl)) <| s1 (o_store 0 7 rfl rfl rfl TI27 (.agg (.of rfl)) rfl (len rfl)) <| vs rfl <| dt <|
       VC.ret <| VR.block <| VR.then <| ?_
      simp only [Option.some.injEq, Prod.mk.injEq] at h
      obtain ⟨rfl, rfl, rfl, rfl, rfl, rfl, rfl, rfl⟩ := h
      exact VR.nilFact' 1 <| VR.nilFact' 2 <| VR.nilRow' 9 1 <| VR.nilRow' 9 1 <| rf [.cell 2 27, .tmp 3] [1, 0] (.cell 0 rfl rfl TI27 (fun h => absurd h (by decide)) (.tmp rfl .nil)) ⟨sn, sn, sn, sn, rfl, rfl, rfl⟩
    obtain rfl : b27804 = false := hb27804.symm.trans (beq_eq_false_iff_ne.2 c27805)
    refine cf <| VC.skip <| VN.block <| th <| ?_
    replace h := bd h
    obtain ⟨⟨t27810, t27811, t27812⟩, hA27813, h⟩ := h
    dsimp only at h
    replace h := bd h
    obtain ⟨⟨r27814, r27815, t27816, t27817, t27818, r27819, r27820, t27821⟩, hA27822, h⟩ := h
    dsimp only at h
    refine VC.join4 (fun (v27824 : Value) (v27826 : Value) (v27828 : Value) (v27830 : Value) => ⟨20, [(2, pt g27781 0), (3, iv t27821)], [.row v27824 1 (r27814.map enc_str), .row v27826 2 (r27815.map enc71)], [(g27781, 27, [v27824, v27826, iv t27816, iv t27817, iv t27818, v27828, v27830])], [(v27828, 9, 1, r27819.map enc_str), (v27830, 9, 1, r27820.map enc_str)]⟩) (fun (v27824 : Value) (v27826 : Value) (v27828 : Value) (v27830 : Value) => True) ?_ ?_
    · refine dw ⟨0, [], [], [(g27780, 27, [v0_0, v0_1, iv a0_2, iv a0_3, iv a0_4, v0_5, v0_6])], []⟩ 8 <| av 0 1 rfl (op_load 0 7 rfl rfl TI27 rfl (fun h => absurd h (by decide))) <| av 2 5 rfl (op_load 0 7 rfl rfl TI27 rfl (fun h => absurd h (by decide))) <|
       aC 1 7 rfl (o_call0 FO27 (journal_groups.ok k l0_0 l0_1 a0_2 a0_3 a0_4 l0_5 l0_6 v0_0 v0_1 v0_5 v0_6 t27810 t27811 t27812 hA27813) rfl rfl (ltn rfl) (All_of (.cons (mG 0 rfl) (.cons (mG 1 rfl) (.cons (mG 2 rfl) (.cons (mG 3 rfl) .nil)))))) <| ?_
      rintro _ _ _ ⟨rfl, rfl, rfl⟩
      refine ⟨⟨trivial, ⟨⟨1, rfl⟩, trivial⟩, trivial⟩, ?_⟩
      refine aC 3 15 rfl (o_call0 FO28 (journal_plan_sealed.ok k t27810 t27811 t27812 l0_0 l0_1 a0_2 a0_3 a0_4 l0_5 l0_6 v0_0 v0_1 v0_5 v0_6 r27814 r27815 t27816 t27817 t27818 r27819 r27820 t27821 hA27822) rfl rfl (ltn rfl) (All_of (.cons (mG 0 rfl) (.cons (mG 1 rfl) (.cons (mG 2 rfl) (.cons (mG 3 rfl) .nil)))))) <|
       ?_
      rintro _ _ _ ⟨v27824, v27826, v27828, v27830, rfl, rfl, rfl⟩
      refine ⟨⟨trivial, ⟨⟨1, rfl⟩, trivial⟩, trivial⟩, ?_⟩
      exact VA.more ⟨0, [], [.row v27824 1 (r27814.map enc_str), .row v27826 2 (r27815.map enc71)], [(g27780, 27, [v0_0, v0_1, iv a0_2, iv a0_3, iv a0_4, v0_5, v0_6])], [(v27828, 9, 1, r27819.map enc_str), (v27830, 9, 1, r27820.map enc_str)]⟩ ⟨trivial, ⟨⟨0, rfl⟩, trivial⟩, trivial⟩ <|
       av 4 31 rfl (op_extract rfl rfl) <| av 5 63 rfl (op_extract rfl rfl) <| aO 6 127 rfl (o_store 0 7 rfl rfl rfl TI27 (.agg (.f 0 rfl (.f 1 rfl (.c rfl (.c rfl (.c rfl (.r 0 rfl (.r 1 rfl .nil)))))))) rfl (len rfl)) <| av 7 255 rfl (ag rfl) <| ad <|
       VN.meet4 v27824 v27826 v27828 v27830 [0] [0, 1] trivial
    intro v27824 v27826 v27828 v27830 _
    refine VC.ret <| ?_
    simp only [Option.some.injEq, Prod.mk.injEq] at h
    obtain ⟨rfl, rfl, rfl, rfl, rfl, rfl, rfl, rfl⟩ := h
    exact rf [.cell 2 27, .tmp 3] [0, 1] (.cell 0 rfl rfl TI27 (fun h => absurd h (by decide)) (.tmp rfl .nil)) ⟨v27824, v27826, v27828, v27830, rfl, rfl, rfl⟩
  obtain rfl := Bool.eq_false_iff.2 c27803
  refine va (op_not rfl rfl) <| vs rfl <| dt <| ct <| sr <| va (op_build (vals := []) (vcs := []) (cells := [sn, sn, iv 0, iv 0, iv 0, sn, sn]) SI27 rfl .nil (by kernel_rfl)) <|
   s1 (o_store 0 7 rfl rfl rfl TI27 (.agg (.of rfl)) rfl (len rfl)) <| vs rfl <| dt <| VC.ret <| VR.block <| VR.then <| ?_
  simp only [Option.some.injEq, Prod.mk.injEq] at h
  obtain ⟨rfl, rfl, rfl, rfl, rfl, rfl, rfl, rfl⟩ := h
  exact VR.nilFact' 1 <| VR.nilFact' 2 <| VR.nilRow' 9 1 <| VR.nilRow' 9 1 <| rf [.cell 2 27, .tmp 3] [1, 0] (.cell 0 rfl rfl TI27 (fun h => absurd h (by decide)) (.tmp rfl .nil)) ⟨sn, sn, sn, sn, rfl, rfl, rfl⟩

theorem tarrylaw05_alive.ok (k : Nat)   (r1 : Bool) (h : tarrylaw05_alive.f k = some r1) :
    VCalls Tryz.prog 9 [] [] (fun v G own => v = .bool r1 ∧ G = [] ∧ own = []) := by
  refine VCalls.intro Tryz.func9 rfl (len rfl) fun E hC hW hD hU => ?_
  unfold tarrylaw05_alive.f at h
  refine sr <| vs rfl <| nx <| ?_
  replace h := bd h
  obtain ⟨⟨r27512, r27513, t27514, t27515, t27516, r27517, r27518, t27519⟩, hA27520, h⟩ := h
  dsimp only at h
  refine sC (o_call0 FO31 (journal_Format.ok k 8 r27512 r27513 t27514 t27515 t27516 r27517 r27518 t27519 hA27520) rfl rfl (ltn rfl) (All_of .nil)) <| ?_
  rintro _ _ _ ⟨v27522, v27524, v27526, v27528, rfl, rfl, rfl⟩
  refine vm rfl <| va (op_extract rfl rfl) <| va (op_extract rfl rfl) <| sG (o_alloc Z27 ZL27) fun g27529 => s1 (o_store 0 7 rfl rfl rfl TI27 (.agg (.f 0 rfl (.f 1 rfl (.c rfl (.c rfl (.c rfl (.r 0 rfl (.r 1 rfl .nil)))))))) rfl (len rfl)) <| vs rfl <| nx <|
   va (op_load 0 7 rfl rfl TI27 rfl (fun h => absurd h (by decide))) <| VL.freezeRow' 0 rfl <| VL.freezeRow' 0 rfl <| ?_
  replace h := bd h
  obtain ⟨⟨r27624, r27625, t27626, t27627, t27628, r27629, r27630, t27631⟩, hA27632, h⟩ := h
  dsimp only at h
  refine sC (o_call0 FO6 (journal_Append.ok k r27512 r27513 t27514 t27515 t27516 r27517 r27518 (⟨#[97]⟩ : ByteArray) v27522 v27524 v27526 v27528 r27624 r27625 t27626 t27627 t27628 r27629 r27630 t27631 hA27632) rfl rfl (ltn rfl) (All_of (.cons (mG 2 rfl) (.cons (mG 3 rfl) (.cons (mG 1 rfl) (.cons (mG 0 rfl) .nil)))))) <|
   ?_
  rintro _ _ _ ⟨v27634, v27636, v27638, v27640, rfl, rfl, rfl⟩
  refine vm rfl <| va (op_extract rfl rfl) <| va (op_extract rfl rfl) <| s1 (o_store 0 7 rfl rfl rfl TI27 (.agg (.f 0 rfl (.f 1 rfl (.c rfl (.c rfl (.c rfl (.f 2 rfl (.f 3 rfl .nil)))))))) rfl (len rfl)) <| vs rfl <| nx <| va (op_load 0 7 rfl rfl TI27 rfl (fun h => absurd h (by decide))) <| ?_
  replace h := bd h
  obtain ⟨⟨r27835, r27836, t27837, t27838, t27839, r27840, r27841, t27842⟩, hA27843, h⟩ := h
  dsimp only at h
  refine sC (o_call0 FO7 (journal_Commit.ok k r27624 r27625 t27626 t27627 t27628 r27629 r27630 v27634 v27636 v27638 v27640 r27835 r27836 t27837 t27838 t27839 r27840 r27841 t27842 hA27843) rfl rfl (ltn rfl) (All_of (.cons (mG 0 rfl) (.cons (mG 1 rfl) (.cons (mG 2 rfl) (.cons (mG 3 rfl) .nil)))))) <| ?_
  rintro _ _ _ ⟨v27845, v27847, v27849, v27851, rfl, rfl, rfl⟩
  refine vm rfl <| va (op_extract rfl rfl) <| va (op_extract rfl rfl) <| s1 (o_store 0 7 rfl rfl rfl TI27 (.agg (.f 0 rfl (.f 1 rfl (.c rfl (.c rfl (.c rfl (.r 0 rfl (.r 1 rfl .nil)))))))) rfl (len rfl)) <| vs rfl <| nx <| vm rfl <|
   VL.letter ((t27519 == 0)) fun b27866 hb27866 => va (op_cmp rfl rfl (congrArg some hb27866)) <| vm rfl <| ?_
  replace h := iC h
  rcases h with ⟨c27867, h⟩ | ⟨c27867, h⟩
  · obtain rfl : b27866 = true := hb27866.symm.trans (beq_iff_eq.2 c27867)
    refine vm rfl <| VL.letter ((t27631 == 0)) fun b27868 hb27868 => va (op_cmp rfl rfl (congrArg some hb27868)) <| va (op_pick rfl rfl) <| vm rfl <| ?_
    replace h := iC h
    rcases h with ⟨c27869, h⟩ | ⟨c27869, h⟩
    · obtain rfl : b27868 = true := hb27868.symm.trans (beq_iff_eq.2 c27869)
      refine vm rfl <| VL.letter ((t27842 == 0)) fun b27870 hb27870 => va (op_cmp rfl rfl (congrArg some hb27870)) <| va (op_pick rfl rfl) <| vm rfl <| ?_
      replace h := iC h
      rcases h with ⟨c27871, h⟩ | ⟨c27871, h⟩
      · obtain rfl : b27870 = true := hb27870.symm.trans (beq_iff_eq.2 c27871)
        refine va (op_fieldAddr FI27_5 rfl (add_at _ _ _)) <| va (op_load 0 1 rfl rfl TI22 rfl (by decide)) <| va (op_len_own (m := r27841.length) 1 lenm Tryz.underlying22 rfl rfl) <| VL.letter (((r27841.length : Int) == 1)) fun b27872 hb27872 => va (op_cmp rfl rfl (congrArg some hb27872)) <|
         va (op_pick rfl rfl) <| vm rfl <| ?_
        replace h := iC h
        rcases h with ⟨c27873, h⟩ | ⟨c27873, h⟩
        · obtain rfl : b27872 = true := hb27872.symm.trans (beq_iff_eq.2 c27873)
          refine va (op_fieldAddr FI27_5 rfl (add_at _ _ _)) <| va (op_load 0 1 rfl rfl TI22 rfl (by decide)) <| ?_
          replace h := bd h
          obtain ⟨x27874, hx27874, h⟩ := h
          refine VL.openR (m := r27841.length) 1 lenm rfl (pos_get hx27874) <| ?_
          rintro g27875 n27876 rfl
          refine va (op_indexAddr Tryz.underlying22 TI9 rfl rfl (by decide) (lt_get (by decide) hx27874) (add_zero_at _ _)) <| va (op_load_own (sz := 1) (o := 0) 1 0 1 rfl rfl (get_map hx27874) TI9 rfl (by decide)) <|
           VL.letter ((x27874 == (⟨#[97]⟩ : ByteArray))) fun b27877 hb27877 => va (op_cmps rfl rfl (congrArg some hb27877)) <| va (op_pick rfl rfl) <| vm rfl <| ?_
          replace h := iC h
          rcases h with ⟨c27878, h⟩ | ⟨c27878, h⟩
          · obtain rfl : b27877 = true := hb27877.symm.trans (c27878)
            refine va (op_fieldAddr FI27_1 rfl (add_at _ _ _)) <| va (op_load 0 1 rfl rfl TI3 rfl (by decide)) <| VL.letter ((t27837 == 2)) fun b27879 hb27879 => va (op_cmp rfl rfl (congrArg some hb27879)) <| va (op_pick rfl rfl) <| vs rfl <| dt <| VC.ret <| ?_
            obtain rfl := Option.some.inj h
            subst hb27879
            exact rq 0 rfl ⟨rfl, rfl, rfl⟩
          obtain rfl : b27877 = false := hb27877.symm.trans (Bool.eq_false_iff.2 c27878)
          refine un rfl <| un rfl <| un rfl <| va (op_pick rfl rfl) <| vs rfl <| dt <| VC.ret <| ?_
          obtain rfl := Option.some.inj h
          exact rq 0 rfl ⟨rfl, rfl, rfl⟩
        obtain rfl : b27872 = false := hb27872.symm.trans (beq_eq_false_iff_ne.2 c27873)
        refine un rfl <| un rfl <| un rfl <| un rfl <| un rfl <| va (op_pick rfl rfl) <| vm rfl <| un rfl <| un rfl <| un rfl <| va (op_pick rfl rfl) <| vs rfl <| dt <| VC.ret <| ?_
        obtain rfl := Option.some.inj h
        exact rq 0 rfl ⟨rfl, rfl, rfl⟩
      obtain rfl : b27870 = false := hb27870.symm.trans (beq_eq_false_iff_ne.2 c27871)
      refine un rfl <| un rfl <| un rfl <| un rfl <| va (op_pick rfl rfl) <| vm rfl <| un rfl <| un rfl <| un rfl <| un rfl <| un rfl <| va (op_pick rfl rfl) <| vm rfl <| un rfl <| un rfl <| un rfl <| va (op_pick rfl rfl) <| vs rfl <| dt <| VC.ret <| ?_
      obtain rfl := Option.some.inj h
      exact rq 0 rfl ⟨rfl, rfl, rfl⟩
    obtain rfl : b27868 = false := hb27868.symm.trans (beq_eq_false_iff_ne.2 c27869)
    refine un rfl <| un rfl <| va (op_pick rfl rfl) <| vm rfl <| un rfl <| un rfl <| un rfl <| un rfl <| va (op_pick rfl rfl) <| vm rfl <| un rfl <| un rfl <| un rfl <| un rfl <| un rfl <| va (op_pick rfl rfl) <| vm rfl <| un rfl <| un rfl <| un rfl <| va (op_pick rfl rfl) <| vs rfl <| dt <| VC.ret <|
     ?_
    obtain rfl := Option.some.inj h
    exact rq 0 rfl ⟨rfl, rfl, rfl⟩
  obtain rfl : b27866 = false := hb27866.symm.trans (beq_eq_false_iff_ne.2 c27867)
  refine un rfl <| un rfl <| va (op_pick rfl rfl) <| vm rfl <| un rfl <| un rfl <| va (op_pick rfl rfl) <| vm rfl <| un rfl <| un rfl <| un rfl <| un rfl <| va (op_pick rfl rfl) <| vm rfl <| un rfl <| un rfl <| un rfl <| un rfl <| un rfl <| va (op_pick rfl rfl) <| vm rfl <| un rfl <| un rfl <|
   un rfl <| va (op_pick rfl rfl) <| vs rfl <| dt <| VC.ret <| ?_
  obtain rfl := Option.some.inj h
  exact rq 0 rfl ⟨rfl, rfl, rfl⟩

theorem tarryref05_put.ok (l0_0 : List ByteArray) (l0_1 : List S71) (a1 : Int) (a2 : ByteArray) (v0_0 : Value) (v0_1 : Value) (r1 : List ByteArray) (r2 : List S71) (h : tarryref05_put.f l0_0 l0_1 a1 a2 = some (r1, r2)) :
    VCalls Tryz.prog 41 [.agg #[v0_0, v0_1], iv a1, .string a2] [.row v0_0 1 (l0_0.map enc_str), .row v0_1 2 (l0_1.map enc71)] (fun v G own => ∃ w0 w1 : Value, v = .agg #[w0, w1] ∧ G = [.row w0 1 (r1.map enc_str)] ∧ own = [(w1, 72, 2, r2.map enc71)]) := by
  refine VCalls.intro Tryz.func41 rfl (len rfl) fun E hC hW hD hU => ?_
  unfold tarryref05_put.f at h
  refine sr <| sG (o_box rfl (.agg (.f 0 rfl (.f 1 rfl .nil)))) fun g28156 => sG (o_alloc Z25 ZL25) fun g28157 => nx <|
   sG (o_buildSlice (vals := []) (cells := #[]) (es := List.map enc71 ([] : List S71)) Tryz.underlying23 TI72 Z72 rfl (by decide) (by decide) (by kernel_rfl) (by kernel_rfl) rfl (flat_map enc71_ok _)) fun v28159 => vs rfl <| nx <| vm rfl <| va (op_fieldAddr FI25_1 rfl (add_at _ _ _)) <|
   va (op_load 1 1 rfl rfl TI23 rfl (by decide)) <| ?_
  replace h := iN h
  obtain ⟨c28160, h⟩ := h
  refine sG (o_append 0 appm Tryz.underlying23 EI72 rfl rfl rfl (.inl ⟨1, rfl⟩) (bndm c28160)) fun v28161 => vs rfl <| nx <| vm rfl <| vm rfl <| vm rfl <|
   va (op_build (vals := [(0, iv a1), (1, .string a2)]) (vcs := [(0, [iv a1]), (1, [.string a2])]) (cells := [iv a1, .string a2]) SI72 rfl (.cons ⟨rfl, (.c rfl)⟩ (.cons ⟨rfl, (.c rfl)⟩ .nil)) (by kernel_rfl)) <|
   sG (o_buildSlice (vals := [(0, .agg #[iv a1, .string a2])]) (cells := #[iv a1, .string a2]) (es := List.map enc71 ([(⟨a1, a2⟩ : S71)] : List S71)) Tryz.underlying23 TI72 Z72 rfl (by decide) (by decide) (by kernel_rfl) (by kernel_rfl) rfl (flat_map enc71_ok _)) fun v28164 => ?_
  replace h := iN h
  obtain ⟨c28165, h⟩ := h
  refine sG (o_append 1 appm Tryz.underlying23 EI72 rfl rfl rfl (.inr ⟨0, _, rfl⟩) (bndm c28165)) fun v28166 => vs rfl <| nx <| vm rfl <| va (op_fieldAddr FI25_1 rfl (add_at _ _ _)) <| s1 (o_store 1 1 rfl rfl rfl TI23 (.r 1 rfl) rfl (len rfl)) <| nx <|
   va (op_load 1 2 rfl rfl TI25 rfl (fun h => absurd h (by decide))) <| s1 (o_store 0 2 rfl rfl rfl TI25 (.agg (.f 0 rfl (.r 1 rfl .nil))) rfl (len rfl)) <| dt <| VC.ret <| ?_
  simp only [Option.some.injEq, Prod.mk.injEq] at h
  obtain ⟨rfl, rfl⟩ := h
  exact rf [.cell 6 25] [1] (.cell 0 rfl rfl TI25 (fun h => absurd h (by decide)) .nil) ⟨v0_0, v28166, rfl, rfl, rfl⟩

theorem tarryref05_zeros.ok (a0 : Int)  (r1 : ByteArray) (h : tarryref05_zeros.f a0 = some r1) :
    VCalls Tryz.prog 42 [iv a0] [] (fun v G own => v = .string r1 ∧ G = [] ∧ own = []) := by
  refine VCalls.intro Tryz.func42 rfl (len rfl) fun E hC hW hD hU => ?_
  unfold tarryref05_zeros.f at h
  refine sr <| vs rfl <| nx <| vm rfl <| ?_
  replace h := iN h
  obtain ⟨c29925, h⟩ := h
  replace h := iN h
  obtain ⟨c29926, h⟩ := h
  refine o_makeSliceJ (k := .u8) Tryz.underlying68 EI5 (by kernel_rfl) rfl rfl c29925 c29926 (ltn rfl) rfl fun g29927 => ?_
  replace h := iN h
  obtain ⟨c29928, h⟩ := h
  refine va (op_bytesStrB 0 Tryz.underlying68 Tryz.underlying9 Tryz.underlying5 rfl rfl c29928) <| vs rfl <| dt <| VC.ret <| ?_
  obtain rfl := Option.some.inj h
  exact rq 2 rfl ⟨rfl, rfl, rfl⟩

end Go.Proofs.YtipeglbeongfmaaGreat.PJournalCrashes
