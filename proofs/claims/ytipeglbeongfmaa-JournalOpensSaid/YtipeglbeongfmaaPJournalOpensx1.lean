/- Written by a program of this repo: what the program's functions do, each as a Lean function, shown of the loaded code; or a statement's row over that; no condition of its own. -/
import Derived.Test.YtipeglbeongfmaaPJournalOpensx0
namespace Go.Proofs.Ytipeglbeongfmaa.PJournalOpens
open Go Go.RowKit Go.Proofs.YtipeglbeongfmaaV
set_option linter.unusedVariables false
set_option linter.unusedSimpArgs false
set_option maxHeartbeats 4000000
set_option maxRecDepth 100000

theorem tarrylaw05_disk.ok (k : Nat) (l0_0 : List ByteArray) (l0_1 : List S55) (v0_0 : Value) (v0_1 : Value) (r1 : List ByteArray) (r2 : List S55) (h : tarrylaw05_disk.f k l0_0 l0_1 = some (r1, r2)) :
    VCalls Try.prog 7 [.agg #[v0_0, v0_1]] [.row v0_0 1 (l0_0.map enc_str), .row v0_1 2 (l0_1.map enc55)] (fun v G own => ∃ w0 w1 : Value, v = .agg #[w0, w1] ∧ G = [] ∧ own = [(w0, 9, 1, r1.map enc_str), (w1, 56, 2, r2.map enc55)]) := by
  refine VCalls.intro Try.func7 rfl (len rfl) fun E hC hW hD hU => ?_
  unfold tarrylaw05_disk.f at h
  refine sr <| sG (o_box rfl (.agg (.f 0 rfl (.f 1 rfl .nil)))) fun g11 => sG (o_alloc Z25 ZL25) fun g12 => nx <| sG (o_alloc Z25 ZL25) fun g13 => ds <| sr <| va (op_fieldAddr FI25_0 rfl (add_at _ _ _)) <| va (op_load 2 1 rfl rfl TI22 rfl (by decide)) <| va (op_fieldAddr FI25_0 rfl (add_at _ _ _)) <|
   va (op_load 2 1 rfl rfl TI22 rfl (by decide)) <| va (op_len (m := l0_0.length) 0 lenm Try.underlying22 rfl rfl) <| va (op_min rfl rfl) <| ?_
  replace h := iN h
  obtain ⟨c65, h⟩ := h
  replace h := iN h
  obtain ⟨c66, h⟩ := h
  refine sG (o_slice (m := l0_0.length) 0 0 ((mn (l0_0.length : Int) 30).toNat) lenm cutm Try.underlying22 TI9 rfl rfl ⟨rfl, ⟨_, _, rfl, c65, rfl⟩, Nat.zero_le _, tN (a := (mn (l0_0.length : Int) 30)) (b := (l0_0.length : Int)) rfl rfl c66⟩) fun v68 => va (op_len (m := ((l0_0.take ((mn (l0_0.length : Int) 30).toNat)).drop 0).length) 0 lenm Try.underlying22 rfl rfl) <|
   vm rfl <| dt <| VC.block <| VC.nilRow' 9 1 <|
   VC.loop3 (fun (i83 : Int) (v85 : Value) (l86 : List ByteArray) => ⟨59, [(1, pt g11 0), (2, pt g12 0), (3, pt g13 0), (14, v68), (15, iv (((l0_0.take ((mn (l0_0.length : Int) 30).toNat)).drop 0).length : Int)), (16, iv i83)], [.row v68 1 (((l0_0.take ((mn (l0_0.length : Int) 30).toNat)).drop 0).map enc_str), .row v0_0 1 (l0_0.map enc_str), .row v0_1 2 (l0_1.map enc55)], [(g13, 25, [v85, sn]), (g12, 25, [sn, sn]), (g11, 25, [v0_0, v0_1])], [(v85, 9, 1, l86.map enc_str)]⟩) (fun (ml1 : Nat) (i83 : Int) (v85 : Value) (l86 : List ByteArray) => tarrylaw05_disk.l1 k l0_0 l0_1 ml1 i83 l86 = some (r1, r2)) k 0 sn ([] : List ByteArray) [0, 1, 2] [0] h ⟨rfl, ⟨rfl, rfl, rfl, rfl, rfl, rfl, trivial⟩, ⟨⟨0, rfl⟩, ⟨1, rfl⟩, ⟨2, rfl⟩, trivial⟩, rfl, by decide, rfl, by decide⟩ (by intros; simp [tarrylaw05_disk.l1]) <|
   ?_
  clear h
  intro ml1 ihl1 i83 v85 l86 h
  simp only [tarrylaw05_disk.l1] at h
  refine sr <| VL.letter (decide (i83 < (((l0_0.take ((mn (l0_0.length : Int) 30).toNat)).drop 0).length : Int))) fun b102 hb102 => va (op_cmp rfl rfl (congrArg some hb102)) <| ds <| ?_
  replace h := iC h
  rcases h with ⟨c212, h⟩ | ⟨c212, h⟩
  · cases lT c212 hb102
    refine ct <| sk <| sq <| VC.block <| sr <| ?_
    replace h := iN h
    obtain ⟨c213, h⟩ := h
    replace h := bd h
    obtain ⟨x214, hx214, h⟩ := h
    refine VL.open (m := ((l0_0.take ((mn (l0_0.length : Int) 30).toNat)).drop 0).length) 0 lenm rfl (pos_get hx214) <| ?_
    rintro ad215 n216 rfl
    refine va (op_indexAddr Try.underlying22 TI9 rfl rfl c213 (lt_get c213 hx214) rfl) <| va (op_load_row (sz := 1) (o := 0) 0 i83.toNat 1 rfl rfl (get_map hx214) TI9 rfl (by decide)) <| vs rfl <| dt <| ?_
    replace h := iN h
    obtain ⟨c217, h⟩ := h
    replace h := iN h
    obtain ⟨c218, h⟩ := h
    replace h := iN h
    obtain ⟨c221, h⟩ := h
    refine VC.stop2 (fun (v220 : Value) (v222 : Value) => ⟨59, [(1, pt g11 0), (2, pt g12 0), (3, pt g13 0), (5, .string x214), (14, (.slice (some ad215) ((l0_0.take ((mn (l0_0.length : Int) 30).toNat)).drop 0).length n216)), (15, iv (((l0_0.take ((mn (l0_0.length : Int) 30).toNat)).drop 0).length : Int)), (16, iv i83), (17, .bool true), (19, .string x214), (20, pt g13 0), (22, .string x214), (23, .string x214), (24, iv (x214.size : Int)), (25, iv (mn (x214.size : Int) 66)), (26, .string (x214.extract 0 ((mn (x214.size : Int) 66).toNat))), (27, v220), (28, v222), (29, pt g13 0)], [.row (.slice (some ad215) ((l0_0.take ((mn (l0_0.length : Int) 30).toNat)).drop 0).length n216) 1 (((l0_0.take ((mn (l0_0.length : Int) 30).toNat)).drop 0).map enc_str), .row v0_0 1 (l0_0.map enc_str), .row v0_1 2 (l0_1.map enc55)], [(g13, 25, [v222, sn]), (g12, 25, [sn, sn]), (g11, 25, [v0_0, v0_1])], [(v220, 9, 1, ([x214.extract 0 ((mn (x214.size : Int) 66).toNat)] : List ByteArray).map enc_str), (v222, 9, 1, (l86 ++ ([x214.extract 0 ((mn (x214.size : Int) 66).toNat)] : List ByteArray)).map enc_str)]⟩) (fun (v220 : Value) (v222 : Value) => True) ?_ ?_
    · refine VC.drawB ⟨0, [], [], [], []⟩ [8, 10] ⟨0, [], [], [(g13, 25, [v85, sn])], []⟩ (by kernel_rfl) rfl (by kernel_rfl) (n := 11) (listed := LB 11 0) <| bv 0 1 rfl (op_fieldAddr FI25_0 rfl (add_at _ _ _)) <|
       VB.vb (i := 1) (listed' := LB 11 3) rfl (op_load 0 1 rfl rfl TI22 rfl (by decide)) rfl (by kernel_rfl) (by kernel_rfl) (by kernel_rfl) (by kernel_rfl) (by kernel_rfl) (by kernel_rfl) (PartP.on ⟨trivial, trivial, trivial⟩ ⟨trivial, ⟨⟨0, rfl⟩, trivial⟩, trivial⟩) (fun _ _ _ h => h) <|
       bv 2 7 rfl (mv rfl) <| bv 3 15 rfl (mv rfl) <| bv 4 31 rfl (op_lens Try.underlying9 rfl) <| bv 5 63 rfl (op_min rfl rfl) <|
       bv 6 127 rfl (op_sliceS 0 ((mn (x214.size : Int) 66).toNat) Try.underlying9 rfl ⟨rfl, ⟨_, _, rfl, c217, rfl⟩, Nat.zero_le _, tN (a := (mn (x214.size : Int) 66)) (b := (x214.size : Int)) rfl rfl c218⟩ rfl) <|
       VB.oneG (i := 7) (listed' := LB 11 255) (by kernel_rfl) rfl (o_buildSlice (vals := [(0, .string (x214.extract 0 ((mn (x214.size : Int) 66).toNat)))]) (cells := #[.string (x214.extract 0 ((mn (x214.size : Int) 66).toNat))]) (es := List.map enc_str ([x214.extract 0 ((mn (x214.size : Int) 66).toNat)] : List ByteArray)) Try.underlying22 TI9 Z9 rfl (by decide) (by decide) (by kernel_rfl) (by kernel_rfl) rfl (flat_map enc_str_ok _)) rfl (by kernel_rfl) (fun _ => (PartP.on ⟨trivial, trivial, trivial⟩ ⟨trivial, ⟨⟨0, rfl⟩, trivial⟩, trivial⟩)) <|
       ?_
      intro v220
      refine VB.oneG (i := 8) (listed' := LB 11 511) (by kernel_rfl) rfl (o_append 1 appm Try.underlying22 EI9 rfl rfl rfl (.inr ⟨0, _, rfl⟩) (bndm c221)) rfl (by kernel_rfl) (fun _ => (PartP.off (by kernel_rfl) ⟨trivial, trivial, trivial⟩)) <| ?_
      intro v222
      exact bv 9 1023 rfl (op_fieldAddr FI25_0 rfl (add_at _ _ _)) <| VB.one1 (i := 10) (listed' := LB 11 2047) (by kernel_rfl) rfl (o_store 0 1 rfl rfl rfl TI22 (.r 1 rfl) rfl (len rfl)) rfl (by kernel_rfl) (PartP.off (by kernel_rfl) ⟨trivial, trivial, trivial⟩) <| VB.done (by kernel_rfl) <|
       VN.meet2 v220 v222 [0, 1, 2] [0, 1] trivial
    intro v220 v222 _
    refine VN.block <| tr <| va (op_ari64 rfl rfl rfl) <| vm rfl <| dn <| VN.again [0, 1, 2] [1] (ihl1 (wrap64 (i83 + 1)) v222 (l86 ++ ([x214.extract 0 ((mn (x214.size : Int) 66).toNat)] : List ByteArray)) h)
  cases lF c212 hb102
  refine cf <| VC.exit <| VX.then <| VX.then <| VX.hit <| ts <| sr <| va (op_fieldAddr FI25_1 rfl (add_at _ _ _)) <| va (op_load 2 1 rfl rfl TI23 rfl (by decide)) <| va (op_fieldAddr FI25_1 rfl (add_at _ _ _)) <| va (op_load 2 1 rfl rfl TI23 rfl (by decide)) <|
   va (op_len (m := l0_1.length) 2 lenm Try.underlying23 rfl rfl) <| va (op_min rfl rfl) <| ?_
  replace h := iN h
  obtain ⟨c278, h⟩ := h
  replace h := iN h
  obtain ⟨c279, h⟩ := h
  refine sG (o_slice (m := l0_1.length) 2 0 ((mn (l0_1.length : Int) 4).toNat) lenm cutm Try.underlying23 TI56 rfl rfl ⟨rfl, ⟨_, _, rfl, c278, rfl⟩, Nat.zero_le _, tN (a := (mn (l0_1.length : Int) 4)) (b := (l0_1.length : Int)) rfl rfl c279⟩) fun v281 => va (op_len (m := ((l0_1.take ((mn (l0_1.length : Int) 4).toNat)).drop 0).length) 0 lenm Try.underlying23 rfl rfl) <|
   vm rfl <| dt <| VC.block <| VC.nilRow' 56 2 <|
   VC.loop3 (fun (i297 : Int) (v299 : Value) (l300 : List S55) => ⟨59, [(2, pt g12 0), (3, pt g13 0), (37, v281), (38, iv (((l0_1.take ((mn (l0_1.length : Int) 4).toNat)).drop 0).length : Int)), (39, iv i297)], [.row v281 2 (((l0_1.take ((mn (l0_1.length : Int) 4).toNat)).drop 0).map enc55)], [(g13, 25, [v85, v299]), (g12, 25, [sn, sn])], [(v299, 56, 2, l300.map enc55), (v85, 9, 1, l86.map enc_str)]⟩) (fun (ml5 : Nat) (i297 : Int) (v299 : Value) (l300 : List S55) => tarrylaw05_disk.l5 k l0_1 l86 ml5 i297 l300 = some (r1, r2)) k 0 sn ([] : List S55) [0, 1] [0, 1] h ⟨rfl, ⟨rfl, rfl, rfl, rfl, rfl, trivial⟩, ⟨⟨0, rfl⟩, trivial⟩, rfl, by decide, rfl, by decide⟩ (by intros; simp [tarrylaw05_disk.l5]) <|
   ?_
  clear h
  intro ml5 ihl5 i297 v299 l300 h
  simp only [tarrylaw05_disk.l5] at h
  refine sr <| VL.letter (decide (i297 < (((l0_1.take ((mn (l0_1.length : Int) 4).toNat)).drop 0).length : Int))) fun b317 hb317 => va (op_cmp rfl rfl (congrArg some hb317)) <| ds <| ?_
  replace h := iC h
  rcases h with ⟨c319, h⟩ | ⟨c319, h⟩
  · cases lT c319 hb317
    refine ct <| sk <| sq <| VC.block <| sr <| ?_
    replace h := iN h
    obtain ⟨c320, h⟩ := h
    replace h := bd h
    obtain ⟨x321, hx321, h⟩ := h
    refine VL.open (m := ((l0_1.take ((mn (l0_1.length : Int) 4).toNat)).drop 0).length) 0 lenm rfl (pos_get hx321) <| ?_
    rintro ad322 n323 rfl
    refine va (op_indexAddr Try.underlying23 TI56 rfl rfl c320 (lt_get c320 hx321) rfl) <| va (op_load_row (sz := 2) (o := 0) 0 i297.toNat 2 rfl rfl (get_map hx321) TI56 rfl (fun h => absurd h (by decide))) <|
     sG (o_alloc Z56 ZL56) fun g324 => s1 (o_store 0 2 rfl rfl rfl TI56 (.agg (.of rfl)) rfl (len rfl)) <| nx <| va (op_fieldAddr FI56_1 rfl (add_at _ _ _)) <| va (op_load 0 1 rfl rfl TI9 rfl (by decide)) <| va (op_fieldAddr FI56_1 rfl (add_at _ _ _)) <| va (op_load 0 1 rfl rfl TI9 rfl (by decide)) <|
     va (op_lens Try.underlying9 rfl) <| va (op_min rfl rfl) <| ?_
    replace h := iN h
    obtain ⟨c325, h⟩ := h
    replace h := iN h
    obtain ⟨c326, h⟩ := h
    refine va (op_sliceS 0 ((mn (x321.f1.size : Int) 66).toNat) Try.underlying9 rfl ⟨rfl, ⟨_, _, rfl, c325, rfl⟩, Nat.zero_le _, tN (a := (mn (x321.f1.size : Int) 66)) (b := (x321.f1.size : Int)) rfl rfl c326⟩ rfl) <| va (op_fieldAddr FI56_1 rfl (add_at _ _ _)) <|
     s1 (o_store 0 1 rfl rfl rfl TI9 (.c rfl) rfl (len rfl)) <| dr <| va (op_fieldAddr FI25_1 rfl (add_at _ _ _)) <| va (op_load 1 1 rfl rfl TI23 rfl (by decide)) <| va (op_load 0 2 rfl rfl TI56 rfl (fun h => absurd h (by decide))) <|
     sG (o_buildSlice (vals := [(0, .agg #[iv x321.f0, .string (x321.f1.extract 0 ((mn (x321.f1.size : Int) 66).toNat))])]) (cells := #[iv x321.f0, .string (x321.f1.extract 0 ((mn (x321.f1.size : Int) 66).toNat))]) (es := List.map enc55 ([(⟨x321.f0, x321.f1.extract 0 ((mn (x321.f1.size : Int) 66).toNat)⟩ : S55)] : List S55)) Try.underlying23 TI56 Z56 rfl (by decide) (by decide) (by kernel_rfl) (by kernel_rfl) rfl (flat_map enc55_ok _)) fun v328 => ?_
    replace h := iN h
    obtain ⟨c329, h⟩ := h
    refine sG (o_append 1 appm Try.underlying23 EI56 rfl rfl rfl (.inr ⟨0, _, rfl⟩) (bndm c329)) fun v330 => va (op_fieldAddr FI25_1 rfl (add_at _ _ _)) <| s1 (o_store 1 1 rfl rfl rfl TI23 (.r 1 rfl) rfl (len rfl)) <| dn <| VN.block <| tr <| va (op_ari64 rfl rfl rfl) <| vm rfl <| dn <|
     VN.again [1, 2] [1, 2] (ihl5 (wrap64 (i297 + 1)) v330 (l300 ++ ([(⟨x321.f0, x321.f1.extract 0 ((mn (x321.f1.size : Int) 66).toNat)⟩ : S55)] : List S55)) h)
  cases lF c319 hb317
  refine cf <| VC.exit <| VX.then <| VX.then <| VX.hit <| tx <| va (op_load 0 2 rfl rfl TI25 rfl (fun h => absurd h (by decide))) <| s1 (o_store 1 2 rfl rfl rfl TI25 (.agg (.r 1 rfl (.r 0 rfl .nil))) rfl (len rfl)) <| dt <| VC.ret <| ?_
  simp only [Option.some.injEq, Prod.mk.injEq] at h
  obtain ⟨rfl, rfl⟩ := h
  exact rf [.cell 2 25] [1, 0] (.cell 1 rfl rfl TI25 (fun h => absurd h (by decide)) .nil) ⟨v85, v299, rfl, rfl, rfl⟩

theorem tarrylaw05_texts.ok (k : Nat) (l0 : List ByteArray) (a1 : Int) (v0 : Value) (r1 : List ByteArray) (h : tarrylaw05_texts.f k l0 a1 = some r1) :
    VCalls Try.prog 22 [v0, iv a1] [.row v0 1 (l0.map enc_str)] (fun v G own => ∃ w0 : Value, v = w0 ∧ G = [] ∧ own = [(w0, 9, 1, r1.map enc_str)]) := by
  refine VCalls.intro Try.func22 rfl (len rfl) fun E hC hW hD hU => ?_
  unfold tarrylaw05_texts.f at h
  refine sr <| vs rfl <| nx <| vs rfl <| ds <| sr <| vm rfl <| vm rfl <| va (op_len (m := l0.length) 0 lenm Try.underlying22 rfl rfl) <| vm rfl <| va (op_min rfl rfl) <| ?_
  replace h := iN h
  obtain ⟨c404, h⟩ := h
  replace h := iN h
  obtain ⟨c405, h⟩ := h
  refine sG (o_slice (m := l0.length) 0 0 ((mn (l0.length : Int) a1).toNat) lenm cutm Try.underlying22 TI9 rfl rfl ⟨rfl, ⟨_, _, rfl, c404, rfl⟩, Nat.zero_le _, tN (a := (mn (l0.length : Int) a1)) (b := (l0.length : Int)) rfl rfl c405⟩) fun v407 => va (op_len (m := ((l0.take ((mn (l0.length : Int) a1).toNat)).drop 0).length) 0 lenm Try.underlying22 rfl rfl) <|
   vm rfl <| dt <| VC.block <| VC.nilRow' 9 1 <|
   VC.loop3 (fun (v423 : Value) (l424 : List ByteArray) (i426 : Int) => ⟨29, [(4, sn), (5, v423), (13, v407), (14, iv (((l0.take ((mn (l0.length : Int) a1).toNat)).drop 0).length : Int)), (15, iv i426)], [.row v407 1 (((l0.take ((mn (l0.length : Int) a1).toNat)).drop 0).map enc_str)], [], [(v423, 9, 1, l424.map enc_str)]⟩) (fun (ml1 : Nat) (v423 : Value) (l424 : List ByteArray) (i426 : Int) => tarrylaw05_texts.l1 k a1 l0 ml1 l424 i426 = some r1) k sn ([] : List ByteArray) 0 [] [0] h ⟨rfl, ⟨rfl, rfl, rfl, rfl, rfl, trivial⟩, ⟨⟨0, rfl⟩, trivial⟩, rfl, by decide, rfl, by decide⟩ (by intros; simp [tarrylaw05_texts.l1]) <|
   ?_
  clear h
  intro ml1 ihl1 v423 l424 i426 h
  simp only [tarrylaw05_texts.l1] at h
  refine sr <| VL.letter (decide (i426 < (((l0.take ((mn (l0.length : Int) a1).toNat)).drop 0).length : Int))) fun b441 hb441 => va (op_cmp rfl rfl (congrArg some hb441)) <| ds <| ?_
  replace h := iC h
  rcases h with ⟨c443, h⟩ | ⟨c443, h⟩
  · cases lT c443 hb441
    refine ct <| sk <| sq <| VC.block <| sr <| ?_
    replace h := iN h
    obtain ⟨c444, h⟩ := h
    replace h := bd h
    obtain ⟨x445, hx445, h⟩ := h
    refine VL.open (m := ((l0.take ((mn (l0.length : Int) a1).toNat)).drop 0).length) 0 lenm rfl (pos_get hx445) <| ?_
    rintro ad446 n447 rfl
    refine va (op_indexAddr Try.underlying22 TI9 rfl rfl c444 (lt_get c444 hx445) rfl) <| va (op_load_row (sz := 1) (o := 0) 0 i426.toNat 1 rfl rfl (get_map hx445) TI9 rfl (by decide)) <| vs rfl <| dr <| vm rfl <| vm rfl <| vm rfl <| va (op_lens Try.underlying9 rfl) <| va (op_min rfl rfl) <| ?_
    replace h := iN h
    obtain ⟨c448, h⟩ := h
    replace h := iN h
    obtain ⟨c449, h⟩ := h
    refine va (op_sliceS 0 ((mn (x445.size : Int) 1002).toNat) Try.underlying9 rfl ⟨rfl, ⟨_, _, rfl, c448, rfl⟩, Nat.zero_le _, tN (a := (mn (x445.size : Int) 1002)) (b := (x445.size : Int)) rfl rfl c449⟩ rfl) <|
     sG (o_buildSlice (vals := [(0, .string (x445.extract 0 ((mn (x445.size : Int) 1002).toNat)))]) (cells := #[.string (x445.extract 0 ((mn (x445.size : Int) 1002).toNat))]) (es := List.map enc_str ([x445.extract 0 ((mn (x445.size : Int) 1002).toNat)] : List ByteArray)) Try.underlying22 TI9 Z9 rfl (by decide) (by decide) (by kernel_rfl) (by kernel_rfl) rfl (flat_map enc_str_ok _)) fun v451 => ?_
    replace h := iN h
    obtain ⟨c452, h⟩ := h
    refine sG (o_append 1 appm Try.underlying22 EI9 rfl rfl rfl (.inr ⟨0, _, rfl⟩) (bndm c452)) fun v453 => vs rfl <| dn <| VN.block <| tr <| va (op_ari64 rfl rfl rfl) <| vm rfl <| dn <|
     VN.again [] [1] (ihl1 v453 (l424 ++ ([x445.extract 0 ((mn (x445.size : Int) 1002).toNat)] : List ByteArray)) (wrap64 (i426 + 1)) h)
  cases lF c443 hb441
  refine cf <| VC.exit <| VX.then <| VX.then <| VX.hit <| tx <| vm rfl <| vs rfl <| dt <| VC.ret <| ?_
  obtain rfl := Option.some.inj h
  exact rf [.tmp 4] [0] (.tmp rfl .nil) ⟨v423, rfl, rfl, rfl⟩

theorem tarrylaw05_few.ok (k : Nat) (l0_0 : List ByteArray) (l0_1 : List S55) (a0_2 : Int) (a0_3 : Int) (a0_4 : Int) (l0_5 : List ByteArray) (l0_6 : List ByteArray) (v0_0 : Value) (v0_1 : Value) (v0_5 : Value) (v0_6 : Value) (r1 : List ByteArray) (r2 : List S55) (r3 : Int) (r4 : Int) (r5 : Int) (r6 : List ByteArray) (r7 : List ByteArray) (h : tarrylaw05_few.f k l0_0 l0_1 a0_2 a0_3 a0_4 l0_5 l0_6 = some (r1, r2, r3, r4, r5, r6, r7)) :
    VCalls Try.prog 8 [.agg #[v0_0, v0_1, iv a0_2, iv a0_3, iv a0_4, v0_5, v0_6]] [.row v0_0 1 (l0_0.map enc_str), .row v0_1 2 (l0_1.map enc55), .row v0_5 1 (l0_5.map enc_str), .row v0_6 1 (l0_6.map enc_str)] (fun v G own => ∃ w0 w1 w5 w6 : Value, v = .agg #[w0, w1, iv r3, iv r4, iv r5, w5, w6] ∧ G = [] ∧ own = [(w0, 9, 1, r1.map enc_str), (w1, 56, 2, r2.map enc55), (w5, 9, 1, r6.map enc_str), (w6, 9, 1, r7.map enc_str)]) := by
  refine VCalls.intro Try.func8 rfl (len rfl) fun E hC hW hD hU => ?_
  unfold tarrylaw05_few.f at h
  refine sr <| sG (o_box rfl (.agg (.f 0 rfl (.f 1 rfl (.c rfl (.c rfl (.c rfl (.f 2 rfl (.f 3 rfl .nil))))))))) fun g343 => sG (o_alloc Z27 ZL27) fun g344 => dt <| ?_
  replace h := bd h
  obtain ⟨⟨r345, r346⟩, hA347, h⟩ := h
  dsimp only at h
  replace h := bd h
  obtain ⟨r455, hA456, h⟩ := h
  replace h := bd h
  obtain ⟨r459, hA460, h⟩ := h
  refine VC.join4 (fun (v349 : Value) (v351 : Value) (v458 : Value) (v462 : Value) => ⟨19, [(2, pt g344 0)], [], [(g344, 27, [v349, v351, iv a0_2, iv a0_3, iv a0_4, v458, v462])], [(v462, 9, 1, r459.map enc_str), (v458, 9, 1, r455.map enc_str), (v349, 9, 1, r345.map enc_str), (v351, 56, 2, r346.map enc55)]⟩) (fun (v349 : Value) (v351 : Value) (v458 : Value) (v462 : Value) => True) ?_ ?_
  · refine dw ⟨0, [], [], [(g343, 27, [v0_0, v0_1, iv a0_2, iv a0_3, iv a0_4, v0_5, v0_6])], []⟩ 17 <| av 0 1 rfl (op_fieldAddr FI27_0 rfl (add_at _ _ _)) <| av 1 3 rfl (op_load 0 2 rfl rfl TI25 rfl (fun h => absurd h (by decide))) <|
     av 3 11 rfl (op_fieldAddr FI27_1 rfl (add_at _ _ _)) <| av 4 27 rfl (op_load 0 1 rfl rfl TI3 rfl (by decide)) <| av 5 59 rfl (op_fieldAddr FI27_2 rfl (add_at _ _ _)) <| av 6 123 rfl (op_load 0 1 rfl rfl TI3 rfl (by decide)) <| av 7 251 rfl (op_fieldAddr FI27_3 rfl (add_at _ _ _)) <|
     av 8 507 rfl (op_load 0 1 rfl rfl TI3 rfl (by decide)) <| av 9 1019 rfl (op_fieldAddr FI27_4 rfl (add_at _ _ _)) <| av 10 2043 rfl (op_load 0 1 rfl rfl TI22 rfl (by decide)) <| av 12 6139 rfl (op_fieldAddr FI27_5 rfl (add_at _ _ _)) <| av 13 14331 rfl (op_load 0 1 rfl rfl TI22 rfl (by decide)) <|
     aC 2 14335 rfl (o_call0 FO7 (tarrylaw05_disk.ok k l0_0 l0_1 v0_0 v0_1 r345 r346 hA347) rfl rfl (ltn rfl) (All_of (.cons (mG 0 rfl) (.cons (mG 1 rfl) .nil)))) <| ?_
    rintro _ _ _ ⟨v349, v351, rfl, rfl, rfl⟩
    refine ⟨⟨trivial, ⟨⟨1, rfl⟩, trivial⟩, trivial⟩, ?_⟩
    refine aC 11 16383 rfl (o_call0 FO22 (tarrylaw05_texts.ok k l0_5 18 v0_5 r455 hA456) rfl rfl (ltn rfl) (All_of (.cons (mG 2 rfl) .nil))) <| ?_
    rintro v458 _ _ ⟨_, rfl, rfl, rfl⟩
    refine ⟨⟨trivial, ⟨⟨1, rfl⟩, trivial⟩, trivial⟩, ?_⟩
    refine aC 14 32767 rfl (o_call0 FO22 (tarrylaw05_texts.ok k l0_6 60 v0_6 r459 hA460) rfl rfl (ltn rfl) (All_of (.cons (mG 3 rfl) .nil))) <| ?_
    rintro v462 _ _ ⟨_, rfl, rfl, rfl⟩
    refine ⟨⟨trivial, ⟨⟨1, rfl⟩, trivial⟩, trivial⟩, ?_⟩
    exact VA.more ⟨0, [], [], [(g343, 27, [v0_0, v0_1, iv a0_2, iv a0_3, iv a0_4, v0_5, v0_6])], [(v462, 9, 1, r459.map enc_str), (v458, 9, 1, r455.map enc_str), (v349, 9, 1, r345.map enc_str), (v351, 56, 2, r346.map enc55)]⟩ ⟨trivial, ⟨⟨0, rfl⟩, trivial⟩, trivial⟩ <|
     av 15 65535 rfl (op_build (vals := [(0, .agg #[v349, v351]), (1, iv a0_2), (2, iv a0_3), (3, iv a0_4), (4, v458), (5, v462)]) (vcs := [(0, [v349, v351]), (1, [iv a0_2]), (2, [iv a0_3]), (3, [iv a0_4]), (4, [v458]), (5, [v462])]) (cells := [v349, v351, iv a0_2, iv a0_3, iv a0_4, v458, v462]) SI27 rfl (.cons ⟨rfl, (.agg (.r 2 rfl (.r 3 rfl .nil)))⟩ (.cons ⟨rfl, (.c rfl)⟩ (.cons ⟨rfl, (.c rfl)⟩ (.cons ⟨rfl, (.c rfl)⟩ (.cons ⟨rfl, (.r 1 rfl)⟩ (.cons ⟨rfl, (.r 0 rfl)⟩ .nil)))))) (by kernel_rfl)) <|
     aO 16 131071 rfl (o_store 0 7 rfl rfl rfl TI27 (.agg (.r 2 rfl (.r 3 rfl (.c rfl (.c rfl (.c rfl (.r 1 rfl (.r 0 rfl .nil)))))))) rfl (len rfl)) <| ad <| VN.meet4 v349 v351 v458 v462 [0] [0, 1, 2, 3] trivial
  intro v349 v351 v458 v462 _
  refine VC.ret <| ?_
  simp only [Option.some.injEq, Prod.mk.injEq] at h
  obtain ⟨rfl, rfl, rfl, rfl, rfl, rfl, rfl⟩ := h
  exact rf [.cell 2 27] [2, 3, 1, 0] (.cell 0 rfl rfl TI27 (fun h => absurd h (by decide)) .nil) ⟨v349, v351, v458, v462, rfl, rfl, rfl⟩

theorem disk_Right_1.ok (a0 : ByteArray)  (r1 : Bool) (h : disk_Right_1.f a0 = some r1) :
    VCalls Try.prog 51 [.string a0] [] (fun v G own => v = .bool r1 ∧ G = [] ∧ own = []) := by
  refine VCalls.intro Try.func51 rfl (len rfl) fun E hC hW hD hU => ?_
  unfold disk_Right_1.f at h
  refine sr <| vs rfl <| nx <| vm rfl <| va (op_lens Try.underlying9 rfl) <| VL.letter (((a0.size : Int) != 64)) fun b502 hb502 => va (op_cmp rfl rfl (congrArg some hb502)) <| vs rfl <| dt <| VC.ret <| ?_
  obtain rfl := Option.some.inj h
  subst hb502
  exact rq 2 rfl ⟨rfl, rfl, rfl⟩

theorem slices_IndexFunc_string_string.ok (k : Nat) (l0 : List ByteArray) (v0 : Value) (r1 : Int) (h : slices_IndexFunc_string_string.f k l0 = some r1) :
    VCalls Try.prog 74 [v0, (.func (.func 51) #[] #[])] [.row v0 1 (l0.map enc_str)] (fun v G own => v = iv r1 ∧ G = [] ∧ own = []) := by
  refine VCalls.intro Try.func74 rfl (len rfl) fun E hC hW hD hU => ?_
  unfold slices_IndexFunc_string_string.f at h
  refine sr <| vs rfl <| ds <| sr <| vm rfl <| va (op_len (m := l0.length) 0 lenm Try.underlying22 rfl rfl) <| vm rfl <| dt <| VC.block <|
   VC.loop1 (fun (i562 : Int) => ⟨19, [(0, v0), (1, (.func (.func 51) #[] #[])), (4, iv 0), (7, iv (l0.length : Int)), (8, iv i562)], [.row v0 1 (l0.map enc_str)], [], []⟩) (fun (ml1 : Nat) (i562 : Int) => slices_IndexFunc_string_string.l1 k l0 ml1 i562 = some r1) k 0 [] [] h ⟨rfl, ⟨rfl, rfl, rfl, rfl, rfl, trivial⟩, ⟨⟨0, rfl⟩, trivial⟩, rfl, by decide, rfl, by decide⟩ (by intros; simp [slices_IndexFunc_string_string.l1]) <|
   ?_
  clear h
  intro ml1 ihl1 i562 h
  simp only [slices_IndexFunc_string_string.l1] at h
  refine sr <| VL.letter (decide (i562 < (l0.length : Int))) fun b580 hb580 => va (op_cmp rfl rfl (congrArg some hb580)) <| ds <| ?_
  replace h := iC h
  rcases h with ⟨c582, h⟩ | ⟨c582, h⟩
  · cases lT c582 hb580
    refine ct <| sk <| sq <| VC.block <| sr <| vm rfl <| vs rfl <| nx <| vm rfl <| vm rfl <| vm rfl <| ?_
    replace h := iN h
    obtain ⟨c590, h⟩ := h
    replace h := bd h
    obtain ⟨x591, hx591, h⟩ := h
    refine VL.open (m := l0.length) 0 lenm rfl (pos_get hx591) <| ?_
    rintro ad592 n593 rfl
    refine va (op_indexAddr Try.underlying22 TI9 rfl rfl c590 (lt_get c590 hx591) rfl) <| va (op_load_row (sz := 1) (o := 0) 0 i562.toNat 1 rfl rfl (get_map hx591) TI9 rfl (by decide)) <| ?_
    replace h := bd h
    obtain ⟨t594, hA595, h⟩ := h
    refine sC (o_call0 FO51 (disk_Right_1.ok x591 t594 hA595) rfl rfl (ltn rfl) (All_of .nil)) <| ?_
    rintro _ _ _ ⟨rfl, rfl, rfl⟩
    refine dt <| ?_
    replace h := iC h
    rcases h with ⟨c596, h⟩ | ⟨c596, h⟩
    · obtain rfl := c596
      refine ct <| sr <| vm rfl <| vs rfl <| dt <| VC.ret <| VR.block <| VR.then <| VR.then <| VR.block <| VR.then <| ?_
      obtain rfl := Option.some.inj h
      exact rq 4 rfl ⟨rfl, rfl, rfl⟩
    obtain rfl := Bool.eq_false_iff.2 c596
    refine cf <| VC.skip <| VN.block <| tr <| va (op_ari64 rfl rfl rfl) <| vm rfl <| dn <| VN.again [] [] (ihl1 (wrap64 (i562 + 1)) h)
  cases lF c582 hb580
  refine cf <| VC.exit <| VX.then <| VX.then <| VX.hit <| tx <| vs rfl <| dt <| VC.ret <| ?_
  obtain rfl := Option.some.inj h
  exact rq 4 rfl ⟨rfl, rfl, rfl⟩

theorem slices_ContainsFunc_string_string.ok (k : Nat) (l0 : List ByteArray) (v0 : Value) (r1 : Bool) (h : slices_ContainsFunc_string_string.f k l0 = some r1) :
    VCalls Try.prog 53 [v0, (.func (.func 51) #[] #[])] [.row v0 1 (l0.map enc_str)] (fun v G own => v = .bool r1 ∧ G = [] ∧ own = []) := by
  refine VCalls.intro Try.func53 rfl (len rfl) fun E hC hW hD hU => ?_
  unfold slices_ContainsFunc_string_string.f at h
  refine sr <| vs rfl <| nx <| vm rfl <| vm rfl <| ?_
  replace h := bd h
  obtain ⟨t597, hA598, h⟩ := h
  refine sC (o_call0 FO74 (slices_IndexFunc_string_string.ok k l0 v0 t597 hA598) rfl rfl (ltn rfl) (All_of (.cons (mG 0 rfl) .nil))) <| ?_
  rintro _ _ _ ⟨rfl, rfl, rfl⟩
  refine VL.letter (decide (t597 ≥ 0)) fun b599 hb599 => va (op_cmp rfl rfl (congrArg some hb599)) <| vs rfl <| dt <| VC.ret <| ?_
  obtain rfl := Option.some.inj h
  subst hb599
  exact rq 4 rfl ⟨rfl, rfl, rfl⟩

theorem disk_Right_2.ok (a0_0 : Int) (a0_1 : ByteArray) (a1_0 : Int) (p1 : Nat) (p2 : Nat) (r1 : Bool) (h : disk_Right_2.f a0_0 a0_1 a1_0 = some r1) :
    VCalls Try.prog 52 [.agg #[iv a0_0, .string a0_1], pt p1 0, pt p2 0] [.at_ ⟨p1, 0, none⟩ [iv a1_0], .at_ ⟨p2, 0, none⟩ [(.func (.func 51) #[] #[])]] (fun v G own => v = .bool r1 ∧ G = [] ∧ own = []) := by
  refine VCalls.intro Try.func52 rfl (len rfl) fun E hC hW hD hU => ?_
  unfold disk_Right_2.f at h
  refine sr <| sG (o_box rfl (.agg (.of rfl))) fun g611 => vs rfl <| nx <| va (op_fieldAddr FI56_0 rfl (add_at _ _ _)) <| va (op_load 0 1 rfl rfl TI3 rfl (by decide)) <| VL.letter (decide (a0_0 < 0)) fun b618 hb618 => va (op_cmp rfl rfl (congrArg some hb618)) <| vm rfl <| ?_
  replace h := iC h
  rcases h with ⟨c619, h⟩ | ⟨c619, h⟩
  · cases lT c619 hb618
    refine un rfl <| un rfl <| un rfl <| un rfl <| va (op_pick rfl rfl) <| vm rfl <| un rfl <| un rfl <| un rfl <| un rfl <| va (op_pick rfl rfl) <| vs rfl <| dt <| VC.ret <| ?_
    obtain rfl := Option.some.inj h
    exact rq 4 rfl ⟨rfl, rfl, rfl⟩
  cases lF c619 hb618
  refine va (op_fieldAddr FI56_0 rfl (add_at _ _ _)) <| va (op_load 0 1 rfl rfl TI3 rfl (by decide)) <| va (op_load_at (ad := ⟨p1, 0, none⟩) 0 0 1 (by first | rfl | exact congrArg (fun a => some (Value.pointer (some a))) (add_at _ 0 _).symm) rfl TI3 rfl (by decide)) <|
   VL.letter (decide (a0_0 ≥ a1_0)) fun b620 hb620 => va (op_cmp rfl rfl (congrArg some hb620)) <| va (op_pick rfl rfl) <| vm rfl <| ?_
  replace h := iC h
  rcases h with ⟨c621, h⟩ | ⟨c621, h⟩
  · cases lT c621 hb620
    refine un rfl <| un rfl <| un rfl <| un rfl <| va (op_pick rfl rfl) <| vs rfl <| dt <| VC.ret <| ?_
    obtain rfl := Option.some.inj h
    exact rq 4 rfl ⟨rfl, rfl, rfl⟩
  cases lF c621 hb620
  refine va (op_load_at (ad := ⟨p2, 0, none⟩) 1 0 1 (by first | rfl | exact congrArg (fun a => some (Value.pointer (some a))) (add_at _ 0 _).symm) rfl TI87 rfl (by decide)) <| va (op_fieldAddr FI56_1 rfl (add_at _ _ _)) <| va (op_load 0 1 rfl rfl TI9 rfl (by decide)) <| ?_
  replace h := bd h
  obtain ⟨t622, hA623, h⟩ := h
  refine sC (o_call0 FO51 (disk_Right_1.ok a0_1 t622 hA623) rfl rfl (ltn rfl) (All_of .nil)) <| ?_
  rintro _ _ _ ⟨rfl, rfl, rfl⟩
  refine va (op_pick rfl rfl) <| vs rfl <| dt <| VC.ret <| ?_
  obtain rfl := Option.some.inj h
  exact rq 4 rfl ⟨rfl, rfl, rfl⟩

theorem slices_IndexFunc_api_Write_api_Write.ok (k : Nat) (l0 : List S55) (a1_0_0 : Int) (v0 : Value) (p1_0 : Nat) (p1_1 : Nat) (r1 : Int) (h : slices_IndexFunc_api_Write_api_Write.f k l0 a1_0_0 = some r1) :
    VCalls Try.prog 75 [v0, (.func (.func 52) #[] #[pt p1_0 0, pt p1_1 0])] [.row v0 2 (l0.map enc55), .at_ ⟨p1_0, 0, none⟩ [iv a1_0_0], .at_ ⟨p1_1, 0, none⟩ [(.func (.func 51) #[] #[])]] (fun v G own => v = iv r1 ∧ G = [] ∧ own = []) := by
  refine VCalls.intro Try.func75 rfl (len rfl) fun E hC hW hD hU => ?_
  unfold slices_IndexFunc_api_Write_api_Write.f at h
  refine sr <| vs rfl <| ds <| sr <| vm rfl <| va (op_len (m := l0.length) 0 lenm Try.underlying23 rfl rfl) <| vm rfl <| dt <| VC.block <|
   VC.loop1 (fun (i683 : Int) => ⟨19, [(0, v0), (1, (.func (.func 52) #[] #[pt p1_0 0, pt p1_1 0])), (4, iv 0), (7, iv (l0.length : Int)), (8, iv i683)], [.at_ ⟨p1_0, 0, none⟩ [iv a1_0_0], .at_ ⟨p1_1, 0, none⟩ [(.func (.func 51) #[] #[])], .row v0 2 (l0.map enc55)], [], []⟩) (fun (ml1 : Nat) (i683 : Int) => slices_IndexFunc_api_Write_api_Write.l1 k a1_0_0 l0 ml1 i683 = some r1) k 0 [] [] h ⟨rfl, ⟨rfl, rfl, rfl, rfl, rfl, trivial⟩, ⟨⟨1, rfl⟩, ⟨2, rfl⟩, ⟨0, rfl⟩, trivial⟩, rfl, by decide, rfl, by decide⟩ (by intros; simp [slices_IndexFunc_api_Write_api_Write.l1]) <|
   ?_
  clear h
  intro ml1 ihl1 i683 h
  simp only [slices_IndexFunc_api_Write_api_Write.l1] at h
  refine sr <| VL.letter (decide (i683 < (l0.length : Int))) fun b701 hb701 => va (op_cmp rfl rfl (congrArg some hb701)) <| ds <| ?_
  replace h := iC h
  rcases h with ⟨c703, h⟩ | ⟨c703, h⟩
  · cases lT c703 hb701
    refine ct <| sk <| sq <| VC.block <| sr <| vm rfl <| vs rfl <| nx <| vm rfl <| vm rfl <| vm rfl <| ?_
    replace h := iN h
    obtain ⟨c711, h⟩ := h
    replace h := bd h
    obtain ⟨x712, hx712, h⟩ := h
    refine VL.open (m := l0.length) 2 lenm rfl (pos_get hx712) <| ?_
    rintro ad713 n714 rfl
    refine va (op_indexAddr Try.underlying23 TI56 rfl rfl c711 (lt_get c711 hx712) rfl) <| va (op_load_row (sz := 2) (o := 0) 2 i683.toNat 2 rfl rfl (get_map hx712) TI56 rfl (fun h => absurd h (by decide))) <| ?_
    replace h := bd h
    obtain ⟨t715, hA716, h⟩ := h
    refine sC (o_call (vals := [.agg #[iv x712.f0, .string x712.f1]]) (caps := [pt p1_0 0, pt p1_1 0]) FO52 (disk_Right_2.ok x712.f0 x712.f1 a1_0_0 p1_0 p1_1 t715 hA716) rfl rfl (ltn rfl) (All_of (.cons (mG 0 rfl) (.cons (mG 1 rfl) .nil)))) <| ?_
    rintro _ _ _ ⟨rfl, rfl, rfl⟩
    refine dt <| ?_
    replace h := iC h
    rcases h with ⟨c717, h⟩ | ⟨c717, h⟩
    · obtain rfl := c717
      refine ct <| sr <| vm rfl <| vs rfl <| dt <| VC.ret <| VR.block <| VR.then <| VR.then <| VR.block <| VR.then <| ?_
      obtain rfl := Option.some.inj h
      exact rq 4 rfl ⟨rfl, rfl, rfl⟩
    obtain rfl := Bool.eq_false_iff.2 c717
    refine cf <| VC.skip <| VN.block <| tr <| va (op_ari64 rfl rfl rfl) <| vm rfl <| dn <| VN.again [] [] (ihl1 (wrap64 (i683 + 1)) h)
  cases lF c703 hb701
  refine cf <| VC.exit <| VX.then <| VX.then <| VX.hit <| tx <| vs rfl <| dt <| VC.ret <| ?_
  obtain rfl := Option.some.inj h
  exact rq 4 rfl ⟨rfl, rfl, rfl⟩

theorem slices_ContainsFunc_api_Write_api_Write.ok (k : Nat) (l0 : List S55) (a1_0_0 : Int) (v0 : Value) (p1_0 : Nat) (p1_1 : Nat) (r1 : Bool) (h : slices_ContainsFunc_api_Write_api_Write.f k l0 a1_0_0 = some r1) :
    VCalls Try.prog 54 [v0, (.func (.func 52) #[] #[pt p1_0 0, pt p1_1 0])] [.row v0 2 (l0.map enc55), .at_ ⟨p1_0, 0, none⟩ [iv a1_0_0], .at_ ⟨p1_1, 0, none⟩ [(.func (.func 51) #[] #[])]] (fun v G own => v = .bool r1 ∧ G = [] ∧ own = []) := by
  refine VCalls.intro Try.func54 rfl (len rfl) fun E hC hW hD hU => ?_
  unfold slices_ContainsFunc_api_Write_api_Write.f at h
  refine sr <| vs rfl <| nx <| vm rfl <| vm rfl <| ?_
  replace h := bd h
  obtain ⟨t718, hA719, h⟩ := h
  refine sC (o_call0 FO75 (slices_IndexFunc_api_Write_api_Write.ok k l0 a1_0_0 v0 p1_0 p1_1 t718 hA719) rfl rfl (ltn rfl) (All_of (.cons (mG 0 rfl) (.cons (mG 1 rfl) (.cons (mG 2 rfl) .nil))))) <| ?_
  rintro _ _ _ ⟨rfl, rfl, rfl⟩
  refine VL.letter (decide (t718 ≥ 0)) fun b720 hb720 => va (op_cmp rfl rfl (congrArg some hb720)) <| vs rfl <| dt <| VC.ret <| ?_
  obtain rfl := Option.some.inj h
  subst hb720
  exact rq 4 rfl ⟨rfl, rfl, rfl⟩

end Go.Proofs.Ytipeglbeongfmaa.PJournalOpens
