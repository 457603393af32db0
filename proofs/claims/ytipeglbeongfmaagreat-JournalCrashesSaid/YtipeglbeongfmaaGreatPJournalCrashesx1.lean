/- Written by a program of this repo: what the program's functions do, each as a Lean function, shown of the loaded code; or a statement's row over that; no condition of its own. -/
import Derived.Test.YtipeglbeongfmaaGreatPJournalCrashesx0
namespace Go.Proofs.YtipeglbeongfmaaGreat.PJournalCrashes
open Go Go.RowKit Go.Proofs.YtipeglbeongfmaaGreatV
set_option linter.unusedVariables false
set_option linter.unusedSimpArgs false
set_option maxHeartbeats 4000000
set_option maxRecDepth 100000

theorem tarrylaw05_disk.ok (k : Nat) (l0_0 : List ByteArray) (l0_1 : List S71) (v0_0 : Value) (v0_1 : Value) (r1 : List ByteArray) (r2 : List S71) (h : tarrylaw05_disk.f k l0_0 l0_1 = some (r1, r2)) :
    VCalls Tryz.prog 22 [.agg #[v0_0, v0_1]] [.row v0_0 1 (l0_0.map enc_str), .row v0_1 2 (l0_1.map enc71)] (fun v G own => ∃ w0 w1 : Value, v = .agg #[w0, w1] ∧ G = [] ∧ own = [(w0, 9, 1, r1.map enc_str), (w1, 72, 2, r2.map enc71)]) := by
  refine VCalls.intro Tryz.func22 rfl (len rfl) fun E hC hW hD hU => ?_
  unfold tarrylaw05_disk.f at h
  refine sr <| sG (o_box rfl (.agg (.f 0 rfl (.f 1 rfl .nil)))) fun g14 => sG (o_alloc Z25 ZL25) fun g15 => nx <| sG (o_alloc Z25 ZL25) fun g16 => ds <| sr <| va (op_fieldAddr FI25_0 rfl (add_at _ _ _)) <| va (op_load 2 1 rfl rfl TI22 rfl (by decide)) <| va (op_fieldAddr FI25_0 rfl (add_at _ _ _)) <|
   va (op_load 2 1 rfl rfl TI22 rfl (by decide)) <| va (op_len (m := l0_0.length) 0 lenm Tryz.underlying22 rfl rfl) <| va (op_min rfl rfl) <| ?_
  replace h := iN h
  obtain ⟨c68, h⟩ := h
  replace h := iN h
  obtain ⟨c69, h⟩ := h
  refine sG (o_slice (m := l0_0.length) 0 0 ((mn (l0_0.length : Int) 30).toNat) lenm cutm Tryz.underlying22 TI9 rfl rfl ⟨rfl, ⟨_, _, rfl, c68, rfl⟩, Nat.zero_le _, tN (a := (mn (l0_0.length : Int) 30)) (b := (l0_0.length : Int)) rfl rfl c69⟩) fun v71 => va (op_len (m := ((l0_0.take ((mn (l0_0.length : Int) 30).toNat)).drop 0).length) 0 lenm Tryz.underlying22 rfl rfl) <|
   vm rfl <| dt <| VC.block <| VC.nilRow' 9 1 <|
   VC.loop3 (fun (i86 : Int) (v88 : Value) (l89 : List ByteArray) => ⟨59, [(1, pt g14 0), (2, pt g15 0), (3, pt g16 0), (14, v71), (15, iv (((l0_0.take ((mn (l0_0.length : Int) 30).toNat)).drop 0).length : Int)), (16, iv i86)], [.row v71 1 (((l0_0.take ((mn (l0_0.length : Int) 30).toNat)).drop 0).map enc_str), .row v0_0 1 (l0_0.map enc_str), .row v0_1 2 (l0_1.map enc71)], [(g16, 25, [v88, sn]), (g15, 25, [sn, sn]), (g14, 25, [v0_0, v0_1])], [(v88, 9, 1, l89.map enc_str)]⟩) (fun (ml1 : Nat) (i86 : Int) (v88 : Value) (l89 : List ByteArray) => tarrylaw05_disk.l1 k l0_0 l0_1 ml1 i86 l89 = some (r1, r2)) k 0 sn ([] : List ByteArray) [0, 1, 2] [0] h ⟨rfl, ⟨rfl, rfl, rfl, rfl, rfl, rfl, trivial⟩, ⟨⟨0, rfl⟩, ⟨1, rfl⟩, ⟨2, rfl⟩, trivial⟩, rfl, by decide, rfl, by decide⟩ (by intros; simp [tarrylaw05_disk.l1]) <|
   ?_
  clear h
  intro ml1 ihl1 i86 v88 l89 h
  simp only [tarrylaw05_disk.l1] at h
  refine sr <| VL.letter (decide (i86 < (((l0_0.take ((mn (l0_0.length : Int) 30).toNat)).drop 0).length : Int))) fun b105 hb105 => va (op_cmp rfl rfl (congrArg some hb105)) <| ds <| ?_
  replace h := iC h
  rcases h with ⟨c215, h⟩ | ⟨c215, h⟩
  · cases lT c215 hb105
    refine ct <| sk <| sq <| VC.block <| sr <| ?_
    replace h := iN h
    obtain ⟨c216, h⟩ := h
    replace h := bd h
    obtain ⟨x217, hx217, h⟩ := h
    refine VL.open (m := ((l0_0.take ((mn (l0_0.length : Int) 30).toNat)).drop 0).length) 0 lenm rfl (pos_get hx217) <| ?_
    rintro ad218 n219 rfl
    refine va (op_indexAddr Tryz.underlying22 TI9 rfl rfl c216 (lt_get c216 hx217) rfl) <| va (op_load_row (sz := 1) (o := 0) 0 i86.toNat 1 rfl rfl (get_map hx217) TI9 rfl (by decide)) <| vs rfl <| dt <| ?_
    replace h := iN h
    obtain ⟨c220, h⟩ := h
    replace h := iN h
    obtain ⟨c221, h⟩ := h
    replace h := iN h
    obtain ⟨c224, h⟩ := h
    refine VC.stop2 (fun (v223 : Value) (v225 : Value) => ⟨59, [(1, pt g14 0), (2, pt g15 0), (3, pt g16 0), (5, .string x217), (14, (.slice (some ad218) ((l0_0.take ((mn (l0_0.length : Int) 30).toNat)).drop 0).length n219)), (15, iv (((l0_0.take ((mn (l0_0.length : Int) 30).toNat)).drop 0).length : Int)), (16, iv i86), (17, .bool true), (19, .string x217), (20, pt g16 0), (22, .string x217), (23, .string x217), (24, iv (x217.size : Int)), (25, iv (mn (x217.size : Int) 66)), (26, .string (x217.extract 0 ((mn (x217.size : Int) 66).toNat))), (27, v223), (28, v225), (29, pt g16 0)], [.row (.slice (some ad218) ((l0_0.take ((mn (l0_0.length : Int) 30).toNat)).drop 0).length n219) 1 (((l0_0.take ((mn (l0_0.length : Int) 30).toNat)).drop 0).map enc_str), .row v0_0 1 (l0_0.map enc_str), .row v0_1 2 (l0_1.map enc71)], [(g16, 25, [v225, sn]), (g15, 25, [sn, sn]), (g14, 25, [v0_0, v0_1])], [(v223, 9, 1, ([x217.extract 0 ((mn (x217.size : Int) 66).toNat)] : List ByteArray).map enc_str), (v225, 9, 1, (l89 ++ ([x217.extract 0 ((mn (x217.size : Int) 66).toNat)] : List ByteArray)).map enc_str)]⟩) (fun (v223 : Value) (v225 : Value) => True) ?_ ?_
    · refine VC.drawB ⟨0, [], [], [], []⟩ [8, 10] ⟨0, [], [], [(g16, 25, [v88, sn])], []⟩ (by kernel_rfl) rfl (by kernel_rfl) (n := 11) (listed := LB 11 0) <| bv 0 1 rfl (op_fieldAddr FI25_0 rfl (add_at _ _ _)) <|
       VB.vb (i := 1) (listed' := LB 11 3) rfl (op_load 0 1 rfl rfl TI22 rfl (by decide)) rfl (by kernel_rfl) (by kernel_rfl) (by kernel_rfl) (by kernel_rfl) (by kernel_rfl) (by kernel_rfl) (PartP.on ⟨trivial, trivial, trivial⟩ ⟨trivial, ⟨⟨0, rfl⟩, trivial⟩, trivial⟩) (fun _ _ _ h => h) <|
       bv 2 7 rfl (mv rfl) <| bv 3 15 rfl (mv rfl) <| bv 4 31 rfl (op_lens Tryz.underlying9 rfl) <| bv 5 63 rfl (op_min rfl rfl) <|
       bv 6 127 rfl (op_sliceS 0 ((mn (x217.size : Int) 66).toNat) Tryz.underlying9 rfl ⟨rfl, ⟨_, _, rfl, c220, rfl⟩, Nat.zero_le _, tN (a := (mn (x217.size : Int) 66)) (b := (x217.size : Int)) rfl rfl c221⟩ rfl) <|
       VB.oneG (i := 7) (listed' := LB 11 255) (by kernel_rfl) rfl (o_buildSlice (vals := [(0, .string (x217.extract 0 ((mn (x217.size : Int) 66).toNat)))]) (cells := #[.string (x217.extract 0 ((mn (x217.size : Int) 66).toNat))]) (es := List.map enc_str ([x217.extract 0 ((mn (x217.size : Int) 66).toNat)] : List ByteArray)) Tryz.underlying22 TI9 Z9 rfl (by decide) (by decide) (by kernel_rfl) (by kernel_rfl) rfl (flat_map enc_str_ok _)) rfl (by kernel_rfl) (fun _ => (PartP.on ⟨trivial, trivial, trivial⟩ ⟨trivial, ⟨⟨0, rfl⟩, trivial⟩, trivial⟩)) <|
       ?_
      intro v223
      refine VB.oneG (i := 8) (listed' := LB 11 511) (by kernel_rfl) rfl (o_append 1 appm Tryz.underlying22 EI9 rfl rfl rfl (.inr ⟨0, _, rfl⟩) (bndm c224)) rfl (by kernel_rfl) (fun _ => (PartP.off (by kernel_rfl) ⟨trivial, trivial, trivial⟩)) <| ?_
      intro v225
      exact bv 9 1023 rfl (op_fieldAddr FI25_0 rfl (add_at _ _ _)) <| VB.one1 (i := 10) (listed' := LB 11 2047) (by kernel_rfl) rfl (o_store 0 1 rfl rfl rfl TI22 (.r 1 rfl) rfl (len rfl)) rfl (by kernel_rfl) (PartP.off (by kernel_rfl) ⟨trivial, trivial, trivial⟩) <| VB.done (by kernel_rfl) <|
       VN.meet2 v223 v225 [0, 1, 2] [0, 1] trivial
    intro v223 v225 _
    refine VN.block <| tr <| va (op_ari64 rfl rfl rfl) <| vm rfl <| dn <| VN.again [0, 1, 2] [1] (ihl1 (wrap64 (i86 + 1)) v225 (l89 ++ ([x217.extract 0 ((mn (x217.size : Int) 66).toNat)] : List ByteArray)) h)
  cases lF c215 hb105
  refine cf <| VC.exit <| VX.then <| VX.then <| VX.hit <| ts <| sr <| va (op_fieldAddr FI25_1 rfl (add_at _ _ _)) <| va (op_load 2 1 rfl rfl TI23 rfl (by decide)) <| va (op_fieldAddr FI25_1 rfl (add_at _ _ _)) <| va (op_load 2 1 rfl rfl TI23 rfl (by decide)) <|
   va (op_len (m := l0_1.length) 2 lenm Tryz.underlying23 rfl rfl) <| va (op_min rfl rfl) <| ?_
  replace h := iN h
  obtain ⟨c281, h⟩ := h
  replace h := iN h
  obtain ⟨c282, h⟩ := h
  refine sG (o_slice (m := l0_1.length) 2 0 ((mn (l0_1.length : Int) 4).toNat) lenm cutm Tryz.underlying23 TI72 rfl rfl ⟨rfl, ⟨_, _, rfl, c281, rfl⟩, Nat.zero_le _, tN (a := (mn (l0_1.length : Int) 4)) (b := (l0_1.length : Int)) rfl rfl c282⟩) fun v284 => va (op_len (m := ((l0_1.take ((mn (l0_1.length : Int) 4).toNat)).drop 0).length) 0 lenm Tryz.underlying23 rfl rfl) <|
   vm rfl <| dt <| VC.block <| VC.nilRow' 72 2 <|
   VC.loop3 (fun (i300 : Int) (v302 : Value) (l303 : List S71) => ⟨59, [(2, pt g15 0), (3, pt g16 0), (37, v284), (38, iv (((l0_1.take ((mn (l0_1.length : Int) 4).toNat)).drop 0).length : Int)), (39, iv i300)], [.row v284 2 (((l0_1.take ((mn (l0_1.length : Int) 4).toNat)).drop 0).map enc71)], [(g16, 25, [v88, v302]), (g15, 25, [sn, sn])], [(v302, 72, 2, l303.map enc71), (v88, 9, 1, l89.map enc_str)]⟩) (fun (ml5 : Nat) (i300 : Int) (v302 : Value) (l303 : List S71) => tarrylaw05_disk.l5 k l0_1 l89 ml5 i300 l303 = some (r1, r2)) k 0 sn ([] : List S71) [0, 1] [0, 1] h ⟨rfl, ⟨rfl, rfl, rfl, rfl, rfl, trivial⟩, ⟨⟨0, rfl⟩, trivial⟩, rfl, by decide, rfl, by decide⟩ (by intros; simp [tarrylaw05_disk.l5]) <|
   ?_
  clear h
  intro ml5 ihl5 i300 v302 l303 h
  simp only [tarrylaw05_disk.l5] at h
  refine sr <| VL.letter (decide (i300 < (((l0_1.take ((mn (l0_1.length : Int) 4).toNat)).drop 0).length : Int))) fun b320 hb320 => va (op_cmp rfl rfl (congrArg some hb320)) <| ds <| ?_
  replace h := iC h
  rcases h with ⟨c322, h⟩ | ⟨c322, h⟩
  · cases lT c322 hb320
    refine ct <| sk <| sq <| VC.block <| sr <| ?_
    replace h := iN h
    obtain ⟨c323, h⟩ := h
    replace h := bd h
    obtain ⟨x324, hx324, h⟩ := h
    refine VL.open (m := ((l0_1.take ((mn (l0_1.length : Int) 4).toNat)).drop 0).length) 0 lenm rfl (pos_get hx324) <| ?_
    rintro ad325 n326 rfl
    refine va (op_indexAddr Tryz.underlying23 TI72 rfl rfl c323 (lt_get c323 hx324) rfl) <| va (op_load_row (sz := 2) (o := 0) 0 i300.toNat 2 rfl rfl (get_map hx324) TI72 rfl (fun h => absurd h (by decide))) <|
     sG (o_alloc Z72 ZL72) fun g327 => s1 (o_store 0 2 rfl rfl rfl TI72 (.agg (.of rfl)) rfl (len rfl)) <| nx <| va (op_fieldAddr FI72_1 rfl (add_at _ _ _)) <| va (op_load 0 1 rfl rfl TI9 rfl (by decide)) <| va (op_fieldAddr FI72_1 rfl (add_at _ _ _)) <| va (op_load 0 1 rfl rfl TI9 rfl (by decide)) <|
     va (op_lens Tryz.underlying9 rfl) <| va (op_min rfl rfl) <| ?_
    replace h := iN h
    obtain ⟨c328, h⟩ := h
    replace h := iN h
    obtain ⟨c329, h⟩ := h
    refine va (op_sliceS 0 ((mn (x324.f1.size : Int) 66).toNat) Tryz.underlying9 rfl ⟨rfl, ⟨_, _, rfl, c328, rfl⟩, Nat.zero_le _, tN (a := (mn (x324.f1.size : Int) 66)) (b := (x324.f1.size : Int)) rfl rfl c329⟩ rfl) <| va (op_fieldAddr FI72_1 rfl (add_at _ _ _)) <|
     s1 (o_store 0 1 rfl rfl rfl TI9 (.c rfl) rfl (len rfl)) <| dr <| va (op_fieldAddr FI25_1 rfl (add_at _ _ _)) <| va (op_load 1 1 rfl rfl TI23 rfl (by decide)) <| va (op_load 0 2 rfl rfl TI72 rfl (fun h => absurd h (by decide))) <|
     sG (o_buildSlice (vals := [(0, .agg #[iv x324.f0, .string (x324.f1.extract 0 ((mn (x324.f1.size : Int) 66).toNat))])]) (cells := #[iv x324.f0, .string (x324.f1.extract 0 ((mn (x324.f1.size : Int) 66).toNat))]) (es := List.map enc71 ([(⟨x324.f0, x324.f1.extract 0 ((mn (x324.f1.size : Int) 66).toNat)⟩ : S71)] : List S71)) Tryz.underlying23 TI72 Z72 rfl (by decide) (by decide) (by kernel_rfl) (by kernel_rfl) rfl (flat_map enc71_ok _)) fun v331 => ?_
    replace h := iN h
    obtain ⟨c332, h⟩ := h
    refine sG (o_append 1 appm Tryz.underlying23 EI72 rfl rfl rfl (.inr ⟨0, _, rfl⟩) (bndm c332)) fun v333 => va (op_fieldAddr FI25_1 rfl (add_at _ _ _)) <| s1 (o_store 1 1 rfl rfl rfl TI23 (.r 1 rfl) rfl (len rfl)) <| dn <| VN.block <| tr <| va (op_ari64 rfl rfl rfl) <| vm rfl <| dn <|
     VN.again [1, 2] [1, 2] (ihl5 (wrap64 (i300 + 1)) v333 (l303 ++ ([(⟨x324.f0, x324.f1.extract 0 ((mn (x324.f1.size : Int) 66).toNat)⟩ : S71)] : List S71)) h)
  cases lF c322 hb320
  refine cf <| VC.exit <| VX.then <| VX.then <| VX.hit <| tx <| va (op_load 0 2 rfl rfl TI25 rfl (fun h => absurd h (by decide))) <| s1 (o_store 1 2 rfl rfl rfl TI25 (.agg (.r 1 rfl (.r 0 rfl .nil))) rfl (len rfl)) <| dt <| VC.ret <| ?_
  simp only [Option.some.injEq, Prod.mk.injEq] at h
  obtain ⟨rfl, rfl⟩ := h
  exact rf [.cell 2 25] [1, 0] (.cell 1 rfl rfl TI25 (fun h => absurd h (by decide)) .nil) ⟨v88, v302, rfl, rfl, rfl⟩

theorem tarrylaw05_texts.ok (k : Nat) (l0 : List ByteArray) (a1 : Int) (v0 : Value) (r1 : List ByteArray) (h : tarrylaw05_texts.f k l0 a1 = some r1) :
    VCalls Tryz.prog 23 [v0, iv a1] [.row v0 1 (l0.map enc_str)] (fun v G own => ∃ w0 : Value, v = w0 ∧ G = [] ∧ own = [(w0, 9, 1, r1.map enc_str)]) := by
  refine VCalls.intro Tryz.func23 rfl (len rfl) fun E hC hW hD hU => ?_
  unfold tarrylaw05_texts.f at h
  refine sr <| vs rfl <| nx <| vs rfl <| ds <| sr <| vm rfl <| vm rfl <| va (op_len (m := l0.length) 0 lenm Tryz.underlying22 rfl rfl) <| vm rfl <| va (op_min rfl rfl) <| ?_
  replace h := iN h
  obtain ⟨c394, h⟩ := h
  replace h := iN h
  obtain ⟨c395, h⟩ := h
  refine sG (o_slice (m := l0.length) 0 0 ((mn (l0.length : Int) a1).toNat) lenm cutm Tryz.underlying22 TI9 rfl rfl ⟨rfl, ⟨_, _, rfl, c394, rfl⟩, Nat.zero_le _, tN (a := (mn (l0.length : Int) a1)) (b := (l0.length : Int)) rfl rfl c395⟩) fun v397 => va (op_len (m := ((l0.take ((mn (l0.length : Int) a1).toNat)).drop 0).length) 0 lenm Tryz.underlying22 rfl rfl) <|
   vm rfl <| dt <| VC.block <| VC.nilRow' 9 1 <|
   VC.loop3 (fun (v413 : Value) (l414 : List ByteArray) (i416 : Int) => ⟨29, [(4, sn), (5, v413), (13, v397), (14, iv (((l0.take ((mn (l0.length : Int) a1).toNat)).drop 0).length : Int)), (15, iv i416)], [.row v397 1 (((l0.take ((mn (l0.length : Int) a1).toNat)).drop 0).map enc_str)], [], [(v413, 9, 1, l414.map enc_str)]⟩) (fun (ml1 : Nat) (v413 : Value) (l414 : List ByteArray) (i416 : Int) => tarrylaw05_texts.l1 k a1 l0 ml1 l414 i416 = some r1) k sn ([] : List ByteArray) 0 [] [0] h ⟨rfl, ⟨rfl, rfl, rfl, rfl, rfl, trivial⟩, ⟨⟨0, rfl⟩, trivial⟩, rfl, by decide, rfl, by decide⟩ (by intros; simp [tarrylaw05_texts.l1]) <|
   ?_
  clear h
  intro ml1 ihl1 v413 l414 i416 h
  simp only [tarrylaw05_texts.l1] at h
  refine sr <| VL.letter (decide (i416 < (((l0.take ((mn (l0.length : Int) a1).toNat)).drop 0).length : Int))) fun b431 hb431 => va (op_cmp rfl rfl (congrArg some hb431)) <| ds <| ?_
  replace h := iC h
  rcases h with ⟨c433, h⟩ | ⟨c433, h⟩
  · cases lT c433 hb431
    refine ct <| sk <| sq <| VC.block <| sr <| ?_
    replace h := iN h
    obtain ⟨c434, h⟩ := h
    replace h := bd h
    obtain ⟨x435, hx435, h⟩ := h
    refine VL.open (m := ((l0.take ((mn (l0.length : Int) a1).toNat)).drop 0).length) 0 lenm rfl (pos_get hx435) <| ?_
    rintro ad436 n437 rfl
    refine va (op_indexAddr Tryz.underlying22 TI9 rfl rfl c434 (lt_get c434 hx435) rfl) <| va (op_load_row (sz := 1) (o := 0) 0 i416.toNat 1 rfl rfl (get_map hx435) TI9 rfl (by decide)) <| vs rfl <| dr <| vm rfl <| vm rfl <| vm rfl <| va (op_lens Tryz.underlying9 rfl) <| va (op_min rfl rfl) <| ?_
    replace h := iN h
    obtain ⟨c438, h⟩ := h
    replace h := iN h
    obtain ⟨c439, h⟩ := h
    refine va (op_sliceS 0 ((mn (x435.size : Int) 1002).toNat) Tryz.underlying9 rfl ⟨rfl, ⟨_, _, rfl, c438, rfl⟩, Nat.zero_le _, tN (a := (mn (x435.size : Int) 1002)) (b := (x435.size : Int)) rfl rfl c439⟩ rfl) <|
     sG (o_buildSlice (vals := [(0, .string (x435.extract 0 ((mn (x435.size : Int) 1002).toNat)))]) (cells := #[.string (x435.extract 0 ((mn (x435.size : Int) 1002).toNat))]) (es := List.map enc_str ([x435.extract 0 ((mn (x435.size : Int) 1002).toNat)] : List ByteArray)) Tryz.underlying22 TI9 Z9 rfl (by decide) (by decide) (by kernel_rfl) (by kernel_rfl) rfl (flat_map enc_str_ok _)) fun v441 => ?_
    replace h := iN h
    obtain ⟨c442, h⟩ := h
    refine sG (o_append 1 appm Tryz.underlying22 EI9 rfl rfl rfl (.inr ⟨0, _, rfl⟩) (bndm c442)) fun v443 => vs rfl <| dn <| VN.block <| tr <| va (op_ari64 rfl rfl rfl) <| vm rfl <| dn <|
     VN.again [] [1] (ihl1 v443 (l414 ++ ([x435.extract 0 ((mn (x435.size : Int) 1002).toNat)] : List ByteArray)) (wrap64 (i416 + 1)) h)
  cases lF c433 hb431
  refine cf <| VC.exit <| VX.then <| VX.then <| VX.hit <| tx <| vm rfl <| vs rfl <| dt <| VC.ret <| ?_
  obtain rfl := Option.some.inj h
  exact rf [.tmp 4] [0] (.tmp rfl .nil) ⟨v413, rfl, rfl, rfl⟩

theorem tarrylaw05_few.ok (k : Nat) (l0_0 : List ByteArray) (l0_1 : List S71) (a0_2 : Int) (a0_3 : Int) (a0_4 : Int) (l0_5 : List ByteArray) (l0_6 : List ByteArray) (v0_0 : Value) (v0_1 : Value) (v0_5 : Value) (v0_6 : Value) (r1 : List ByteArray) (r2 : List S71) (r3 : Int) (r4 : Int) (r5 : Int) (r6 : List ByteArray) (r7 : List ByteArray) (h : tarrylaw05_few.f k l0_0 l0_1 a0_2 a0_3 a0_4 l0_5 l0_6 = some (r1, r2, r3, r4, r5, r6, r7)) :
    VCalls Tryz.prog 5 [.agg #[v0_0, v0_1, iv a0_2, iv a0_3, iv a0_4, v0_5, v0_6]] [.row v0_0 1 (l0_0.map enc_str), .row v0_1 2 (l0_1.map enc71), .row v0_5 1 (l0_5.map enc_str), .row v0_6 1 (l0_6.map enc_str)] (fun v G own => ∃ w0 w1 w5 w6 : Value, v = .agg #[w0, w1, iv r3, iv r4, iv r5, w5, w6] ∧ G = [] ∧ own = [(w0, 9, 1, r1.map enc_str), (w1, 72, 2, r2.map enc71), (w5, 9, 1, r6.map enc_str), (w6, 9, 1, r7.map enc_str)]) := by
  refine VCalls.intro Tryz.func5 rfl (len rfl) fun E hC hW hD hU => ?_
  unfold tarrylaw05_few.f at h
  refine sr <| sG (o_box rfl (.agg (.f 0 rfl (.f 1 rfl (.c rfl (.c rfl (.c rfl (.f 2 rfl (.f 3 rfl .nil))))))))) fun g10 => sG (o_alloc Z27 ZL27) fun g11 => dt <| ?_
  replace h := bd h
  obtain ⟨⟨r335, r336⟩, hA337, h⟩ := h
  dsimp only at h
  replace h := bd h
  obtain ⟨r445, hA446, h⟩ := h
  replace h := bd h
  obtain ⟨r449, hA450, h⟩ := h
  refine VC.join4 (fun (v339 : Value) (v341 : Value) (v448 : Value) (v452 : Value) => ⟨19, [(2, pt g11 0)], [], [(g11, 27, [v339, v341, iv a0_2, iv a0_3, iv a0_4, v448, v452])], [(v452, 9, 1, r449.map enc_str), (v448, 9, 1, r445.map enc_str), (v339, 9, 1, r335.map enc_str), (v341, 72, 2, r336.map enc71)]⟩) (fun (v339 : Value) (v341 : Value) (v448 : Value) (v452 : Value) => True) ?_ ?_
  · refine dw ⟨0, [], [], [(g10, 27, [v0_0, v0_1, iv a0_2, iv a0_3, iv a0_4, v0_5, v0_6])], []⟩ 17 <| av 0 1 rfl (op_fieldAddr FI27_0 rfl (add_at _ _ _)) <| av 1 3 rfl (op_load 0 2 rfl rfl TI25 rfl (fun h => absurd h (by decide))) <|
     av 3 11 rfl (op_fieldAddr FI27_1 rfl (add_at _ _ _)) <| av 4 27 rfl (op_load 0 1 rfl rfl TI3 rfl (by decide)) <| av 5 59 rfl (op_fieldAddr FI27_2 rfl (add_at _ _ _)) <| av 6 123 rfl (op_load 0 1 rfl rfl TI3 rfl (by decide)) <| av 7 251 rfl (op_fieldAddr FI27_3 rfl (add_at _ _ _)) <|
     av 8 507 rfl (op_load 0 1 rfl rfl TI3 rfl (by decide)) <| av 9 1019 rfl (op_fieldAddr FI27_4 rfl (add_at _ _ _)) <| av 10 2043 rfl (op_load 0 1 rfl rfl TI22 rfl (by decide)) <| av 12 6139 rfl (op_fieldAddr FI27_5 rfl (add_at _ _ _)) <| av 13 14331 rfl (op_load 0 1 rfl rfl TI22 rfl (by decide)) <|
     aC 2 14335 rfl (o_call0 FO22 (tarrylaw05_disk.ok k l0_0 l0_1 v0_0 v0_1 r335 r336 hA337) rfl rfl (ltn rfl) (All_of (.cons (mG 0 rfl) (.cons (mG 1 rfl) .nil)))) <| ?_
    rintro _ _ _ ⟨v339, v341, rfl, rfl, rfl⟩
    refine ⟨⟨trivial, ⟨⟨1, rfl⟩, trivial⟩, trivial⟩, ?_⟩
    refine aC 11 16383 rfl (o_call0 FO23 (tarrylaw05_texts.ok k l0_5 18 v0_5 r445 hA446) rfl rfl (ltn rfl) (All_of (.cons (mG 2 rfl) .nil))) <| ?_
    rintro v448 _ _ ⟨_, rfl, rfl, rfl⟩
    refine ⟨⟨trivial, ⟨⟨1, rfl⟩, trivial⟩, trivial⟩, ?_⟩
    refine aC 14 32767 rfl (o_call0 FO23 (tarrylaw05_texts.ok k l0_6 60 v0_6 r449 hA450) rfl rfl (ltn rfl) (All_of (.cons (mG 3 rfl) .nil))) <| ?_
    rintro v452 _ _ ⟨_, rfl, rfl, rfl⟩
    refine ⟨⟨trivial, ⟨⟨1, rfl⟩, trivial⟩, trivial⟩, ?_⟩
    exact VA.more ⟨0, [], [], [(g10, 27, [v0_0, v0_1, iv a0_2, iv a0_3, iv a0_4, v0_5, v0_6])], [(v452, 9, 1, r449.map enc_str), (v448, 9, 1, r445.map enc_str), (v339, 9, 1, r335.map enc_str), (v341, 72, 2, r336.map enc71)]⟩ ⟨trivial, ⟨⟨0, rfl⟩, trivial⟩, trivial⟩ <|
     av 15 65535 rfl (op_build (vals := [(0, .agg #[v339, v341]), (1, iv a0_2), (2, iv a0_3), (3, iv a0_4), (4, v448), (5, v452)]) (vcs := [(0, [v339, v341]), (1, [iv a0_2]), (2, [iv a0_3]), (3, [iv a0_4]), (4, [v448]), (5, [v452])]) (cells := [v339, v341, iv a0_2, iv a0_3, iv a0_4, v448, v452]) SI27 rfl (.cons ⟨rfl, (.agg (.r 2 rfl (.r 3 rfl .nil)))⟩ (.cons ⟨rfl, (.c rfl)⟩ (.cons ⟨rfl, (.c rfl)⟩ (.cons ⟨rfl, (.c rfl)⟩ (.cons ⟨rfl, (.r 1 rfl)⟩ (.cons ⟨rfl, (.r 0 rfl)⟩ .nil)))))) (by kernel_rfl)) <|
     aO 16 131071 rfl (o_store 0 7 rfl rfl rfl TI27 (.agg (.r 2 rfl (.r 3 rfl (.c rfl (.c rfl (.c rfl (.r 1 rfl (.r 0 rfl .nil)))))))) rfl (len rfl)) <| ad <| VN.meet4 v339 v341 v448 v452 [0] [0, 1, 2, 3] trivial
  intro v339 v341 v448 v452 _
  refine VC.ret <| ?_
  simp only [Option.some.injEq, Prod.mk.injEq] at h
  obtain ⟨rfl, rfl, rfl, rfl, rfl, rfl, rfl⟩ := h
  exact rf [.cell 2 27] [2, 3, 1, 0] (.cell 0 rfl rfl TI27 (fun h => absurd h (by decide)) .nil) ⟨v339, v341, v448, v452, rfl, rfl, rfl⟩

theorem disk_Right_1.ok (a0 : ByteArray)  (r1 : Bool) (h : disk_Right_1.f a0 = some r1) :
    VCalls Tryz.prog 86 [.string a0] [] (fun v G own => v = .bool r1 ∧ G = [] ∧ own = []) := by
  refine VCalls.intro Tryz.func86 rfl (len rfl) fun E hC hW hD hU => ?_
  unfold disk_Right_1.f at h
  refine sr <| vs rfl <| nx <| vm rfl <| va (op_lens Tryz.underlying9 rfl) <| VL.letter (((a0.size : Int) != 64)) fun b505 hb505 => va (op_cmp rfl rfl (congrArg some hb505)) <| vs rfl <| dt <| VC.ret <| ?_
  obtain rfl := Option.some.inj h
  subst hb505
  exact rq 2 rfl ⟨rfl, rfl, rfl⟩

theorem slices_IndexFunc_string_string.ok (k : Nat) (l0 : List ByteArray) (v0 : Value) (r1 : Int) (h : slices_IndexFunc_string_string.f k l0 = some r1) :
    VCalls Tryz.prog 71 [v0, (.func (.func 86) #[] #[])] [.row v0 1 (l0.map enc_str)] (fun v G own => v = iv r1 ∧ G = [] ∧ own = []) := by
  refine VCalls.intro Tryz.func71 rfl (len rfl) fun E hC hW hD hU => ?_
  unfold slices_IndexFunc_string_string.f at h
  refine sr <| vs rfl <| ds <| sr <| vm rfl <| va (op_len (m := l0.length) 0 lenm Tryz.underlying22 rfl rfl) <| vm rfl <| dt <| VC.block <|
   VC.loop1 (fun (i565 : Int) => ⟨19, [(0, v0), (1, (.func (.func 86) #[] #[])), (4, iv 0), (7, iv (l0.length : Int)), (8, iv i565)], [.row v0 1 (l0.map enc_str)], [], []⟩) (fun (ml1 : Nat) (i565 : Int) => slices_IndexFunc_string_string.l1 k l0 ml1 i565 = some r1) k 0 [] [] h ⟨rfl, ⟨rfl, rfl, rfl, rfl, rfl, trivial⟩, ⟨⟨0, rfl⟩, trivial⟩, rfl, by decide, rfl, by decide⟩ (by intros; simp [slices_IndexFunc_string_string.l1]) <|
   ?_
  clear h
  intro ml1 ihl1 i565 h
  simp only [slices_IndexFunc_string_string.l1] at h
  refine sr <| VL.letter (decide (i565 < (l0.length : Int))) fun b583 hb583 => va (op_cmp rfl rfl (congrArg some hb583)) <| ds <| ?_
  replace h := iC h
  rcases h with ⟨c585, h⟩ | ⟨c585, h⟩
  · cases lT c585 hb583
    refine ct <| sk <| sq <| VC.block <| sr <| vm rfl <| vs rfl <| nx <| vm rfl <| vm rfl <| vm rfl <| ?_
    replace h := iN h
    obtain ⟨c593, h⟩ := h
    replace h := bd h
    obtain ⟨x594, hx594, h⟩ := h
    refine VL.open (m := l0.length) 0 lenm rfl (pos_get hx594) <| ?_
    rintro ad595 n596 rfl
    refine va (op_indexAddr Tryz.underlying22 TI9 rfl rfl c593 (lt_get c593 hx594) rfl) <| va (op_load_row (sz := 1) (o := 0) 0 i565.toNat 1 rfl rfl (get_map hx594) TI9 rfl (by decide)) <| ?_
    replace h := bd h
    obtain ⟨t597, hA598, h⟩ := h
    refine sC (o_call0 FO86 (disk_Right_1.ok x594 t597 hA598) rfl rfl (ltn rfl) (All_of .nil)) <| ?_
    rintro _ _ _ ⟨rfl, rfl, rfl⟩
    refine dt <| ?_
    replace h := iC h
    rcases h with ⟨c599, h⟩ | ⟨c599, h⟩
    · obtain rfl := c599
      refine ct <| sr <| vm rfl <| vs rfl <| dt <| VC.ret <| VR.block <| VR.then <| VR.then <| VR.block <| VR.then <| ?_
      obtain rfl := Option.some.inj h
      exact rq 4 rfl ⟨rfl, rfl, rfl⟩
    obtain rfl := Bool.eq_false_iff.2 c599
    refine cf <| VC.skip <| VN.block <| tr <| va (op_ari64 rfl rfl rfl) <| vm rfl <| dn <| VN.again [] [] (ihl1 (wrap64 (i565 + 1)) h)
  cases lF c585 hb583
  refine cf <| VC.exit <| VX.then <| VX.then <| VX.hit <| tx <| vs rfl <| dt <| VC.ret <| ?_
  obtain rfl := Option.some.inj h
  exact rq 4 rfl ⟨rfl, rfl, rfl⟩

theorem slices_ContainsFunc_string_string.ok (k : Nat) (l0 : List ByteArray) (v0 : Value) (r1 : Bool) (h : slices_ContainsFunc_string_string.f k l0 = some r1) :
    VCalls Tryz.prog 48 [v0, (.func (.func 86) #[] #[])] [.row v0 1 (l0.map enc_str)] (fun v G own => v = .bool r1 ∧ G = [] ∧ own = []) := by
  refine VCalls.intro Tryz.func48 rfl (len rfl) fun E hC hW hD hU => ?_
  unfold slices_ContainsFunc_string_string.f at h
  refine sr <| vs rfl <| nx <| vm rfl <| vm rfl <| ?_
  replace h := bd h
  obtain ⟨t600, hA601, h⟩ := h
  refine sC (o_call0 FO71 (slices_IndexFunc_string_string.ok k l0 v0 t600 hA601) rfl rfl (ltn rfl) (All_of (.cons (mG 0 rfl) .nil))) <| ?_
  rintro _ _ _ ⟨rfl, rfl, rfl⟩
  refine VL.letter (decide (t600 ≥ 0)) fun b602 hb602 => va (op_cmp rfl rfl (congrArg some hb602)) <| vs rfl <| dt <| VC.ret <| ?_
  obtain rfl := Option.some.inj h
  subst hb602
  exact rq 4 rfl ⟨rfl, rfl, rfl⟩

theorem disk_Right_2.ok (a0_0 : Int) (a0_1 : ByteArray) (a1_0 : Int) (p1 : Nat) (p2 : Nat) (r1 : Bool) (h : disk_Right_2.f a0_0 a0_1 a1_0 = some r1) :
    VCalls Tryz.prog 87 [.agg #[iv a0_0, .string a0_1], pt p1 0, pt p2 0] [.at_ ⟨p1, 0, none⟩ [iv a1_0], .at_ ⟨p2, 0, none⟩ [(.func (.func 86) #[] #[])]] (fun v G own => v = .bool r1 ∧ G = [] ∧ own = []) := by
  refine VCalls.intro Tryz.func87 rfl (len rfl) fun E hC hW hD hU => ?_
  unfold disk_Right_2.f at h
  refine sr <| sG (o_box rfl (.agg (.of rfl))) fun g614 => vs rfl <| nx <| va (op_fieldAddr FI72_0 rfl (add_at _ _ _)) <| va (op_load 0 1 rfl rfl TI3 rfl (by decide)) <| VL.letter (decide (a0_0 < 0)) fun b621 hb621 => va (op_cmp rfl rfl (congrArg some hb621)) <| vm rfl <| ?_
  replace h := iC h
  rcases h with ⟨c622, h⟩ | ⟨c622, h⟩
  · cases lT c622 hb621
    refine un rfl <| un rfl <| un rfl <| un rfl <| va (op_pick rfl rfl) <| vm rfl <| un rfl <| un rfl <| un rfl <| un rfl <| va (op_pick rfl rfl) <| vs rfl <| dt <| VC.ret <| ?_
    obtain rfl := Option.some.inj h
    exact rq 4 rfl ⟨rfl, rfl, rfl⟩
  cases lF c622 hb621
  refine va (op_fieldAddr FI72_0 rfl (add_at _ _ _)) <| va (op_load 0 1 rfl rfl TI3 rfl (by decide)) <| va (op_load_at (ad := ⟨p1, 0, none⟩) 0 0 1 (by first | rfl | exact congrArg (fun a => some (Value.pointer (some a))) (add_at _ 0 _).symm) rfl TI3 rfl (by decide)) <|
   VL.letter (decide (a0_0 ≥ a1_0)) fun b623 hb623 => va (op_cmp rfl rfl (congrArg some hb623)) <| va (op_pick rfl rfl) <| vm rfl <| ?_
  replace h := iC h
  rcases h with ⟨c624, h⟩ | ⟨c624, h⟩
  · cases lT c624 hb623
    refine un rfl <| un rfl <| un rfl <| un rfl <| va (op_pick rfl rfl) <| vs rfl <| dt <| VC.ret <| ?_
    obtain rfl := Option.some.inj h
    exact rq 4 rfl ⟨rfl, rfl, rfl⟩
  cases lF c624 hb623
  refine va (op_load_at (ad := ⟨p2, 0, none⟩) 1 0 1 (by first | rfl | exact congrArg (fun a => some (Value.pointer (some a))) (add_at _ 0 _).symm) rfl TI77 rfl (by decide)) <| va (op_fieldAddr FI72_1 rfl (add_at _ _ _)) <| va (op_load 0 1 rfl rfl TI9 rfl (by decide)) <| ?_
  replace h := bd h
  obtain ⟨t625, hA626, h⟩ := h
  refine sC (o_call0 FO86 (disk_Right_1.ok a0_1 t625 hA626) rfl rfl (ltn rfl) (All_of .nil)) <| ?_
  rintro _ _ _ ⟨rfl, rfl, rfl⟩
  refine va (op_pick rfl rfl) <| vs rfl <| dt <| VC.ret <| ?_
  obtain rfl := Option.some.inj h
  exact rq 4 rfl ⟨rfl, rfl, rfl⟩

theorem slices_IndexFunc_api_Write_api_Write.ok (k : Nat) (l0 : List S71) (a1_0_0 : Int) (v0 : Value) (p1_0 : Nat) (p1_1 : Nat) (r1 : Int) (h : slices_IndexFunc_api_Write_api_Write.f k l0 a1_0_0 = some r1) :
    VCalls Tryz.prog 100 [v0, (.func (.func 87) #[] #[pt p1_0 0, pt p1_1 0])] [.row v0 2 (l0.map enc71), .at_ ⟨p1_0, 0, none⟩ [iv a1_0_0], .at_ ⟨p1_1, 0, none⟩ [(.func (.func 86) #[] #[])]] (fun v G own => v = iv r1 ∧ G = [] ∧ own = []) := by
  refine VCalls.intro Tryz.func100 rfl (len rfl) fun E hC hW hD hU => ?_
  unfold slices_IndexFunc_api_Write_api_Write.f at h
  refine sr <| vs rfl <| ds <| sr <| vm rfl <| va (op_len (m := l0.length) 0 lenm Tryz.underlying23 rfl rfl) <| vm rfl <| dt <| VC.block <|
   VC.loop1 (fun (i686 : Int) => ⟨19, [(0, v0), (1, (.func (.func 87) #[] #[pt p1_0 0, pt p1_1 0])), (4, iv 0), (7, iv (l0.length : Int)), (8, iv i686)], [.at_ ⟨p1_0, 0, none⟩ [iv a1_0_0], .at_ ⟨p1_1, 0, none⟩ [(.func (.func 86) #[] #[])], .row v0 2 (l0.map enc71)], [], []⟩) (fun (ml1 : Nat) (i686 : Int) => slices_IndexFunc_api_Write_api_Write.l1 k a1_0_0 l0 ml1 i686 = some r1) k 0 [] [] h ⟨rfl, ⟨rfl, rfl, rfl, rfl, rfl, trivial⟩, ⟨⟨1, rfl⟩, ⟨2, rfl⟩, ⟨0, rfl⟩, trivial⟩, rfl, by decide, rfl, by decide⟩ (by intros; simp [slices_IndexFunc_api_Write_api_Write.l1]) <|
   ?_
  clear h
  intro ml1 ihl1 i686 h
  simp only [slices_IndexFunc_api_Write_api_Write.l1] at h
  refine sr <| VL.letter (decide (i686 < (l0.length : Int))) fun b704 hb704 => va (op_cmp rfl rfl (congrArg some hb704)) <| ds <| ?_
  replace h := iC h
  rcases h with ⟨c706, h⟩ | ⟨c706, h⟩
  · cases lT c706 hb704
    refine ct <| sk <| sq <| VC.block <| sr <| vm rfl <| vs rfl <| nx <| vm rfl <| vm rfl <| vm rfl <| ?_
    replace h := iN h
    obtain ⟨c714, h⟩ := h
    replace h := bd h
    obtain ⟨x715, hx715, h⟩ := h
    refine VL.open (m := l0.length) 2 lenm rfl (pos_get hx715) <| ?_
    rintro ad716 n717 rfl
    refine va (op_indexAddr Tryz.underlying23 TI72 rfl rfl c714 (lt_get c714 hx715) rfl) <| va (op_load_row (sz := 2) (o := 0) 2 i686.toNat 2 rfl rfl (get_map hx715) TI72 rfl (fun h => absurd h (by decide))) <| ?_
    replace h := bd h
    obtain ⟨t718, hA719, h⟩ := h
    refine sC (o_call (vals := [.agg #[iv x715.f0, .string x715.f1]]) (caps := [pt p1_0 0, pt p1_1 0]) FO87 (disk_Right_2.ok x715.f0 x715.f1 a1_0_0 p1_0 p1_1 t718 hA719) rfl rfl (ltn rfl) (All_of (.cons (mG 0 rfl) (.cons (mG 1 rfl) .nil)))) <| ?_
    rintro _ _ _ ⟨rfl, rfl, rfl⟩
    refine dt <| ?_
    replace h := iC h
    rcases h with ⟨c720, h⟩ | ⟨c720, h⟩
    · obtain rfl := c720
      refine ct <| sr <| vm rfl <| vs rfl <| dt <| VC.ret <| VR.block <| VR.then <| VR.then <| VR.block <| VR.then <| ?_
      obtain rfl := Option.some.inj h
      exact rq 4 rfl ⟨rfl, rfl, rfl⟩
    obtain rfl := Bool.eq_false_iff.2 c720
    refine cf <| VC.skip <| VN.block <| tr <| va (op_ari64 rfl rfl rfl) <| vm rfl <| dn <| VN.again [] [] (ihl1 (wrap64 (i686 + 1)) h)
  cases lF c706 hb704
  refine cf <| VC.exit <| VX.then <| VX.then <| VX.hit <| tx <| vs rfl <| dt <| VC.ret <| ?_
  obtain rfl := Option.some.inj h
  exact rq 4 rfl ⟨rfl, rfl, rfl⟩

theorem slices_ContainsFunc_api_Write_api_Write.ok (k : Nat) (l0 : List S71) (a1_0_0 : Int) (v0 : Value) (p1_0 : Nat) (p1_1 : Nat) (r1 : Bool) (h : slices_ContainsFunc_api_Write_api_Write.f k l0 a1_0_0 = some r1) :
    VCalls Tryz.prog 88 [v0, (.func (.func 87) #[] #[pt p1_0 0, pt p1_1 0])] [.row v0 2 (l0.map enc71), .at_ ⟨p1_0, 0, none⟩ [iv a1_0_0], .at_ ⟨p1_1, 0, none⟩ [(.func (.func 86) #[] #[])]] (fun v G own => v = .bool r1 ∧ G = [] ∧ own = []) := by
  refine VCalls.intro Tryz.func88 rfl (len rfl) fun E hC hW hD hU => ?_
  unfold slices_ContainsFunc_api_Write_api_Write.f at h
  refine sr <| vs rfl <| nx <| vm rfl <| vm rfl <| ?_
  replace h := bd h
  obtain ⟨t721, hA722, h⟩ := h
  refine sC (o_call0 FO100 (slices_IndexFunc_api_Write_api_Write.ok k l0 a1_0_0 v0 p1_0 p1_1 t721 hA722) rfl rfl (ltn rfl) (All_of (.cons (mG 0 rfl) (.cons (mG 1 rfl) (.cons (mG 2 rfl) .nil))))) <| ?_
  rintro _ _ _ ⟨rfl, rfl, rfl⟩
  refine VL.letter (decide (t721 ≥ 0)) fun b723 hb723 => va (op_cmp rfl rfl (congrArg some hb723)) <| vs rfl <| dt <| VC.ret <| ?_
  obtain rfl := Option.some.inj h
  subst hb723
  exact rq 4 rfl ⟨rfl, rfl, rfl⟩

end Go.Proofs.YtipeglbeongfmaaGreat.PJournalCrashes
