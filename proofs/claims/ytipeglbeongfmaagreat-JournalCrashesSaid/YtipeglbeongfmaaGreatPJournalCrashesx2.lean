/- Written by a program of this repo: what the program's functions do, each as a Lean function, shown of the loaded code; or a statement's row over that; no condition of its own. -/
import Derived.Test.YtipeglbeongfmaaGreatPJournalCrashesx1
namespace Go.Proofs.YtipeglbeongfmaaGreat.PJournalCrashes
open Go Go.RowKit Go.Proofs.YtipeglbeongfmaaGreatV
set_option linter.unusedVariables false
set_option linter.unusedSimpArgs false
set_option maxHeartbeats 4000000
set_option maxRecDepth 100000

theorem disk_Right.ok (k : Nat) (l0_0 : List ByteArray) (l0_1 : List S71) (v0_0 : Value) (v0_1 : Value) (r1 : Bool) (h : disk_Right.f k l0_0 l0_1 = some r1) :
    VCalls Tryz.prog 64 [.agg #[v0_0, v0_1]] [.row v0_0 1 (l0_0.map enc_str), .row v0_1 2 (l0_1.map enc71)] (fun v G own => v = .bool r1 ∧ G = [] ∧ own = []) := by
  refine VCalls.intro Tryz.func64 rfl (len rfl) fun E hC hW hD hU => ?_
  unfold disk_Right.f at h
  refine sr <| sG (o_box rfl (.agg (.f 0 rfl (.f 1 rfl .nil)))) fun g488 => vs rfl <| nx <| va (op_fieldAddr FI25_0 rfl (add_at _ _ _)) <| va (op_load 0 1 rfl rfl TI22 rfl (by decide)) <| va (op_len (m := l0_0.length) 0 lenm Tryz.underlying22 rfl rfl) <|
   sG (o_alloc Z3 ZL3) fun g489 => s1 (o_store 0 1 rfl rfl rfl TI3 (.c rfl) rfl (len rfl)) <| nx <| sG (o_alloc Z77 ZL77) fun g490 => s1 (o_store 0 1 rfl rfl rfl TI77 (.c rfl) rfl (len rfl)) <| nx <| va (op_makeFunc (vals := [pt g489 0, pt g490 0]) rfl) <|
   vs rfl <| nx <| va (op_load 1 1 rfl rfl TI3 rfl (by decide)) <| VL.letter (decide ((l0_0.length : Int) ≥ 1)) fun b727 hb727 => va (op_cmp rfl rfl (congrArg some hb727)) <| vm rfl <| ?_
  replace h := iC h
  rcases h with ⟨c728, h⟩ | ⟨c728, h⟩
  · cases lT c728 hb727
    refine va (op_load 1 1 rfl rfl TI3 rfl (by decide)) <| VL.letter (decide ((l0_0.length : Int) ≤ 512)) fun b729 hb729 => va (op_cmp rfl rfl (congrArg some hb729)) <| va (op_pick rfl rfl) <| vm rfl <| ?_
    replace h := iC h
    rcases h with ⟨c730, h⟩ | ⟨c730, h⟩
    · cases lT c730 hb729
      refine va (op_fieldAddr FI25_1 rfl (add_at _ _ _)) <| va (op_load 2 1 rfl rfl TI23 rfl (by decide)) <| va (op_len (m := l0_1.length) 1 lenm Tryz.underlying23 rfl rfl) <| VL.letter (decide ((l0_1.length : Int) ≤ 64)) fun b731 hb731 => va (op_cmp rfl rfl (congrArg some hb731)) <|
       va (op_pick rfl rfl) <| vm rfl <| ?_
      replace h := iC h
      rcases h with ⟨c732, h⟩ | ⟨c732, h⟩
      · cases lT c732 hb731
        refine va (op_fieldAddr FI25_0 rfl (add_at _ _ _)) <| va (op_load 2 1 rfl rfl TI22 rfl (by decide)) <| va (op_load 0 1 rfl rfl TI77 rfl (by decide)) <| ?_
        replace h := bd h
        obtain ⟨t733, hA734, h⟩ := h
        refine sC (o_call0 FO48 (slices_ContainsFunc_string_string.ok k l0_0 v0_0 t733 hA734) rfl rfl (ltn rfl) (All_of (.cons (mG 0 rfl) .nil))) <| ?_
        rintro _ _ _ ⟨rfl, rfl, rfl⟩
        replace h := iC h
        rcases h with ⟨c735, h⟩ | ⟨c735, h⟩
        · obtain rfl := c735
          refine va (op_not rfl rfl) <| va (op_pick rfl rfl) <| vm rfl <| un rfl <| un rfl <| un rfl <| un rfl <| un rfl <| va (op_pick rfl rfl) <| vs rfl <| dt <| VC.ret <| ?_
          obtain rfl := Option.some.inj h
          exact rq 2 rfl ⟨rfl, rfl, rfl⟩
        obtain rfl := Bool.eq_false_iff.2 c735
        refine va (op_not rfl rfl) <| va (op_pick rfl rfl) <| vm rfl <| va (op_fieldAddr FI25_1 rfl (add_at _ _ _)) <| va (op_load 2 1 rfl rfl TI23 rfl (by decide)) <| vm rfl <| VL.freeze' 1 rfl <| VL.freeze' 0 rfl <| ?_
        replace h := bd h
        obtain ⟨t736, hA737, h⟩ := h
        refine sC (o_call0 FO88 (slices_ContainsFunc_api_Write_api_Write.ok k l0_1 (l0_0.length : Int) v0_1 g489 g490 t736 hA737) rfl rfl (ltn rfl) (All_of (.cons (mG 3 rfl) (.cons (mG 1 rfl) (.cons (mG 0 rfl) .nil))))) <| ?_
        rintro _ _ _ ⟨rfl, rfl, rfl⟩
        replace h := iC h
        rcases h with ⟨c738, h⟩ | ⟨c738, h⟩
        · obtain rfl := c738
          refine va (op_not rfl rfl) <| va (op_pick rfl rfl) <| vs rfl <| dt <| VC.ret <| ?_
          obtain rfl := Option.some.inj h
          exact rq 2 rfl ⟨rfl, rfl, rfl⟩
        obtain rfl := Bool.eq_false_iff.2 c738
        refine va (op_not rfl rfl) <| va (op_pick rfl rfl) <| vs rfl <| dt <| VC.ret <| ?_
        obtain rfl := Option.some.inj h
        exact rq 2 rfl ⟨rfl, rfl, rfl⟩
      cases lF c732 hb731
      refine un rfl <| un rfl <| un rfl <| un rfl <| un rfl <| va (op_pick rfl rfl) <| vm rfl <| un rfl <| un rfl <| un rfl <| un rfl <| un rfl <| va (op_pick rfl rfl) <| vs rfl <| dt <| VC.ret <| ?_
      obtain rfl := Option.some.inj h
      exact rq 2 rfl ⟨rfl, rfl, rfl⟩
    cases lF c730 hb729
    refine un rfl <| un rfl <| un rfl <| un rfl <| va (op_pick rfl rfl) <| vm rfl <| un rfl <| un rfl <| un rfl <| un rfl <| un rfl <| va (op_pick rfl rfl) <| vm rfl <| un rfl <| un rfl <| un rfl <| un rfl <| un rfl <| va (op_pick rfl rfl) <| vs rfl <| dt <| VC.ret <| ?_
    obtain rfl := Option.some.inj h
    exact rq 2 rfl ⟨rfl, rfl, rfl⟩
  cases lF c728 hb727
  refine un rfl <| un rfl <| va (op_pick rfl rfl) <| vm rfl <| un rfl <| un rfl <| un rfl <| un rfl <| va (op_pick rfl rfl) <| vm rfl <| un rfl <| un rfl <| un rfl <| un rfl <| un rfl <| va (op_pick rfl rfl) <| vm rfl <| un rfl <| un rfl <| un rfl <| un rfl <| un rfl <| va (op_pick rfl rfl) <|
   vs rfl <| dt <| VC.ret <| ?_
  obtain rfl := Option.some.inj h
  exact rq 2 rfl ⟨rfl, rfl, rfl⟩

theorem journal_room.ok (a0 : Int)  (r1 : Int) (h : journal_room.f a0 = some r1) :
    VCalls Tryz.prog 51 [iv a0] [] (fun v G own => v = iv r1 ∧ G = [] ∧ own = []) := by
  refine VCalls.intro Tryz.func51 rfl (len rfl) fun E hC hW hD hU => ?_
  unfold journal_room.f at h
  refine sr <| vs rfl <| nx <| vm rfl <| va (op_ari64 rfl rfl rfl) <| va (op_quo rfl rfl (by decide) rfl) <| va (op_ari64 rfl rfl rfl) <| vs rfl <| dt <| VC.ret <| ?_
  obtain rfl := Option.some.inj h
  exact rq 2 rfl ⟨rfl, rfl, rfl⟩

theorem journal_headOf.ok (k : Nat) (a0 : Int) (a1 : Int) (a2 : Int)  (r1 : List Int) (h : journal_headOf.f k a0 a1 a2 = some r1) :
    VCalls Tryz.prog 55 [iv a0, iv a1, iv a2] [] (fun v G own => v = .agg (ints .u8 r1).toArray ∧ G = [] ∧ own = []) := by
  refine VCalls.intro Tryz.func55 rfl (len rfl) fun E hC hW hD hU => ?_
  unfold journal_headOf.f at h
  refine sr <| sG (o_alloc Z82 ZL82) fun g869 => nx <| sG (o_alloc Z82 ZL82) fun g870 => nx <| va (op_sliceB Tryz.underlying82 TI5 rfl) <| ?_
  replace h := iN h
  obtain ⟨c871, h⟩ := h
  refine s1 (o_copyS0 0 Tryz.underlying68 TI5 rfl rfl rfl c871 rfl) <| vs rfl <| nx <| vm rfl <| vm rfl <| va (op_conv Tryz.underlying3 Tryz.underlying5 rfl rfl) <| ?_
  replace h := iN h
  obtain ⟨c872, h⟩ := h
  replace h := iN h
  obtain ⟨c873, h⟩ := h
  refine va (op_indexAddrA Tryz.underlying82 TI5 rfl rfl c872 c873) <| ?_
  replace h := iN h
  obtain ⟨c874, h⟩ := h
  refine s1 (o_storeE 0 rfl rfl rfl TI5 c874) <| ds <| sr <| vm rfl <| dt <| VC.block <|
   VC.loop2 (fun (i899 : Int) (l900 : List Int) => ⟨46, [(0, iv a0), (2, iv a2), (6, pt g869 0), (7, pt g870 0), (8, iv ((min (⟨#[116, 97, 114, 114, 121]⟩ : ByteArray).size 32) : Int)), (17, iv i899)], [], [(g870, 82, ints .u8 l900), (g869, 82, ints .u8 (List.replicate 32 (0 : Int)))], []⟩) (fun (ml1 : Nat) (i899 : Int) (l900 : List Int) => journal_headOf.l1 k a0 a2 ml1 i899 l900 = some r1) k 0 (((byI (⟨#[116, 97, 114, 114, 121]⟩ : ByteArray)).take (min (⟨#[116, 97, 114, 114, 121]⟩ : ByteArray).size 32) ++ (List.replicate 32 (0 : Int)).drop (min (⟨#[116, 97, 114, 114, 121]⟩ : ByteArray).size 32)).set ((min (⟨#[116, 97, 114, 114, 121]⟩ : ByteArray).size 32) : Int).toNat (IntKind.u8.wrap a1)) [0, 1] [] h ⟨rfl, ⟨rfl, rfl, rfl, rfl, rfl, rfl, trivial⟩, trivial, rfl, by decide, rfl, by decide⟩ (by intros; simp [journal_headOf.l1]) <|
   ?_
  clear h
  intro ml1 ihl1 i899 l900 h
  simp only [journal_headOf.l1] at h
  refine sr <| VL.letter (decide (i899 < 8)) fun b908 hb908 => va (op_cmp rfl rfl (congrArg some hb908)) <| ds <| ?_
  replace h := iC h
  rcases h with ⟨c952, h⟩ | ⟨c952, h⟩
  · cases lT c952 hb908
    refine ct <| sk <| sq <| VC.block <| sr <| vm rfl <| vs rfl <| dr <| vm rfl <| va (op_ari64 rfl rfl rfl) <| vm rfl <| va (op_ari64 rfl rfl rfl) <| vm rfl <| vm rfl <| va (op_ari64 rfl rfl rfl) <| ?_
    replace h := iN h
    obtain ⟨c953, h⟩ := h
    refine va (op_shr rfl rfl c953 rfl) <| va (op_conv Tryz.underlying3 Tryz.underlying5 rfl rfl) <| ?_
    replace h := iN h
    obtain ⟨c954, h⟩ := h
    replace h := iN h
    obtain ⟨c955, h⟩ := h
    refine va (op_indexAddrA Tryz.underlying82 TI5 rfl rfl c954 c955) <| ?_
    replace h := iN h
    obtain ⟨c956, h⟩ := h
    refine s1 (o_storeE 0 rfl rfl rfl TI5 c956) <| dn <| VN.block <| tr <| va (op_ari64 rfl rfl rfl) <| vm rfl <| dn <|
     VN.again [0, 1] [] (ihl1 (wrap64 (i899 + 1)) (l900.set (wrap64 ((wrap64 (((min (⟨#[116, 97, 114, 114, 121]⟩ : ByteArray).size 32) : Int) + 1)) + i899)).toNat (IntKind.u8.wrap (a0.fdiv (2 ^ min (wrap64 (8 * i899)).toNat IntKind.i64.bits)))) h)
  cases lF c952 hb908
  refine cf <| VC.exit <| VX.then <| VX.then <| VX.hit <| ts <| sr <| vm rfl <| dt <| VC.block <|
   VC.loop2 (fun (i981 : Int) (l982 : List Int) => ⟨46, [(2, iv a2), (6, pt g869 0), (7, pt g870 0), (8, iv ((min (⟨#[116, 97, 114, 114, 121]⟩ : ByteArray).size 32) : Int)), (31, iv i981)], [], [(g870, 82, ints .u8 l982), (g869, 82, ints .u8 (List.replicate 32 (0 : Int)))], []⟩) (fun (ml5 : Nat) (i981 : Int) (l982 : List Int) => journal_headOf.l5 k a2 ml5 i981 l982 = some r1) k 0 l900 [0, 1] [] h ⟨rfl, ⟨rfl, rfl, rfl, rfl, rfl, trivial⟩, trivial, rfl, by decide, rfl, by decide⟩ (by intros; simp [journal_headOf.l5]) <|
   ?_
  clear h
  intro ml5 ihl5 i981 l982 h
  simp only [journal_headOf.l5] at h
  refine sr <| VL.letter (decide (i981 < 4)) fun b990 hb990 => va (op_cmp rfl rfl (congrArg some hb990)) <| ds <| ?_
  replace h := iC h
  rcases h with ⟨c993, h⟩ | ⟨c993, h⟩
  · cases lT c993 hb990
    refine ct <| sk <| sq <| VC.block <| sr <| vm rfl <| vs rfl <| dr <| vm rfl <| va (op_ari64 rfl rfl rfl) <| vm rfl <| va (op_ari64 rfl rfl rfl) <| vm rfl <| vm rfl <| va (op_ari64 rfl rfl rfl) <| ?_
    replace h := iN h
    obtain ⟨c994, h⟩ := h
    refine va (op_shr rfl rfl c994 rfl) <| va (op_conv Tryz.underlying3 Tryz.underlying5 rfl rfl) <| ?_
    replace h := iN h
    obtain ⟨c995, h⟩ := h
    replace h := iN h
    obtain ⟨c996, h⟩ := h
    refine va (op_indexAddrA Tryz.underlying82 TI5 rfl rfl c995 c996) <| ?_
    replace h := iN h
    obtain ⟨c997, h⟩ := h
    refine s1 (o_storeE 0 rfl rfl rfl TI5 c997) <| dn <| VN.block <| tr <| va (op_ari64 rfl rfl rfl) <| vm rfl <| dn <|
     VN.again [0, 1] [] (ihl5 (wrap64 (i981 + 1)) (l982.set (wrap64 ((wrap64 (((min (⟨#[116, 97, 114, 114, 121]⟩ : ByteArray).size 32) : Int) + 9)) + i981)).toNat (IntKind.u8.wrap (a2.fdiv (2 ^ min (wrap64 (8 * i981)).toNat IntKind.i64.bits)))) h)
  cases lF c993 hb990
  refine cf <| VC.exit <| VX.then <| VX.then <| VX.hit <| tx <| ?_
  replace h := iN h
  obtain ⟨c998, h⟩ := h
  refine va (op_loadA 0 rfl rfl TI82 c998) <| s1 (o_storeA 1 rfl rfl rfl TI82 c998 c871) <| dt <| VC.ret <| ?_
  obtain rfl := Option.some.inj h
  exact rf [.cell 6 82] [] (.cellA 1 rfl rfl TI82 c998 .nil) ⟨rfl, rfl, rfl⟩

end Go.Proofs.YtipeglbeongfmaaGreat.PJournalCrashes
