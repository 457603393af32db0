/- Written by a program of this repo: what the program's functions do, each as a Lean function, shown of the loaded code; or a statement's row over that; no condition of its own. -/
import Derived.Test.YtipeglbeongfmaaPJournalOpensx1
namespace Go.Proofs.Ytipeglbeongfmaa.PJournalOpens
open Go Go.RowKit Go.Proofs.YtipeglbeongfmaaV
set_option linter.unusedVariables false
set_option linter.unusedSimpArgs false
set_option maxHeartbeats 4000000
set_option maxRecDepth 100000

theorem disk_Right.ok (k : Nat) (l0_0 : List ByteArray) (l0_1 : List S55) (v0_0 : Value) (v0_1 : Value) (r1 : Bool) (h : disk_Right.f k l0_0 l0_1 = some r1) :
    VCalls Try.prog 23 [.agg #[v0_0, v0_1]] [.row v0_0 1 (l0_0.map enc_str), .row v0_1 2 (l0_1.map enc55)] (fun v G own => v = .bool r1 ∧ G = [] ∧ own = []) := by
  refine VCalls.intro Try.func23 rfl (len rfl) fun E hC hW hD hU => ?_
  unfold disk_Right.f at h
  refine sr <| sG (o_box rfl (.agg (.f 0 rfl (.f 1 rfl .nil)))) fun g485 => vs rfl <| nx <| va (op_fieldAddr FI25_0 rfl (add_at _ _ _)) <| va (op_load 0 1 rfl rfl TI22 rfl (by decide)) <| va (op_len (m := l0_0.length) 0 lenm Try.underlying22 rfl rfl) <|
   sG (o_alloc Z3 ZL3) fun g486 => s1 (o_store 0 1 rfl rfl rfl TI3 (.c rfl) rfl (len rfl)) <| nx <| sG (o_alloc Z87 ZL87) fun g487 => s1 (o_store 0 1 rfl rfl rfl TI87 (.c rfl) rfl (len rfl)) <| nx <| va (op_makeFunc (vals := [pt g486 0, pt g487 0]) rfl) <|
   vs rfl <| nx <| va (op_load 1 1 rfl rfl TI3 rfl (by decide)) <| VL.letter (decide ((l0_0.length : Int) ≥ 1)) fun b724 hb724 => va (op_cmp rfl rfl (congrArg some hb724)) <| vm rfl <| ?_
  replace h := iC h
  rcases h with ⟨c725, h⟩ | ⟨c725, h⟩
  · cases lT c725 hb724
    refine va (op_load 1 1 rfl rfl TI3 rfl (by decide)) <| VL.letter (decide ((l0_0.length : Int) ≤ 512)) fun b726 hb726 => va (op_cmp rfl rfl (congrArg some hb726)) <| va (op_pick rfl rfl) <| vm rfl <| ?_
    replace h := iC h
    rcases h with ⟨c727, h⟩ | ⟨c727, h⟩
    · cases lT c727 hb726
      refine va (op_fieldAddr FI25_1 rfl (add_at _ _ _)) <| va (op_load 2 1 rfl rfl TI23 rfl (by decide)) <| va (op_len (m := l0_1.length) 1 lenm Try.underlying23 rfl rfl) <| VL.letter (decide ((l0_1.length : Int) ≤ 64)) fun b728 hb728 => va (op_cmp rfl rfl (congrArg some hb728)) <|
       va (op_pick rfl rfl) <| vm rfl <| ?_
      replace h := iC h
      rcases h with ⟨c729, h⟩ | ⟨c729, h⟩
      · cases lT c729 hb728
        refine va (op_fieldAddr FI25_0 rfl (add_at _ _ _)) <| va (op_load 2 1 rfl rfl TI22 rfl (by decide)) <| va (op_load 0 1 rfl rfl TI87 rfl (by decide)) <| ?_
        replace h := bd h
        obtain ⟨t730, hA731, h⟩ := h
        refine sC (o_call0 FO53 (slices_ContainsFunc_string_string.ok k l0_0 v0_0 t730 hA731) rfl rfl (ltn rfl) (All_of (.cons (mG 0 rfl) .nil))) <| ?_
        rintro _ _ _ ⟨rfl, rfl, rfl⟩
        replace h := iC h
        rcases h with ⟨c732, h⟩ | ⟨c732, h⟩
        · obtain rfl := c732
          refine va (op_not rfl rfl) <| va (op_pick rfl rfl) <| vm rfl <| un rfl <| un rfl <| un rfl <| un rfl <| un rfl <| va (op_pick rfl rfl) <| vs rfl <| dt <| VC.ret <| ?_
          obtain rfl := Option.some.inj h
          exact rq 2 rfl ⟨rfl, rfl, rfl⟩
        obtain rfl := Bool.eq_false_iff.2 c732
        refine va (op_not rfl rfl) <| va (op_pick rfl rfl) <| vm rfl <| va (op_fieldAddr FI25_1 rfl (add_at _ _ _)) <| va (op_load 2 1 rfl rfl TI23 rfl (by decide)) <| vm rfl <| VL.freeze' 1 rfl <| VL.freeze' 0 rfl <| ?_
        replace h := bd h
        obtain ⟨t733, hA734, h⟩ := h
        refine sC (o_call0 FO54 (slices_ContainsFunc_api_Write_api_Write.ok k l0_1 (l0_0.length : Int) v0_1 g486 g487 t733 hA734) rfl rfl (ltn rfl) (All_of (.cons (mG 3 rfl) (.cons (mG 1 rfl) (.cons (mG 0 rfl) .nil))))) <| ?_
        rintro _ _ _ ⟨rfl, rfl, rfl⟩
        replace h := iC h
        rcases h with ⟨c735, h⟩ | ⟨c735, h⟩
        · obtain rfl := c735
          refine va (op_not rfl rfl) <| va (op_pick rfl rfl) <| vs rfl <| dt <| VC.ret <| ?_
          obtain rfl := Option.some.inj h
          exact rq 2 rfl ⟨rfl, rfl, rfl⟩
        obtain rfl := Bool.eq_false_iff.2 c735
        refine va (op_not rfl rfl) <| va (op_pick rfl rfl) <| vs rfl <| dt <| VC.ret <| ?_
        obtain rfl := Option.some.inj h
        exact rq 2 rfl ⟨rfl, rfl, rfl⟩
      cases lF c729 hb728
      refine un rfl <| un rfl <| un rfl <| un rfl <| un rfl <| va (op_pick rfl rfl) <| vm rfl <| un rfl <| un rfl <| un rfl <| un rfl <| un rfl <| va (op_pick rfl rfl) <| vs rfl <| dt <| VC.ret <| ?_
      obtain rfl := Option.some.inj h
      exact rq 2 rfl ⟨rfl, rfl, rfl⟩
    cases lF c727 hb726
    refine un rfl <| un rfl <| un rfl <| un rfl <| va (op_pick rfl rfl) <| vm rfl <| un rfl <| un rfl <| un rfl <| un rfl <| un rfl <| va (op_pick rfl rfl) <| vm rfl <| un rfl <| un rfl <| un rfl <| un rfl <| un rfl <| va (op_pick rfl rfl) <| vs rfl <| dt <| VC.ret <| ?_
    obtain rfl := Option.some.inj h
    exact rq 2 rfl ⟨rfl, rfl, rfl⟩
  cases lF c725 hb724
  refine un rfl <| un rfl <| va (op_pick rfl rfl) <| vm rfl <| un rfl <| un rfl <| un rfl <| un rfl <| va (op_pick rfl rfl) <| vm rfl <| un rfl <| un rfl <| un rfl <| un rfl <| un rfl <| va (op_pick rfl rfl) <| vm rfl <| un rfl <| un rfl <| un rfl <| un rfl <| un rfl <| va (op_pick rfl rfl) <|
   vs rfl <| dt <| VC.ret <| ?_
  obtain rfl := Option.some.inj h
  exact rq 2 rfl ⟨rfl, rfl, rfl⟩

theorem journal_room.ok (a0 : Int)  (r1 : Int) (h : journal_room.f a0 = some r1) :
    VCalls Try.prog 55 [iv a0] [] (fun v G own => v = iv r1 ∧ G = [] ∧ own = []) := by
  refine VCalls.intro Try.func55 rfl (len rfl) fun E hC hW hD hU => ?_
  unfold journal_room.f at h
  refine sr <| vs rfl <| nx <| vm rfl <| va (op_ari64 rfl rfl rfl) <| va (op_quo rfl rfl (by decide) rfl) <| va (op_ari64 rfl rfl rfl) <| vs rfl <| dt <| VC.ret <| ?_
  obtain rfl := Option.some.inj h
  exact rq 2 rfl ⟨rfl, rfl, rfl⟩

theorem journal_headOf.ok (k : Nat) (a0 : Int) (a1 : Int) (a2 : Int)  (r1 : List Int) (h : journal_headOf.f k a0 a1 a2 = some r1) :
    VCalls Try.prog 39 [iv a0, iv a1, iv a2] [] (fun v G own => v = .agg (ints .u8 r1).toArray ∧ G = [] ∧ own = []) := by
  refine VCalls.intro Try.func39 rfl (len rfl) fun E hC hW hD hU => ?_
  unfold journal_headOf.f at h
  refine sr <| sG (o_alloc Z74 ZL74) fun g866 => nx <| sG (o_alloc Z74 ZL74) fun g867 => nx <| va (op_sliceB Try.underlying74 TI5 rfl) <| ?_
  replace h := iN h
  obtain ⟨c868, h⟩ := h
  refine s1 (o_copyS0 0 Try.underlying41 TI5 rfl rfl rfl c868 rfl) <| vs rfl <| nx <| vm rfl <| vm rfl <| va (op_conv Try.underlying3 Try.underlying5 rfl rfl) <| ?_
  replace h := iN h
  obtain ⟨c869, h⟩ := h
  replace h := iN h
  obtain ⟨c870, h⟩ := h
  refine va (op_indexAddrA Try.underlying74 TI5 rfl rfl c869 c870) <| ?_
  replace h := iN h
  obtain ⟨c871, h⟩ := h
  refine s1 (o_storeE 0 rfl rfl rfl TI5 c871) <| ds <| sr <| vm rfl <| dt <| VC.block <|
   VC.loop2 (fun (i896 : Int) (l897 : List Int) => ⟨46, [(0, iv a0), (2, iv a2), (6, pt g866 0), (7, pt g867 0), (8, iv ((min (⟨#[116, 97, 114, 114, 121]⟩ : ByteArray).size 32) : Int)), (17, iv i896)], [], [(g867, 74, ints .u8 l897), (g866, 74, ints .u8 (List.replicate 32 (0 : Int)))], []⟩) (fun (ml1 : Nat) (i896 : Int) (l897 : List Int) => journal_headOf.l1 k a0 a2 ml1 i896 l897 = some r1) k 0 (((byI (⟨#[116, 97, 114, 114, 121]⟩ : ByteArray)).take (min (⟨#[116, 97, 114, 114, 121]⟩ : ByteArray).size 32) ++ (List.replicate 32 (0 : Int)).drop (min (⟨#[116, 97, 114, 114, 121]⟩ : ByteArray).size 32)).set ((min (⟨#[116, 97, 114, 114, 121]⟩ : ByteArray).size 32) : Int).toNat (IntKind.u8.wrap a1)) [0, 1] [] h ⟨rfl, ⟨rfl, rfl, rfl, rfl, rfl, rfl, trivial⟩, trivial, rfl, by decide, rfl, by decide⟩ (by intros; simp [journal_headOf.l1]) <|
   ?_
  clear h
  intro ml1 ihl1 i896 l897 h
  simp only [journal_headOf.l1] at h
  refine sr <| VL.letter (decide (i896 < 8)) fun b905 hb905 => va (op_cmp rfl rfl (congrArg some hb905)) <| ds <| ?_
  replace h := iC h
  rcases h with ⟨c949, h⟩ | ⟨c949, h⟩
  · cases lT c949 hb905
    refine ct <| sk <| sq <| VC.block <| sr <| vm rfl <| vs rfl <| dr <| vm rfl <| va (op_ari64 rfl rfl rfl) <| vm rfl <| va (op_ari64 rfl rfl rfl) <| vm rfl <| vm rfl <| va (op_ari64 rfl rfl rfl) <| ?_
    replace h := iN h
    obtain ⟨c950, h⟩ := h
    refine va (op_shr rfl rfl c950 rfl) <| va (op_conv Try.underlying3 Try.underlying5 rfl rfl) <| ?_
    replace h := iN h
    obtain ⟨c951, h⟩ := h
    replace h := iN h
    obtain ⟨c952, h⟩ := h
    refine va (op_indexAddrA Try.underlying74 TI5 rfl rfl c951 c952) <| ?_
    replace h := iN h
    obtain ⟨c953, h⟩ := h
    refine s1 (o_storeE 0 rfl rfl rfl TI5 c953) <| dn <| VN.block <| tr <| va (op_ari64 rfl rfl rfl) <| vm rfl <| dn <|
     VN.again [0, 1] [] (ihl1 (wrap64 (i896 + 1)) (l897.set (wrap64 ((wrap64 (((min (⟨#[116, 97, 114, 114, 121]⟩ : ByteArray).size 32) : Int) + 1)) + i896)).toNat (IntKind.u8.wrap (a0.fdiv (2 ^ min (wrap64 (8 * i896)).toNat IntKind.i64.bits)))) h)
  cases lF c949 hb905
  refine cf <| VC.exit <| VX.then <| VX.then <| VX.hit <| ts <| sr <| vm rfl <| dt <| VC.block <|
   VC.loop2 (fun (i978 : Int) (l979 : List Int) => ⟨46, [(2, iv a2), (6, pt g866 0), (7, pt g867 0), (8, iv ((min (⟨#[116, 97, 114, 114, 121]⟩ : ByteArray).size 32) : Int)), (31, iv i978)], [], [(g867, 74, ints .u8 l979), (g866, 74, ints .u8 (List.replicate 32 (0 : Int)))], []⟩) (fun (ml5 : Nat) (i978 : Int) (l979 : List Int) => journal_headOf.l5 k a2 ml5 i978 l979 = some r1) k 0 l897 [0, 1] [] h ⟨rfl, ⟨rfl, rfl, rfl, rfl, rfl, trivial⟩, trivial, rfl, by decide, rfl, by decide⟩ (by intros; simp [journal_headOf.l5]) <|
   ?_
  clear h
  intro ml5 ihl5 i978 l979 h
  simp only [journal_headOf.l5] at h
  refine sr <| VL.letter (decide (i978 < 4)) fun b987 hb987 => va (op_cmp rfl rfl (congrArg some hb987)) <| ds <| ?_
  replace h := iC h
  rcases h with ⟨c990, h⟩ | ⟨c990, h⟩
  · cases lT c990 hb987
    refine ct <| sk <| sq <| VC.block <| sr <| vm rfl <| vs rfl <| dr <| vm rfl <| va (op_ari64 rfl rfl rfl) <| vm rfl <| va (op_ari64 rfl rfl rfl) <| vm rfl <| vm rfl <| va (op_ari64 rfl rfl rfl) <| ?_
    replace h := iN h
    obtain ⟨c991, h⟩ := h
    refine va (op_shr rfl rfl c991 rfl) <| va (op_conv Try.underlying3 Try.underlying5 rfl rfl) <| ?_
    replace h := iN h
    obtain ⟨c992, h⟩ := h
    replace h := iN h
    obtain ⟨c993, h⟩ := h
    refine va (op_indexAddrA Try.underlying74 TI5 rfl rfl c992 c993) <| ?_
    replace h := iN h
    obtain ⟨c994, h⟩ := h
    refine s1 (o_storeE 0 rfl rfl rfl TI5 c994) <| dn <| VN.block <| tr <| va (op_ari64 rfl rfl rfl) <| vm rfl <| dn <|
     VN.again [0, 1] [] (ihl5 (wrap64 (i978 + 1)) (l979.set (wrap64 ((wrap64 (((min (⟨#[116, 97, 114, 114, 121]⟩ : ByteArray).size 32) : Int) + 9)) + i978)).toNat (IntKind.u8.wrap (a2.fdiv (2 ^ min (wrap64 (8 * i978)).toNat IntKind.i64.bits)))) h)
  cases lF c990 hb987
  refine cf <| VC.exit <| VX.then <| VX.then <| VX.hit <| tx <| ?_
  replace h := iN h
  obtain ⟨c995, h⟩ := h
  refine va (op_loadA 0 rfl rfl TI74 c995) <| s1 (o_storeA 1 rfl rfl rfl TI74 c995 c868) <| dt <| VC.ret <| ?_
  obtain rfl := Option.some.inj h
  exact rf [.cell 6 74] [] (.cellA 1 rfl rfl TI74 c995 .nil) ⟨rfl, rfl, rfl⟩

end Go.Proofs.Ytipeglbeongfmaa.PJournalOpens
