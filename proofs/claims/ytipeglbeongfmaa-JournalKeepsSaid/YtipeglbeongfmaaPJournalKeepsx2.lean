/- Written by a program of this repo: what the program's functions do, each as a Lean function, shown of the loaded code; or a statement's row over that; no condition of its own. -/
import Derived.Test.YtipeglbeongfmaaPJournalKeepsx1
namespace Go.Proofs.Ytipeglbeongfmaa.PJournalKeeps
open Go Go.RowKit Go.Proofs.YtipeglbeongfmaaV
set_option linter.unusedVariables false
set_option linter.unusedSimpArgs false
set_option maxHeartbeats 4000000
set_option maxRecDepth 100000

theorem disk_Right.ok (k : Nat) (l0_0 : List ByteArray) (l0_1 : List S55) (v0_0 : Value) (v0_1 : Value) (r1 : Bool) (h : disk_Right.f k l0_0 l0_1 = some r1) :
    VCalls Try.prog 23 [.agg #[v0_0, v0_1]] [.row v0_0 1 (l0_0.map enc_str), .row v0_1 2 (l0_1.map enc55)] (fun v G own => v = .bool r1 ∧ G = [] ∧ own = []) := by
  refine VCalls.intro Try.func23 rfl (len rfl) fun E hC hW hD hU => ?_
  unfold disk_Right.f at h
  refine sr <| sG (o_box rfl (.agg (.f 0 rfl (.f 1 rfl .nil)))) fun g490 => vs rfl <| nx <| va (op_fieldAddr FI25_0 rfl (add_at _ _ _)) <| va (op_load 0 1 rfl rfl TI22 rfl (by decide)) <| va (op_len (m := l0_0.length) 0 lenm Try.underlying22 rfl rfl) <|
   sG (o_alloc Z3 ZL3) fun g491 => s1 (o_store 0 1 rfl rfl rfl TI3 (.c rfl) rfl (len rfl)) <| nx <| sG (o_alloc Z87 ZL87) fun g492 => s1 (o_store 0 1 rfl rfl rfl TI87 (.c rfl) rfl (len rfl)) <| nx <| va (op_makeFunc (vals := [.pointer (some ⟨g491, 0, none⟩), .pointer (some ⟨g492, 0, none⟩)]) rfl) <|
   vs rfl <| nx <| va (op_load 1 1 rfl rfl TI3 rfl (by decide)) <| VL.letter (decide ((l0_0.length : Int) ≥ 1)) fun b729 hb729 => va (op_cmp rfl rfl (congrArg some hb729)) <| vm rfl <| ?_
  replace h := iC h
  rcases h with ⟨c730, h⟩ | ⟨c730, h⟩
  · cases lT c730 hb729
    refine va (op_load 1 1 rfl rfl TI3 rfl (by decide)) <| VL.letter (decide ((l0_0.length : Int) ≤ 512)) fun b731 hb731 => va (op_cmp rfl rfl (congrArg some hb731)) <| va (op_pick rfl rfl) <| vm rfl <| ?_
    replace h := iC h
    rcases h with ⟨c732, h⟩ | ⟨c732, h⟩
    · cases lT c732 hb731
      refine va (op_fieldAddr FI25_1 rfl (add_at _ _ _)) <| va (op_load 2 1 rfl rfl TI23 rfl (by decide)) <| va (op_len (m := l0_1.length) 1 lenm Try.underlying23 rfl rfl) <| VL.letter (decide ((l0_1.length : Int) ≤ 64)) fun b733 hb733 => va (op_cmp rfl rfl (congrArg some hb733)) <|
       va (op_pick rfl rfl) <| vm rfl <| ?_
      replace h := iC h
      rcases h with ⟨c734, h⟩ | ⟨c734, h⟩
      · cases lT c734 hb733
        refine va (op_fieldAddr FI25_0 rfl (add_at _ _ _)) <| va (op_load 2 1 rfl rfl TI22 rfl (by decide)) <| va (op_load 0 1 rfl rfl TI87 rfl (by decide)) <| ?_
        replace h := bd h
        obtain ⟨t735, hA736, h⟩ := h
        refine sC (o_call0 FO53 (slices_ContainsFunc_string_string.ok k l0_0 v0_0 t735 hA736) rfl rfl (ltn rfl) (All_of (.cons (mG 0 rfl) .nil))) <| ?_
        rintro _ _ _ ⟨rfl, rfl, rfl⟩
        replace h := iC h
        rcases h with ⟨c737, h⟩ | ⟨c737, h⟩
        · obtain rfl := c737
          refine va (op_not rfl rfl) <| va (op_pick rfl rfl) <| vm rfl <| un rfl <| un rfl <| un rfl <| un rfl <| un rfl <| va (op_pick rfl rfl) <| vs rfl <| dt <| VC.ret <| ?_
          obtain rfl := Option.some.inj h
          exact VR.fn (rs := [.tmp 2]) [] [] [] rfl (.tmp rfl .nil) ⟨rfl, rfl, rfl⟩ trivial rfl (by decide)
        obtain rfl := Bool.eq_false_iff.2 c737
        refine va (op_not rfl rfl) <| va (op_pick rfl rfl) <| vm rfl <| va (op_fieldAddr FI25_1 rfl (add_at _ _ _)) <| va (op_load 2 1 rfl rfl TI23 rfl (by decide)) <| vm rfl <| VL.freeze' 1 rfl <| VL.freeze' 0 rfl <| ?_
        replace h := bd h
        obtain ⟨t738, hA739, h⟩ := h
        refine sC (o_call0 FO54 (slices_ContainsFunc_api_Write_api_Write.ok k l0_1 (l0_0.length : Int) v0_1 g491 g492 t738 hA739) rfl rfl (ltn rfl) (All_of (.cons (mG 3 rfl) (.cons (mG 1 rfl) (.cons (mG 0 rfl) .nil))))) <| ?_
        rintro _ _ _ ⟨rfl, rfl, rfl⟩
        replace h := iC h
        rcases h with ⟨c740, h⟩ | ⟨c740, h⟩
        · obtain rfl := c740
          refine va (op_not rfl rfl) <| va (op_pick rfl rfl) <| vs rfl <| dt <| VC.ret <| ?_
          obtain rfl := Option.some.inj h
          exact VR.fn (rs := [.tmp 2]) [] [] [] rfl (.tmp rfl .nil) ⟨rfl, rfl, rfl⟩ trivial rfl (by decide)
        obtain rfl := Bool.eq_false_iff.2 c740
        refine va (op_not rfl rfl) <| va (op_pick rfl rfl) <| vs rfl <| dt <| VC.ret <| ?_
        obtain rfl := Option.some.inj h
        exact VR.fn (rs := [.tmp 2]) [] [] [] rfl (.tmp rfl .nil) ⟨rfl, rfl, rfl⟩ trivial rfl (by decide)
      cases lF c734 hb733
      refine un rfl <| un rfl <| un rfl <| un rfl <| un rfl <| va (op_pick rfl rfl) <| vm rfl <| un rfl <| un rfl <| un rfl <| un rfl <| un rfl <| va (op_pick rfl rfl) <| vs rfl <| dt <| VC.ret <| ?_
      obtain rfl := Option.some.inj h
      exact VR.fn (rs := [.tmp 2]) [] [] [] rfl (.tmp rfl .nil) ⟨rfl, rfl, rfl⟩ trivial rfl (by decide)
    cases lF c732 hb731
    refine un rfl <| un rfl <| un rfl <| un rfl <| va (op_pick rfl rfl) <| vm rfl <| un rfl <| un rfl <| un rfl <| un rfl <| un rfl <| va (op_pick rfl rfl) <| vm rfl <| un rfl <| un rfl <| un rfl <| un rfl <| un rfl <| va (op_pick rfl rfl) <| vs rfl <| dt <| VC.ret <| ?_
    obtain rfl := Option.some.inj h
    exact VR.fn (rs := [.tmp 2]) [] [] [] rfl (.tmp rfl .nil) ⟨rfl, rfl, rfl⟩ trivial rfl (by decide)
  cases lF c730 hb729
  refine un rfl <| un rfl <| va (op_pick rfl rfl) <| vm rfl <| un rfl <| un rfl <| un rfl <| un rfl <| va (op_pick rfl rfl) <| vm rfl <| un rfl <| un rfl <| un rfl <| un rfl <| un rfl <| va (op_pick rfl rfl) <| vm rfl <| un rfl <| un rfl <| un rfl <| un rfl <| un rfl <| va (op_pick rfl rfl) <|
   vs rfl <| dt <| VC.ret <| ?_
  obtain rfl := Option.some.inj h
  exact VR.fn (rs := [.tmp 2]) [] [] [] rfl (.tmp rfl .nil) ⟨rfl, rfl, rfl⟩ trivial rfl (by decide)

theorem journal_room.ok (a0 : Int)  (r1 : Int) (h : journal_room.f a0 = some r1) :
    VCalls Try.prog 55 [.int .i64 a0] [] (fun v G own => v = .int .i64 r1 ∧ G = [] ∧ own = []) := by
  refine VCalls.intro Try.func55 rfl (len rfl) fun E hC hW hD hU => ?_
  unfold journal_room.f at h
  refine sr <| vs rfl <| nx <| vm rfl <| va (op_ari64 rfl rfl rfl) <| va (op_quo rfl rfl (by decide) rfl) <| va (op_ari64 rfl rfl rfl) <| vs rfl <| dt <| VC.ret <| ?_
  obtain rfl := Option.some.inj h
  exact VR.fn (rs := [.tmp 2]) [] [] [] rfl (.tmp rfl .nil) ⟨rfl, rfl, rfl⟩ trivial rfl (by decide)

theorem journal_headOf.ok (k : Nat) (a0 : Int) (a1 : Int) (a2 : Int)  (r1 : List Int) (h : journal_headOf.f k a0 a1 a2 = some r1) :
    VCalls Try.prog 39 [.int .i64 a0, .int .i64 a1, .int .i64 a2] [] (fun v G own => v = .agg (ints .u8 r1).toArray ∧ G = [] ∧ own = []) := by
  refine VCalls.intro Try.func39 rfl (len rfl) fun E hC hW hD hU => ?_
  unfold journal_headOf.f at h
  refine sr <| sG (o_alloc Z74 ZL74) fun g871 => nx <| sG (o_alloc Z74 ZL74) fun g872 => nx <| va (op_sliceB Try.underlying74 TI5 rfl) <| ?_
  replace h := iN h
  obtain ⟨c873, h⟩ := h
  refine s1 (o_copyS0 0 Try.underlying41 TI5 rfl rfl rfl c873 rfl) <| vs rfl <| nx <| vm rfl <| vm rfl <| va (op_conv Try.underlying3 Try.underlying5 rfl rfl) <| ?_
  replace h := iN h
  obtain ⟨c874, h⟩ := h
  replace h := iN h
  obtain ⟨c875, h⟩ := h
  refine va (op_indexAddrA Try.underlying74 TI5 rfl rfl c874 c875) <| ?_
  replace h := iN h
  obtain ⟨c876, h⟩ := h
  refine s1 (o_storeE 0 rfl rfl rfl TI5 c876) <| ds <| sr <| vm rfl <| dt <| VC.block <|
   VC.loop2 (fun (i901 : Int) (l902 : List Int) => ⟨46, [(0, .int .i64 a0), (2, .int .i64 a2), (6, .pointer (some ⟨g871, 0, none⟩)), (7, .pointer (some ⟨g872, 0, none⟩)), (8, .int .i64 ((min (⟨#[116, 97, 114, 114, 121]⟩ : ByteArray).size 32) : Int)), (17, .int .i64 i901)], [], [(g872, 74, ints .u8 l902), (g871, 74, ints .u8 (List.replicate 32 (0 : Int)))], []⟩) (fun (ml1 : Nat) (i901 : Int) (l902 : List Int) => journal_headOf.l1 k a0 a2 ml1 i901 l902 = some r1) k 0 (((byI (⟨#[116, 97, 114, 114, 121]⟩ : ByteArray)).take (min (⟨#[116, 97, 114, 114, 121]⟩ : ByteArray).size 32) ++ (List.replicate 32 (0 : Int)).drop (min (⟨#[116, 97, 114, 114, 121]⟩ : ByteArray).size 32)).set ((min (⟨#[116, 97, 114, 114, 121]⟩ : ByteArray).size 32) : Int).toNat (IntKind.u8.wrap a1)) [0, 1] [] h ⟨rfl, ⟨rfl, rfl, rfl, rfl, rfl, rfl, trivial⟩, trivial, rfl, by decide, rfl, by decide⟩ (by intros; simp [journal_headOf.l1]) <|
   ?_
  clear h
  intro ml1 ihl1 i901 l902 h
  simp only [journal_headOf.l1] at h
  refine sr <| VL.letter (decide (i901 < 8)) fun b910 hb910 => va (op_cmp rfl rfl (congrArg some hb910)) <| ds <| ?_
  replace h := iC h
  rcases h with ⟨c954, h⟩ | ⟨c954, h⟩
  · cases lT c954 hb910
    refine ct <| sk <| sq <| VC.block <| sr <| vm rfl <| vs rfl <| dr <| vm rfl <| va (op_ari64 rfl rfl rfl) <| vm rfl <| va (op_ari64 rfl rfl rfl) <| vm rfl <| vm rfl <| va (op_ari64 rfl rfl rfl) <| ?_
    replace h := iN h
    obtain ⟨c955, h⟩ := h
    refine va (op_shr rfl rfl c955 rfl) <| va (op_conv Try.underlying3 Try.underlying5 rfl rfl) <| ?_
    replace h := iN h
    obtain ⟨c956, h⟩ := h
    replace h := iN h
    obtain ⟨c957, h⟩ := h
    refine va (op_indexAddrA Try.underlying74 TI5 rfl rfl c956 c957) <| ?_
    replace h := iN h
    obtain ⟨c958, h⟩ := h
    refine s1 (o_storeE 0 rfl rfl rfl TI5 c958) <| dn <| VN.block <| tr <| va (op_ari64 rfl rfl rfl) <| vm rfl <| dn <|
     VN.again [0, 1] [] (ihl1 (wrap64 (i901 + 1)) (l902.set (wrap64 ((wrap64 (((min (⟨#[116, 97, 114, 114, 121]⟩ : ByteArray).size 32) : Int) + 1)) + i901)).toNat (IntKind.u8.wrap (a0.fdiv (2 ^ min (wrap64 (8 * i901)).toNat IntKind.i64.bits)))) h) ⟨rfl, ⟨rfl, rfl, rfl, rfl, rfl, rfl, trivial⟩, trivial, rfl, by decide, rfl, by decide⟩
  cases lF c954 hb910
  refine cf <| VC.exit <| VX.then <| VX.then <| VX.hit <| ts <| sr <| vm rfl <| dt <| VC.block <|
   VC.loop2 (fun (i983 : Int) (l984 : List Int) => ⟨46, [(2, .int .i64 a2), (6, .pointer (some ⟨g871, 0, none⟩)), (7, .pointer (some ⟨g872, 0, none⟩)), (8, .int .i64 ((min (⟨#[116, 97, 114, 114, 121]⟩ : ByteArray).size 32) : Int)), (31, .int .i64 i983)], [], [(g872, 74, ints .u8 l984), (g871, 74, ints .u8 (List.replicate 32 (0 : Int)))], []⟩) (fun (ml5 : Nat) (i983 : Int) (l984 : List Int) => journal_headOf.l5 k a2 ml5 i983 l984 = some r1) k 0 l902 [0, 1] [] h ⟨rfl, ⟨rfl, rfl, rfl, rfl, rfl, trivial⟩, trivial, rfl, by decide, rfl, by decide⟩ (by intros; simp [journal_headOf.l5]) <|
   ?_
  clear h
  intro ml5 ihl5 i983 l984 h
  simp only [journal_headOf.l5] at h
  refine sr <| VL.letter (decide (i983 < 4)) fun b992 hb992 => va (op_cmp rfl rfl (congrArg some hb992)) <| ds <| ?_
  replace h := iC h
  rcases h with ⟨c995, h⟩ | ⟨c995, h⟩
  · cases lT c995 hb992
    refine ct <| sk <| sq <| VC.block <| sr <| vm rfl <| vs rfl <| dr <| vm rfl <| va (op_ari64 rfl rfl rfl) <| vm rfl <| va (op_ari64 rfl rfl rfl) <| vm rfl <| vm rfl <| va (op_ari64 rfl rfl rfl) <| ?_
    replace h := iN h
    obtain ⟨c996, h⟩ := h
    refine va (op_shr rfl rfl c996 rfl) <| va (op_conv Try.underlying3 Try.underlying5 rfl rfl) <| ?_
    replace h := iN h
    obtain ⟨c997, h⟩ := h
    replace h := iN h
    obtain ⟨c998, h⟩ := h
    refine va (op_indexAddrA Try.underlying74 TI5 rfl rfl c997 c998) <| ?_
    replace h := iN h
    obtain ⟨c999, h⟩ := h
    refine s1 (o_storeE 0 rfl rfl rfl TI5 c999) <| dn <| VN.block <| tr <| va (op_ari64 rfl rfl rfl) <| vm rfl <| dn <|
     VN.again [0, 1] [] (ihl5 (wrap64 (i983 + 1)) (l984.set (wrap64 ((wrap64 (((min (⟨#[116, 97, 114, 114, 121]⟩ : ByteArray).size 32) : Int) + 9)) + i983)).toNat (IntKind.u8.wrap (a2.fdiv (2 ^ min (wrap64 (8 * i983)).toNat IntKind.i64.bits)))) h) ⟨rfl, ⟨rfl, rfl, rfl, rfl, rfl, trivial⟩, trivial, rfl, by decide, rfl, by decide⟩
  cases lF c995 hb992
  refine cf <| VC.exit <| VX.then <| VX.then <| VX.hit <| tx <| ?_
  replace h := iN h
  obtain ⟨c1000, h⟩ := h
  refine va (op_loadA 0 rfl rfl TI74 c1000) <| s1 (o_storeA 1 rfl rfl rfl TI74 c1000 c873) <| dt <| VC.ret <| ?_
  obtain rfl := Option.some.inj h
  exact VR.fn (rs := [.cell 6 74]) [] [] [] rfl (.cellA 1 rfl rfl TI74 c1000 .nil) ⟨rfl, rfl, rfl⟩ trivial rfl (by decide)

end Go.Proofs.Ytipeglbeongfmaa.PJournalKeeps
