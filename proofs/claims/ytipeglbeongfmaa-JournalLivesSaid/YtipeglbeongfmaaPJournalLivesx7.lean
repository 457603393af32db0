/- Written by a program of this repo: what the program's functions do, each as a Lean function, shown of the loaded code; or a statement's row over that; no condition of its own. -/
import Derived.Test.YtipeglbeongfmaaPJournalLivesx6
namespace Go.Proofs.Ytipeglbeongfmaa.PJournalLives
open Go Go.RowKit Go.Proofs.YtipeglbeongfmaaV
set_option linter.unusedVariables false
set_option linter.unusedSimpArgs false
set_option maxHeartbeats 4000000
set_option maxRecDepth 100000

theorem slices_IndexFunc_string_string_s32.ok (k : Nat) (l0 : List ByteArray) (v0 : Value) (r1 : Int) (h : slices_IndexFunc_string_string_s32.f k l0 = some r1) :
    VCalls Try.prog 74 [v0, (.func (.func 67) #[] #[])] [.row v0 1 (l0.map enc_str)] (fun v G own => v = .int .i64 r1 ∧ G = [] ∧ own = []) := by
  refine VCalls.intro Try.func74 rfl (len rfl) fun E hC hW hD hU => ?_
  unfold slices_IndexFunc_string_string_s32.f at h
  refine sr <| vs rfl <| ds <| sr <| vm rfl <| va (op_len (m := l0.length) 0 lenm Try.underlying22 rfl rfl) <| vm rfl <| dt <| VC.block <|
   VC.loop1 (fun (i7146 : Int) => ⟨19, [(0, v0), (1, (.func (.func 67) #[] #[])), (4, .int .i64 0), (7, .int .i64 (l0.length : Int)), (8, .int .i64 i7146)], [.row v0 1 (l0.map enc_str)], [], []⟩) (fun (ml1 : Nat) (i7146 : Int) => slices_IndexFunc_string_string_s32.l1 k l0 ml1 i7146 = some r1) k 0 [] [] h ⟨rfl, ⟨rfl, rfl, rfl, rfl, rfl, trivial⟩, ⟨⟨0, rfl⟩, trivial⟩, rfl, by decide, rfl, by decide⟩ (by intros; simp [slices_IndexFunc_string_string_s32.l1]) <|
   ?_
  clear h
  intro ml1 ihl1 i7146 h
  simp only [slices_IndexFunc_string_string_s32.l1] at h
  refine sr <| VL.letter (decide (i7146 < (l0.length : Int))) fun b7164 hb7164 => va (op_cmp rfl rfl (congrArg some hb7164)) <| ds <| ?_
  replace h := iC h
  rcases h with ⟨c7166, h⟩ | ⟨c7166, h⟩
  · cases lT c7166 hb7164
    refine ct <| sk <| sq <| VC.block <| sr <| vm rfl <| vs rfl <| nx <| vm rfl <| vm rfl <| vm rfl <| ?_
    replace h := iN h
    obtain ⟨c7174, h⟩ := h
    replace h := bd h
    obtain ⟨x7175, hx7175, h⟩ := h
    refine VL.open (m := l0.length) 0 lenm rfl (pos_get hx7175) <| ?_
    rintro ad7176 n7177 rfl
    refine va (op_indexAddr Try.underlying22 TI9 rfl rfl c7174 (lt_get c7174 hx7175) rfl) <| va (op_load_row (sz := 1) (o := 0) 0 i7146.toNat 1 rfl rfl (get_map hx7175) TI9 rfl (by decide)) <| ?_
    replace h := bd h
    obtain ⟨t7178, hA7179, h⟩ := h
    refine sC (o_call0 FO67 (journal_waits_1.ok x7175 t7178 hA7179) rfl rfl (ltn rfl) (All_of .nil)) <| ?_
    rintro _ _ _ ⟨rfl, rfl, rfl⟩
    refine dt <| ?_
    replace h := iC h
    rcases h with ⟨c7180, h⟩ | ⟨c7180, h⟩
    · obtain rfl := c7180
      refine ct <| sr <| vm rfl <| vs rfl <| dt <| VC.ret <| VR.block <| VR.then <| VR.then <| VR.block <| VR.then <| ?_
      obtain rfl := Option.some.inj h
      exact VR.fn (rs := [.tmp 4]) [] [] [] rfl (.tmp rfl .nil) ⟨rfl, rfl, rfl⟩ trivial rfl (by decide)
    obtain rfl := Bool.eq_false_iff.2 c7180
    refine cf <| VC.skip <| VN.block <| tr <| va (op_ari64 rfl rfl rfl) <| vm rfl <| dn <| VN.again [] [] (ihl1 (wrap64 (i7146 + 1)) h) ⟨rfl, ⟨rfl, rfl, rfl, rfl, rfl, trivial⟩, ⟨⟨0, rfl⟩, trivial⟩, rfl, by decide, rfl, by decide⟩
  cases lF c7166 hb7164
  refine cf <| VC.exit <| VX.then <| VX.then <| VX.hit <| tx <| vs rfl <| dt <| VC.ret <| ?_
  obtain rfl := Option.some.inj h
  exact VR.fn (rs := [.tmp 4]) [] [] [] rfl (.tmp rfl .nil) ⟨rfl, rfl, rfl⟩ trivial rfl (by decide)

theorem slices_ContainsFunc_string_string_s32.ok (k : Nat) (l0 : List ByteArray) (v0 : Value) (r1 : Bool) (h : slices_ContainsFunc_string_string_s32.f k l0 = some r1) :
    VCalls Try.prog 53 [v0, (.func (.func 67) #[] #[])] [.row v0 1 (l0.map enc_str)] (fun v G own => v = .bool r1 ∧ G = [] ∧ own = []) := by
  refine VCalls.intro Try.func53 rfl (len rfl) fun E hC hW hD hU => ?_
  unfold slices_ContainsFunc_string_string_s32.f at h
  refine sr <| vs rfl <| nx <| vm rfl <| vm rfl <| ?_
  replace h := bd h
  obtain ⟨t7181, hA7182, h⟩ := h
  refine sC (o_call0 FO74 (slices_IndexFunc_string_string_s32.ok k l0 v0 t7181 hA7182) rfl rfl (ltn rfl) (All_of (.cons (mG 0 rfl) .nil))) <| ?_
  rintro _ _ _ ⟨rfl, rfl, rfl⟩
  refine VL.letter (decide (t7181 ≥ 0)) fun b7183 hb7183 => va (op_cmp rfl rfl (congrArg some hb7183)) <| vs rfl <| dt <| VC.ret <| ?_
  obtain rfl := Option.some.inj h
  subst hb7183
  exact VR.fn (rs := [.tmp 4]) [] [] [] rfl (.tmp rfl .nil) ⟨rfl, rfl, rfl⟩ trivial rfl (by decide)

theorem pack_Number.ok (k : Nat) (a0 : Int)  (r1 : ByteArray) (r2 : Int) (h : pack_Number.f k a0 = some (r1, r2)) :
    VCalls Try.prog 94 [.int .i64 a0] [] (fun v G own => v = .tuple #[.string r1, .int .i64 r2] ∧ G = [] ∧ own = []) := by
  refine VCalls.intro Try.func94 rfl (len rfl) fun E hC hW hD hU => ?_
  unfold pack_Number.f at h
  refine sr <| vs rfl <| vs rfl <| ds <| sr <| vm rfl <| ?_
  replace h := bd h
  obtain ⟨t7203, hA7204, h⟩ := h
  refine sC (o_call0 FO99 (pack_may.ok a0 t7203 hA7204) rfl rfl (ltn rfl) (All_of .nil)) <| ?_
  rintro _ _ _ ⟨rfl, rfl, rfl⟩
  replace h := iC h
  rcases h with ⟨c7205, h⟩ | ⟨c7205, h⟩
  · obtain rfl := c7205
    refine va (op_not rfl rfl) <| dt <| cf <| sk <| sr <| vm rfl <| va (op_ari64 rfl rfl rfl) <| vs rfl <| ds <| sr <| vm rfl <| VL.letter (decide (a0 < 0)) fun b7208 hb7208 => va (op_cmp rfl rfl (congrArg some hb7208)) <| dt <| ?_
    replace h := iC h
    rcases h with ⟨c7209, h⟩ | ⟨c7209, h⟩
    · cases lT c7209 hb7208
      refine ct <| rg <| vm rfl <| va (op_ari64 rfl rfl rfl) <| va (op_ari64 rfl rfl rfl) <| vs rfl <| nx <| vs rfl <| ds <| VC.block <| VC.nilRow' 5 1 <|
       VC.loop3 (fun (i7253 : Int) (v7255 : Value) (l7256 : List Int) => ⟨33, [(2, .string (⟨#[]⟩ : ByteArray)), (3, .int .i64 0), (4, .int .i64 i7253), (5, v7255)], [], [], [(v7255, 5, 1, l7256.map enc_intu8)]⟩) (fun (ml1 : Nat) (i7253 : Int) (v7255 : Value) (l7256 : List Int) => pack_Number.l1 k ml1 i7253 l7256 = some (r1, r2)) k (wrap64 ((wrap64 ((-2) * a0)) - 1)) (.slice none 0 0) ([] : List Int) [] [0] h ⟨rfl, ⟨rfl, rfl, rfl, rfl, trivial⟩, trivial, rfl, by decide, rfl, by decide⟩ (by intros; simp [pack_Number.l1]) <|
       ?_
      clear h
      intro ml1 ihl1 i7253 v7255 l7256 h
      simp only [pack_Number.l1] at h
      refine sq <| sr <| vm rfl <| VL.letter (decide (i7253 ≥ 128)) fun b7274 hb7274 => va (op_cmp rfl rfl (congrArg some hb7274)) <| dt <| ?_
      replace h := iC h
      rcases h with ⟨c7275, h⟩ | ⟨c7275, h⟩
      · cases lT c7275 hb7274
        refine ct <| sk <| sq <| VC.block <| rg <| vm rfl <| vm rfl <| va (op_rem rfl rfl (by decide) rfl) <| va (op_ari64 rfl rfl rfl) <| va (op_conv Try.underlying3 Try.underlying5 rfl rfl) <|
         sG (o_buildSlice (vals := [(0, .int .u8 (IntKind.u8.wrap (wrap64 ((i7253.tmod 128) + 128))))]) (cells := #[.int .u8 (IntKind.u8.wrap (wrap64 ((i7253.tmod 128) + 128)))]) (es := List.map enc_intu8 ([IntKind.u8.wrap (wrap64 ((i7253.tmod 128) + 128))] : List Int)) Try.underlying41 TI5 Z5 rfl (by decide) (by decide) (by kernel_rfl) (by kernel_rfl) rfl (flat_map enc_intu8_ok _)) fun v7277 => ?_
        replace h := iN h
        obtain ⟨c7278, h⟩ := h
        refine sG (o_append 1 appm Try.underlying41 EI5 rfl rfl rfl (.inr ⟨0, _, rfl⟩) (bndm c7278)) fun v7279 => vs rfl <| dn <| VN.block <| tr <| vm rfl <| va (op_quo rfl rfl (by decide) rfl) <| vs rfl <| dn <|
         VN.again [] [1] (ihl1 (IntKind.i64.wrap (i7253.tdiv 128)) v7279 (l7256 ++ ([IntKind.u8.wrap (wrap64 ((i7253.tmod 128) + 128))] : List Int)) h) ⟨rfl, ⟨rfl, rfl, rfl, rfl, trivial⟩, trivial, rfl, by decide, rfl, by decide⟩
      cases lF c7275 hb7274
      refine cf <| VC.exit <| VX.then <| VX.then <| VX.hit <| tx <| vm rfl <| vm rfl <| va (op_conv Try.underlying3 Try.underlying5 rfl rfl) <|
       sG (o_buildSlice (vals := [(0, .int .u8 (IntKind.u8.wrap i7253))]) (cells := #[.int .u8 (IntKind.u8.wrap i7253)]) (es := List.map enc_intu8 ([IntKind.u8.wrap i7253] : List Int)) Try.underlying41 TI5 Z5 rfl (by decide) (by decide) (by kernel_rfl) (by kernel_rfl) rfl (flat_map enc_intu8_ok _)) fun v7282 => ?_
      replace h := iN h
      obtain ⟨c7283, h⟩ := h
      refine sG (o_append 1 appm Try.underlying41 EI5 rfl rfl rfl (.inr ⟨0, _, rfl⟩) (bndm c7283)) fun v7284 => va (op_bytesStr_own (xs := (l7256 ++ ([IntKind.u8.wrap i7253] : List Int))) 1 rfl rfl Try.underlying41 Try.underlying9 Try.underlying5 rfl rfl) <| vs rfl <| vs rfl <| dt <| VC.ret <| ?_
      simp only [Option.some.injEq, Prod.mk.injEq] at h
      obtain ⟨rfl, rfl⟩ := h
      exact VR.fn (rs := [.tmp 2, .tmp 3]) [] [] [] rfl (.tmp rfl (.tmp rfl .nil)) ⟨rfl, rfl, rfl⟩ trivial rfl (by decide)
    cases lF c7209 hb7208
    refine cf <| sk <| sr <| vs rfl <| ds <| VC.block <| VC.nilRow' 5 1 <|
     VC.loop3 (fun (i7329 : Int) (v7331 : Value) (l7332 : List Int) => ⟨33, [(2, .string (⟨#[]⟩ : ByteArray)), (3, .int .i64 0), (4, .int .i64 i7329), (5, v7331)], [], [], [(v7331, 5, 1, l7332.map enc_intu8)]⟩) (fun (ml3 : Nat) (i7329 : Int) (v7331 : Value) (l7332 : List Int) => pack_Number.l3 k ml3 i7329 l7332 = some (r1, r2)) k (wrap64 (2 * a0)) (.slice none 0 0) ([] : List Int) [] [0] h ⟨rfl, ⟨rfl, rfl, rfl, rfl, trivial⟩, trivial, rfl, by decide, rfl, by decide⟩ (by intros; simp [pack_Number.l3]) <|
     ?_
    clear h
    intro ml3 ihl3 i7329 v7331 l7332 h
    simp only [pack_Number.l3] at h
    refine sq <| sr <| vm rfl <| VL.letter (decide (i7329 ≥ 128)) fun b7350 hb7350 => va (op_cmp rfl rfl (congrArg some hb7350)) <| dt <| ?_
    replace h := iC h
    rcases h with ⟨c7351, h⟩ | ⟨c7351, h⟩
    · cases lT c7351 hb7350
      refine ct <| sk <| sq <| VC.block <| rg <| vm rfl <| vm rfl <| va (op_rem rfl rfl (by decide) rfl) <| va (op_ari64 rfl rfl rfl) <| va (op_conv Try.underlying3 Try.underlying5 rfl rfl) <|
       sG (o_buildSlice (vals := [(0, .int .u8 (IntKind.u8.wrap (wrap64 ((i7329.tmod 128) + 128))))]) (cells := #[.int .u8 (IntKind.u8.wrap (wrap64 ((i7329.tmod 128) + 128)))]) (es := List.map enc_intu8 ([IntKind.u8.wrap (wrap64 ((i7329.tmod 128) + 128))] : List Int)) Try.underlying41 TI5 Z5 rfl (by decide) (by decide) (by kernel_rfl) (by kernel_rfl) rfl (flat_map enc_intu8_ok _)) fun v7353 => ?_
      replace h := iN h
      obtain ⟨c7354, h⟩ := h
      refine sG (o_append 1 appm Try.underlying41 EI5 rfl rfl rfl (.inr ⟨0, _, rfl⟩) (bndm c7354)) fun v7355 => vs rfl <| dn <| VN.block <| tr <| vm rfl <| va (op_quo rfl rfl (by decide) rfl) <| vs rfl <| dn <|
       VN.again [] [1] (ihl3 (IntKind.i64.wrap (i7329.tdiv 128)) v7355 (l7332 ++ ([IntKind.u8.wrap (wrap64 ((i7329.tmod 128) + 128))] : List Int)) h) ⟨rfl, ⟨rfl, rfl, rfl, rfl, trivial⟩, trivial, rfl, by decide, rfl, by decide⟩
    cases lF c7351 hb7350
    refine cf <| VC.exit <| VX.then <| VX.then <| VX.hit <| tx <| vm rfl <| vm rfl <| va (op_conv Try.underlying3 Try.underlying5 rfl rfl) <|
     sG (o_buildSlice (vals := [(0, .int .u8 (IntKind.u8.wrap i7329))]) (cells := #[.int .u8 (IntKind.u8.wrap i7329)]) (es := List.map enc_intu8 ([IntKind.u8.wrap i7329] : List Int)) Try.underlying41 TI5 Z5 rfl (by decide) (by decide) (by kernel_rfl) (by kernel_rfl) rfl (flat_map enc_intu8_ok _)) fun v7358 => ?_
    replace h := iN h
    obtain ⟨c7359, h⟩ := h
    refine sG (o_append 1 appm Try.underlying41 EI5 rfl rfl rfl (.inr ⟨0, _, rfl⟩) (bndm c7359)) fun v7360 => va (op_bytesStr_own (xs := (l7332 ++ ([IntKind.u8.wrap i7329] : List Int))) 1 rfl rfl Try.underlying41 Try.underlying9 Try.underlying5 rfl rfl) <| vs rfl <| vs rfl <| dt <| VC.ret <| ?_
    simp only [Option.some.injEq, Prod.mk.injEq] at h
    obtain ⟨rfl, rfl⟩ := h
    exact VR.fn (rs := [.tmp 2, .tmp 3]) [] [] [] rfl (.tmp rfl (.tmp rfl .nil)) ⟨rfl, rfl, rfl⟩ trivial rfl (by decide)
  obtain rfl := Bool.eq_false_iff.2 c7205
  refine va (op_not rfl rfl) <| dt <| ct <| sr <| vs rfl <| vs rfl <| dt <| VC.ret <| VR.then <| ?_
  simp only [Option.some.injEq, Prod.mk.injEq] at h
  obtain ⟨rfl, rfl⟩ := h
  exact VR.fn (rs := [.tmp 2, .tmp 3]) [] [] [] rfl (.tmp rfl (.tmp rfl .nil)) ⟨rfl, rfl, rfl⟩ trivial rfl (by decide)

theorem frame_Frame.ok (k : Nat) (a0 : ByteArray)  (r1 : ByteArray) (r2 : Int) (h : frame_Frame.f k a0 = some (r1, r2)) :
    VCalls Try.prog 82 [.string a0] [] (fun v G own => v = .tuple #[.string r1, .int .i64 r2] ∧ G = [] ∧ own = []) := by
  refine VCalls.intro Try.func82 rfl (len rfl) fun E hC hW hD hU => ?_
  unfold frame_Frame.f at h
  refine sr <| vs rfl <| vs rfl <| ds <| sr <| vm rfl <| va (op_lens Try.underlying9 rfl) <| VL.letter (decide ((a0.size : Int) > 4096)) fun b7192 hb7192 => va (op_cmp rfl rfl (congrArg some hb7192)) <| dt <| ?_
  replace h := iC h
  rcases h with ⟨c7193, h⟩ | ⟨c7193, h⟩
  · cases lT c7193 hb7192
    refine ct <| sr <| vs rfl <| vs rfl <| dt <| VC.ret <| VR.then <| ?_
    simp only [Option.some.injEq, Prod.mk.injEq] at h
    obtain ⟨rfl, rfl⟩ := h
    exact VR.fn (rs := [.tmp 2, .tmp 3]) [] [] [] rfl (.tmp rfl (.tmp rfl .nil)) ⟨rfl, rfl, rfl⟩ trivial rfl (by decide)
  cases lF c7193 hb7192
  refine cf <| sk <| sr <| vm rfl <| va (op_lens Try.underlying9 rfl) <| ?_
  replace h := bd h
  obtain ⟨⟨t7362, t7363⟩, hA7364, h⟩ := h
  dsimp only at h
  refine sC (o_call0 FO94 (pack_Number.ok k (a0.size : Int) t7362 t7363 hA7364) rfl rfl (ltn rfl) (All_of .nil)) <| ?_
  rintro _ _ _ ⟨rfl, rfl, rfl⟩
  refine vm rfl <| va (op_extract rfl rfl) <| va (op_extract rfl rfl) <| vs rfl <| vs rfl <| nx <| vm rfl <| vm rfl <| ?_
  replace h := iN h
  obtain ⟨c7365, h⟩ := h
  refine va (op_adds rfl rfl rfl c7365) <| vm rfl <| ?_
  replace h := bd h
  obtain ⟨t7366, hA7367, h⟩ := h
  refine sC (o_call0 FO90 (check_Of.ok k a0 t7366 hA7367) rfl rfl (ltn rfl) (All_of .nil)) <| ?_
  rintro _ _ _ ⟨rfl, rfl, rfl⟩
  replace h := bd h
  obtain ⟨t7368, hA7369, h⟩ := h
  refine sC (o_call0 FO89 (check_Bytes.ok k t7366 t7368 hA7369) rfl rfl (ltn rfl) (All_of .nil)) <| ?_
  rintro _ _ _ ⟨rfl, rfl, rfl⟩
  replace h := iN h
  obtain ⟨c7370, h⟩ := h
  refine va (op_adds rfl rfl rfl c7370) <| vs rfl <| vs rfl <| dt <| VC.ret <| ?_
  simp only [Option.some.injEq, Prod.mk.injEq] at h
  obtain ⟨rfl, rfl⟩ := h
  exact VR.fn (rs := [.tmp 2, .tmp 3]) [] [] [] rfl (.tmp rfl (.tmp rfl .nil)) ⟨rfl, rfl, rfl⟩ trivial rfl (by decide)

def lay_58_ren : Go.Shelf.Ren := ⟨fun | 166 => 58 | 240 => 77 | 276 => 91 | n => n, fun | 70 => 94 | 9 => 9 | 3 => 3 | 75 => 99 | 0 => 0 | 72 => 96 | 37 => 41 | 4 => 4 | 164 => 133 | 80 => 76 | 5 => 5 | n => n, fun | n => n⟩
theorem lay_58 : Go.Proofs.Lays.n166 Try.prog lay_58_ren where
  mixed := by kernel_rfl
  f166 := Try.func58.trans (congrArg some (by kernel_rfl))
  f240 := Try.func77.trans (congrArg some (by kernel_rfl))
  f276 := Try.func91.trans (congrArg some (by kernel_rfl))
  t0 := Try.underlying0
  a0 := Try.isAgg0
  z0 := Try.sizeOf0
  v0 := Try.zeroValue0
  t3 := Try.underlying3
  a3 := Try.isAgg3
  z3 := Try.sizeOf3
  v3 := Try.zeroValue3
  t4 := Try.underlying4
  a4 := Try.isAgg4
  z4 := Try.sizeOf4
  v4 := Try.zeroValue4
  t9 := Try.underlying9
  a9 := Try.isAgg9
  z9 := Try.sizeOf9
  v9 := Try.zeroValue9
  t20 := Try.underlying20
  a20 := Try.isAgg20
  z20 := Try.sizeOf20
  v20 := Try.zeroValue20
  t37 := Try.underlying41
  a37 := Try.isAgg41
  z37 := Try.sizeOf41
  v37 := Try.zeroValue41
  t70 := Try.underlying94
  a70 := Try.isAgg94
  z70 := Try.sizeOf94
  v70 := Try.zeroValue94
  t72 := Try.underlying96
  a72 := Try.isAgg96
  z72 := Try.sizeOf96
  v72 := Try.zeroValue96
  t75 := Try.underlying99
  a75 := Try.isAgg99
  z75 := Try.sizeOf99
  v75 := Try.zeroValue99
  t164 := Try.underlying133
  a164 := Try.isAgg133
  z164 := Try.sizeOf133
  v164 := Try.zeroValue133
theorem lay_58x : Go.Proofs.Builder.Extra Try.prog lay_58_ren where
  sizeBuilder := by kernel_rfl
  liesBuilder := by kernel_rfl
  t5 := Try.underlying5
  a5 := Try.isAgg5
  z5 := Try.sizeOf5
  v5 := Try.zeroValue5
  infoByte := by kernel_rfl
  cellsByte := by kernel_rfl
  sizeByte := by kernel_rfl
  neB5 := by decide

def lay_59_ren : Go.Shelf.Ren := ⟨fun | 169 => 59 | n => n, fun | 70 => 94 | 9 => 9 | 0 => 0 | 72 => 96 | 37 => 41 | 127 => 119 | 3 => 3 | 5 => 5 | n => n, fun | n => n⟩
theorem lay_59 : Go.Proofs.Lays.n169 Try.prog lay_59_ren where
  mixed := by kernel_rfl
  f169 := Try.func59.trans (congrArg some (by kernel_rfl))
  t0 := Try.underlying0
  a0 := Try.isAgg0
  z0 := Try.sizeOf0
  v0 := Try.zeroValue0
  t3 := Try.underlying3
  a3 := Try.isAgg3
  z3 := Try.sizeOf3
  v3 := Try.zeroValue3
  t9 := Try.underlying9
  a9 := Try.isAgg9
  z9 := Try.sizeOf9
  v9 := Try.zeroValue9
  t37 := Try.underlying41
  a37 := Try.isAgg41
  z37 := Try.sizeOf41
  v37 := Try.zeroValue41
  t70 := Try.underlying94
  a70 := Try.isAgg94
  z70 := Try.sizeOf94
  v70 := Try.zeroValue94
  t72 := Try.underlying96
  a72 := Try.isAgg96
  z72 := Try.sizeOf96
  v72 := Try.zeroValue96
  t127 := Try.underlying119
  a127 := Try.isAgg119
  z127 := Try.sizeOf119
  v127 := Try.zeroValue119
theorem lay_59x : Go.Proofs.Builder.Extra Try.prog lay_59_ren where
  sizeBuilder := by kernel_rfl
  liesBuilder := by kernel_rfl
  t5 := Try.underlying5
  a5 := Try.isAgg5
  z5 := Try.sizeOf5
  v5 := Try.zeroValue5
  infoByte := by kernel_rfl
  cellsByte := by kernel_rfl
  sizeByte := by kernel_rfl
  neB5 := by decide

theorem journal_frames.zb : (Try.prog.info? 96).bind (·.zero) = some (.agg #[.pointer none, .slice none 0 0]) := by kernel_rfl
theorem journal_frames.grows : ∀ (m : List ByteArray) (x : ByteArray), x.size ≤ (m.foldl (fun r s => r ++ s) x).size
  | [], x => Nat.le_refl _
  | s :: m, x => by
    have := journal_frames.grows m (x ++ s)
    rw [ByteArray.size_append] at this
    exact Nat.le_trans (Nat.le_add_right _ _) this
theorem journal_frames.ok (k : Nat) (l0 : List ByteArray) (v0 : Value) (r1 : ByteArray) (h : journal_frames.f k l0 = some r1) :
    VCalls Try.prog 68 [v0] [.row v0 1 (l0.map enc_str)] (fun v G own => v = .string r1 ∧ G = [] ∧ own = []) := by
  refine VCalls.introF Try.func68 rfl (len rfl) fun E hE hC hW hD hU => ?_
  unfold journal_frames.f at h
  by_cases ca : ¬ (l0.length ≤ 140737488355328 ∧ l0.all (fun s => (frame_Frame.f k s).isSome) = true ∧ ((l0.map (journal_frames.q k)).foldl (fun r s => r ++ s) (⟨#[]⟩ : ByteArray)).size ≤ 140737488355328)
  · rw [if_neg ca] at h; cases h
  replace ca := Decidable.not_not.1 ca
  rw [if_pos ca] at h
  obtain ⟨hlen, cb, cc⟩ := ca
  have h5 := Option.some.inj h
  clear h
  rw [h5] at cc
  rw [List.all_eq_true] at cb
  refine VC.seq (VC.region ?_)
  refine VL.va (op_assign rfl (ltn rfl)) rfl ?_
  refine VL.done (VN.then ?_)
  refine VC.seq (VC.region ?_)
  refine VL.sG (o_alloc journal_frames.zb rfl (ltn rfl)) rfl ?_
  intro b
  refine VL.done (VN.then ?_)
  refine VC.toBld (e := 5) 0 hU rfl fun hbB _ => ?_
  refine VC.seq ?_
  refine VC.seq (VC.region ?_)
  refine VL.va (op_move rfl (ltn rfl)) rfl ?_
  refine VL.va (op_len (m := l0.length) 1 lenm Try.underlying22 rfl rfl (ltn rfl)) rfl ?_
  refine VL.va (op_move rfl (ltn rfl)) rfl ?_
  refine VL.done (VN.then ?_)
  refine VC.block ?_
  refine VC.loop3 (fun (i : Nat) (g : Nat) (X : ByteArray) => ⟨23, [(3, .pointer (some ⟨b, 0, none⟩)), (8, v0), (9, .int .i64 (l0.length : Int)), (10, .int .i64 i)], [.bld 96 5 b g X, .row v0 1 (l0.map enc_str)], [], []⟩)
    (fun k' i g X => i + k' = l0.length + 1 ∧ i ≤ l0.length ∧ ((l0.drop i).map (journal_frames.q k)).foldl (fun r s => r ++ s) X = r1)
    (l0.length + 1) 0 b ⟨#[]⟩ [] [] ⟨by omega, by omega, h5⟩ ⟨rfl, ⟨rfl, rfl, rfl, rfl, trivial⟩, ⟨⟨0, rfl⟩, ⟨1, rfl⟩, trivial⟩, rfl, by decide, rfl, by decide⟩ (by rintro i g X ⟨h1, h2, _⟩; omega) ?_
  clear h5
  rintro k' ih i g X ⟨hk, hil, h5⟩
  refine VC.seq (VC.region ?_)
  refine VL.letter (decide ((i : Int) < (l0.length : Int))) fun b1 hb1 => ?_
  refine VL.va (op_cmp rfl rfl (congrArg some hb1) (ltn rfl)) rfl ?_
  refine VL.done (VN.then ?_)
  refine VC.seq ?_
  by_cases c1 : i < l0.length
  · obtain rfl : b1 = true := hb1.symm.trans (decide_eq_true (by omega))
    clear hb1
    refine VC.cond_t rfl (VC.skip (VN.then ?_))
    have hx : l0[i]? = some l0[i] := List.getElem?_eq_getElem c1
    have hsm : l0[i] ∈ l0 := List.getElem_mem c1
    have hdr : l0.drop i = l0[i] :: l0.drop (i + 1) := List.drop_eq_getElem_cons c1
    generalize l0[i] = s at hx hsm hdr
    rw [hdr, List.map_cons, List.foldl_cons] at h5
    obtain ⟨⟨nn, ee⟩, hn⟩ := Option.isSome_iff_exists.1 (cb s hsm)
    have hq : journal_frames.q k s = nn := by unfold journal_frames.q; rw [hn]; rfl
    rw [hq] at h5
    have hsz := journal_frames.grows ((l0.drop (i + 1)).map (journal_frames.q k)) (X ++ nn)
    rw [h5, ByteArray.size_append] at hsz
    refine VC.seq (VC.block ?_)
    refine VC.seq (VC.region ?_)
    refine VL.open (m := l0.length) 1 lenm rfl (by omega) ?_
    rintro ad n rfl
    refine VL.va (op_indexAddr Try.underlying22 TI9 rfl rfl (Int.natCast_nonneg i) (by omega) rfl (ltn rfl)) rfl ?_
    refine VL.va (op_load_row (sz := 1) (o := 0) 1 i 1 rfl rfl (get_map hx) TI9 rfl (by decide) (ltn rfl)) rfl ?_
    refine VL.va (op_assign rfl (ltn rfl)) rfl ?_
    refine VL.done (VN.then ?_)
    refine VC.seq (VC.region ?_)
    refine VL.va (op_move rfl (ltn rfl)) rfl ?_
    refine VL.sC (o_call0 FO82 (frame_Frame.ok k s nn ee hn) rfl rfl (ltn rfl) (All_of .nil)) rfl ?_
    rintro _ _ _ ⟨rfl, rfl, rfl⟩
    refine VL.va (op_move rfl (ltn rfl)) rfl ?_
    refine VL.va (op_extract (vs := [.string nn, .int .i64 ee]) rfl rfl (ltn rfl)) rfl ?_
    refine VL.va (op_extract (vs := [.string nn, .int .i64 ee]) rfl rfl (ltn rfl)) rfl ?_
    refine VL.va (op_assign rfl (ltn rfl)) rfl ?_
    refine VL.va (op_assign rfl (ltn rfl)) rfl ?_
    refine VL.done (VN.then ?_)
    refine VC.region ?_
    refine VL.va (op_move rfl (ltn rfl)) rfl ?_
    refine VL.step (o_write [] [.row (.slice (some ad) l0.length n) 1 (l0.map enc_str)] FO58 lay_58 lay_58x rfl rfl rfl hbB (List.mem_cons_self ..) (fun _ h => by cases h) hE hC rfl rfl rfl (by omega) (ltn rfl)) rfl ?_
    rintro _ ⟨g2, -, rfl⟩
    refine VL.done (VN.block (VN.then ?_))
    refine VC.region ?_
    refine VL.va (op_ari64 (q := ((i + 1 : Nat) : Int)) rfl rfl (congrArg some (by show wrap64 ((i : Int) + 1) = _; unfold wrap64; omega)) (ltn rfl)) rfl ?_
    refine VL.va (op_move rfl (ltn rfl)) rfl ?_
    refine VL.done ?_
    exact VN.again [] [] (ih (i + 1) g2 (X ++ nn) ⟨by omega, by omega, h5⟩) ⟨rfl, ⟨rfl, rfl, rfl, rfl, trivial⟩, ⟨⟨0, rfl⟩, ⟨1, rfl⟩, trivial⟩, rfl, by decide, rfl, by decide⟩
  obtain rfl : b1 = false := hb1.symm.trans (decide_eq_false (by omega))
  clear hb1 ih
  obtain rfl : i = l0.length := by omega
  rw [List.drop_length] at h5
  obtain rfl := h5
  refine VC.cond_f rfl ?_
  refine VC.exit (VX.then (VX.then (VX.hit (VN.then ?_))))
  refine VC.seq (VC.region ?_)
  refine VL.step1 (o_bstring FO59 lay_59 lay_59x rfl rfl rfl hbB (List.mem_cons_self ..) rfl rfl (ltn rfl)) rfl ?_
  refine VL.va (op_assign rfl (ltn rfl)) rfl ?_
  refine VL.done (VN.then ?_)
  refine VC.ret ?_
  exact VR.fn (rs := [.tmp 2]) [] [] [] rfl (.tmp rfl .nil) ⟨rfl, rfl, rfl⟩ trivial rfl (by decide)

theorem journal_waits.ok (k : Nat) (l0_0 : List ByteArray) (l0_1 : List S55) (a0_2 : Int) (a0_3 : Int) (a0_4 : Int) (l0_5 : List ByteArray) (l0_6 : List ByteArray) (l1 : List ByteArray) (v0_0 : Value) (v0_1 : Value) (v0_5 : Value) (v0_6 : Value) (v1 : Value) (r1 : Int) (h : journal_waits.f k l0_0 l0_1 a0_2 a0_3 a0_4 l0_5 l0_6 l1 = some r1) :
    VCalls Try.prog 35 [.agg #[v0_0, v0_1, .int .i64 a0_2, .int .i64 a0_3, .int .i64 a0_4, v0_5, v0_6], v1] [.row v0_0 1 (l0_0.map enc_str), .row v0_1 2 (l0_1.map enc55), .row v0_5 1 (l0_5.map enc_str), .row v0_6 1 (l0_6.map enc_str), .row v1 1 (l1.map enc_str)] (fun v G own => v = .int .i64 r1 ∧ G = [] ∧ own = []) := by
  refine VCalls.intro Try.func35 rfl (len rfl) fun E hC hW hD hU => ?_
  unfold journal_waits.f at h
  refine sr <| sG (o_box rfl (.agg (.f 0 rfl (.f 1 rfl (.c rfl (.c rfl (.c rfl (.f 2 rfl (.f 3 rfl .nil))))))))) fun g7077 => vs rfl <| ds <| sr <| vm rfl <| ?_
  replace h := bd h
  obtain ⟨t7187, hA7188, h⟩ := h
  refine sC (o_call0 FO53 (slices_ContainsFunc_string_string_s32.ok k l1 v1 t7187 hA7188) rfl rfl (ltn rfl) (All_of (.cons (mG 4 rfl) .nil))) <| ?_
  rintro _ _ _ ⟨rfl, rfl, rfl⟩
  refine dt <| ?_
  replace h := iC h
  rcases h with ⟨c7189, h⟩ | ⟨c7189, h⟩
  · obtain rfl := c7189
    refine ct <| sr <| vs rfl <| dt <| VC.ret <| VR.then <| ?_
    obtain rfl := Option.some.inj h
    exact VR.fn (rs := [.tmp 4]) [] [] [] rfl (.tmp rfl .nil) ⟨rfl, rfl, rfl⟩ trivial rfl (by decide)
  obtain rfl := Bool.eq_false_iff.2 c7189
  refine cf <| sk <| sq <| sr <| vm rfl <| ?_
  replace h := bd h
  obtain ⟨t7381, hA7382, h⟩ := h
  refine sC (o_call0 FO68 (journal_frames.ok k l1 v1 t7381 hA7382) rfl rfl (ltn rfl) (All_of (.cons (mG 4 rfl) .nil))) <| ?_
  rintro _ _ _ ⟨rfl, rfl, rfl⟩
  refine va (op_lens Try.underlying9 rfl) <| vs rfl <| dt <| VC.letter (decide ((l1.length : Int) > 16)) fun b7383 hb7383 => ?_
  replace h := iC h
  rcases h with ⟨c7384, h⟩ | ⟨c7384, h⟩
  · cases lT c7384 hb7383
    refine VC.join0 (⟨30, [(4, .int .i64 0), (29, .bool true)], [], [], []⟩) (True) ?_ ?_
    · exact VC.draw ⟨0, [], [.row v1 1 (l1.map enc_str)], [], []⟩ (by kernel_rfl) rfl (by kernel_rfl) (n := 19) (listed := LB 19 0) <| aw 0 1 rfl (mv rfl) ⟨⟨⟨4, rfl⟩, trivial⟩, trivial, trivial⟩ <|
       aw 1 3 rfl (op_len (m := l1.length) 0 lenm Try.underlying22 rfl rfl) ⟨⟨⟨4, rfl⟩, trivial⟩, trivial, trivial⟩ <| aw 2 7 rfl (op_cmp rfl rfl (congrArg some hb7383)) ⟨⟨⟨4, rfl⟩, trivial⟩, trivial, trivial⟩ <| aw 3 15 rfl (mv rfl) ⟨⟨⟨4, rfl⟩, trivial⟩, trivial, trivial⟩ <|
       aU 4 31 rfl rfl ⟨⟨⟨4, rfl⟩, trivial⟩, trivial, trivial⟩ <| aU 5 63 rfl rfl ⟨⟨⟨4, rfl⟩, trivial⟩, trivial, trivial⟩ <| aw 6 127 rfl (op_pick rfl rfl) ⟨⟨⟨4, rfl⟩, trivial⟩, trivial, trivial⟩ <| aw 7 255 rfl (mv rfl) ⟨⟨⟨4, rfl⟩, trivial⟩, trivial, trivial⟩ <|
       aU 8 511 rfl rfl ⟨⟨⟨4, rfl⟩, trivial⟩, trivial, trivial⟩ <| aU 9 1023 rfl rfl ⟨⟨⟨4, rfl⟩, trivial⟩, trivial, trivial⟩ <| aU 10 2047 rfl rfl ⟨⟨⟨4, rfl⟩, trivial⟩, trivial, trivial⟩ <| aU 11 4095 rfl rfl ⟨⟨⟨4, rfl⟩, trivial⟩, trivial, trivial⟩ <|
       aU 12 8191 rfl rfl ⟨⟨⟨4, rfl⟩, trivial⟩, trivial, trivial⟩ <| aU 13 16383 rfl rfl ⟨⟨⟨4, rfl⟩, trivial⟩, trivial, trivial⟩ <| aU 14 32767 rfl rfl ⟨⟨⟨4, rfl⟩, trivial⟩, trivial, trivial⟩ <| aU 15 65535 rfl rfl ⟨⟨⟨4, rfl⟩, trivial⟩, trivial, trivial⟩ <|
       aU 16 131071 rfl rfl ⟨⟨⟨4, rfl⟩, trivial⟩, trivial, trivial⟩ <| aU 17 262143 rfl rfl ⟨⟨⟨4, rfl⟩, trivial⟩, trivial, trivial⟩ <| aw 18 524287 rfl (op_pick rfl rfl) ⟨⟨⟨4, rfl⟩, trivial⟩, trivial, trivial⟩ <| VA.done (by kernel_rfl) <|
       VN.meet0  [] [] trivial ⟨rfl, ⟨rfl, rfl, trivial⟩, trivial, rfl, by decide, rfl, by decide⟩
    intro _
    refine ct <| sr <| vs rfl <| dt <| VC.ret <| VR.then <| ?_
    obtain rfl := Option.some.inj h
    exact VR.fn (rs := [.tmp 4]) [] [] [] rfl (.tmp rfl .nil) ⟨rfl, rfl, rfl⟩ trivial rfl (by decide)
  cases lF c7384 hb7383
  refine VC.letter (decide ((t7381.size : Int) > 3000)) fun b7385 hb7385 => ?_
  replace h := iC h
  rcases h with ⟨c7386, h⟩ | ⟨c7386, h⟩
  · cases lT c7386 hb7385
    refine VC.join0 (⟨30, [(4, .int .i64 0), (29, .bool true)], [], [], []⟩) (True) ?_ ?_
    · exact VC.draw ⟨0, [], [.row v1 1 (l1.map enc_str)], [], []⟩ (by kernel_rfl) rfl (by kernel_rfl) (n := 19) (listed := LB 19 0) <| aw 0 1 rfl (mv rfl) ⟨⟨⟨4, rfl⟩, trivial⟩, trivial, trivial⟩ <|
       aw 1 3 rfl (op_len (m := l1.length) 0 lenm Try.underlying22 rfl rfl) ⟨⟨⟨4, rfl⟩, trivial⟩, trivial, trivial⟩ <| aw 2 7 rfl (op_cmp rfl rfl (congrArg some hb7383)) ⟨⟨⟨4, rfl⟩, trivial⟩, trivial, trivial⟩ <| aw 3 15 rfl (mv rfl) ⟨⟨⟨4, rfl⟩, trivial⟩, trivial, trivial⟩ <|
       aw 4 31 rfl (mv rfl) ⟨⟨⟨4, rfl⟩, trivial⟩, trivial, trivial⟩ <| aw 5 63 rfl (op_cmp rfl rfl (congrArg some hb7385)) ⟨⟨⟨4, rfl⟩, trivial⟩, trivial, trivial⟩ <| aw 6 127 rfl (op_pick rfl rfl) ⟨⟨⟨4, rfl⟩, trivial⟩, trivial, trivial⟩ <| aw 7 255 rfl (mv rfl) ⟨⟨⟨4, rfl⟩, trivial⟩, trivial, trivial⟩ <|
       aU 8 511 rfl rfl ⟨⟨⟨4, rfl⟩, trivial⟩, trivial, trivial⟩ <| aU 9 1023 rfl rfl ⟨⟨⟨4, rfl⟩, trivial⟩, trivial, trivial⟩ <| aU 10 2047 rfl rfl ⟨⟨⟨4, rfl⟩, trivial⟩, trivial, trivial⟩ <| aU 11 4095 rfl rfl ⟨⟨⟨4, rfl⟩, trivial⟩, trivial, trivial⟩ <|
       aU 12 8191 rfl rfl ⟨⟨⟨4, rfl⟩, trivial⟩, trivial, trivial⟩ <| aU 13 16383 rfl rfl ⟨⟨⟨4, rfl⟩, trivial⟩, trivial, trivial⟩ <| aU 14 32767 rfl rfl ⟨⟨⟨4, rfl⟩, trivial⟩, trivial, trivial⟩ <| aU 15 65535 rfl rfl ⟨⟨⟨4, rfl⟩, trivial⟩, trivial, trivial⟩ <|
       aU 16 131071 rfl rfl ⟨⟨⟨4, rfl⟩, trivial⟩, trivial, trivial⟩ <| aU 17 262143 rfl rfl ⟨⟨⟨4, rfl⟩, trivial⟩, trivial, trivial⟩ <| aw 18 524287 rfl (op_pick rfl rfl) ⟨⟨⟨4, rfl⟩, trivial⟩, trivial, trivial⟩ <| VA.done (by kernel_rfl) <|
       VN.meet0  [] [] trivial ⟨rfl, ⟨rfl, rfl, trivial⟩, trivial, rfl, by decide, rfl, by decide⟩
    intro _
    refine ct <| sr <| vs rfl <| dt <| VC.ret <| VR.then <| ?_
    obtain rfl := Option.some.inj h
    exact VR.fn (rs := [.tmp 4]) [] [] [] rfl (.tmp rfl .nil) ⟨rfl, rfl, rfl⟩ trivial rfl (by decide)
  cases lF c7386 hb7385
  replace h := bd h
  obtain ⟨t7387, hA7388, h⟩ := h
  refine VC.letter (decide ((wrap64 (a0_4 + (t7381.size : Int))) > t7387)) fun b7389 hb7389 => VC.join0 (⟨30, [(4, .int .i64 0), (29, .bool b7389)], [], [], []⟩) (True) ?_ ?_
  · refine VC.draw ⟨0, [], [.row v0_0 1 (l0_0.map enc_str), .row v1 1 (l1.map enc_str)], [(g7077, 27, [v0_0, v0_1, .int .i64 a0_2, .int .i64 a0_3, .int .i64 a0_4, v0_5, v0_6])], []⟩ (by kernel_rfl) rfl (by kernel_rfl) (n := 19) (listed := LB 19 0) <|
     aw 0 1 rfl (mv rfl) ⟨⟨⟨0, rfl⟩, ⟨4, rfl⟩, trivial⟩, ⟨⟨0, rfl⟩, trivial⟩, trivial⟩ <| aw 1 3 rfl (op_len (m := l1.length) 1 lenm Try.underlying22 rfl rfl) ⟨⟨⟨0, rfl⟩, ⟨4, rfl⟩, trivial⟩, ⟨⟨0, rfl⟩, trivial⟩, trivial⟩ <|
     aw 2 7 rfl (op_cmp rfl rfl (congrArg some hb7383)) ⟨⟨⟨0, rfl⟩, ⟨4, rfl⟩, trivial⟩, ⟨⟨0, rfl⟩, trivial⟩, trivial⟩ <| aw 3 15 rfl (mv rfl) ⟨⟨⟨0, rfl⟩, ⟨4, rfl⟩, trivial⟩, ⟨⟨0, rfl⟩, trivial⟩, trivial⟩ <| aw 4 31 rfl (mv rfl) ⟨⟨⟨0, rfl⟩, ⟨4, rfl⟩, trivial⟩, ⟨⟨0, rfl⟩, trivial⟩, trivial⟩ <|
     aw 5 63 rfl (op_cmp rfl rfl (congrArg some hb7385)) ⟨⟨⟨0, rfl⟩, ⟨4, rfl⟩, trivial⟩, ⟨⟨0, rfl⟩, trivial⟩, trivial⟩ <| aw 6 127 rfl (op_pick rfl rfl) ⟨⟨⟨0, rfl⟩, ⟨4, rfl⟩, trivial⟩, ⟨⟨0, rfl⟩, trivial⟩, trivial⟩ <| aw 7 255 rfl (mv rfl) ⟨⟨⟨0, rfl⟩, ⟨4, rfl⟩, trivial⟩, ⟨⟨0, rfl⟩, trivial⟩, trivial⟩ <|
     aw 8 511 rfl (op_fieldAddr FI27_3 rfl (add_at _ _ _)) ⟨⟨⟨0, rfl⟩, ⟨4, rfl⟩, trivial⟩, ⟨⟨0, rfl⟩, trivial⟩, trivial⟩ <| aw 9 1023 rfl (op_load 0 1 rfl rfl TI3 rfl (by decide)) ⟨⟨⟨0, rfl⟩, ⟨4, rfl⟩, trivial⟩, ⟨⟨0, rfl⟩, trivial⟩, trivial⟩ <|
     aw 10 2047 rfl (mv rfl) ⟨⟨⟨0, rfl⟩, ⟨4, rfl⟩, trivial⟩, ⟨⟨0, rfl⟩, trivial⟩, trivial⟩ <| aw 11 4095 rfl (op_ari64 rfl rfl rfl) ⟨⟨⟨0, rfl⟩, ⟨4, rfl⟩, trivial⟩, ⟨⟨0, rfl⟩, trivial⟩, trivial⟩ <|
     aw 12 8191 rfl (op_fieldAddr FI27_0 rfl (add_at _ _ _)) ⟨⟨⟨0, rfl⟩, ⟨4, rfl⟩, trivial⟩, ⟨⟨0, rfl⟩, trivial⟩, trivial⟩ <| aw 13 16383 rfl (op_fieldAddr FI25_0 rfl (add_at _ _ _)) ⟨⟨⟨0, rfl⟩, ⟨4, rfl⟩, trivial⟩, ⟨⟨0, rfl⟩, trivial⟩, trivial⟩ <|
     aw 14 32767 rfl (op_load 0 1 rfl rfl TI22 rfl (by decide)) ⟨⟨⟨0, rfl⟩, ⟨4, rfl⟩, trivial⟩, ⟨⟨0, rfl⟩, trivial⟩, trivial⟩ <| aw 15 65535 rfl (op_len (m := l0_0.length) 0 lenm Try.underlying22 rfl rfl) ⟨⟨⟨0, rfl⟩, ⟨4, rfl⟩, trivial⟩, ⟨⟨0, rfl⟩, trivial⟩, trivial⟩ <|
     VA.oneC (i := 16) (listed' := LB 19 131071) (by kernel_rfl) rfl (o_call0 FO55 (journal_room.ok (l0_0.length : Int) t7387 hA7388) rfl rfl (ltn rfl) (All_of .nil)) rfl (by kernel_rfl) <| ?_
    rintro _ _ _ ⟨rfl, rfl, rfl⟩
    refine ⟨⟨⟨⟨0, rfl⟩, ⟨4, rfl⟩, trivial⟩, ⟨⟨0, rfl⟩, trivial⟩, trivial⟩, ?_⟩
    exact aw 17 262143 rfl (op_cmp rfl rfl (congrArg some hb7389)) ⟨⟨⟨0, rfl⟩, ⟨4, rfl⟩, trivial⟩, ⟨⟨0, rfl⟩, trivial⟩, trivial⟩ <| aw 18 524287 rfl (op_pick rfl rfl) ⟨⟨⟨0, rfl⟩, ⟨4, rfl⟩, trivial⟩, ⟨⟨0, rfl⟩, trivial⟩, trivial⟩ <| VA.done (by kernel_rfl) <|
     VN.meet0  [] [] trivial ⟨rfl, ⟨rfl, rfl, trivial⟩, trivial, rfl, by decide, rfl, by decide⟩
  intro _
  replace h := iC h
  rcases h with ⟨c7390, h⟩ | ⟨c7390, h⟩
  · cases lT c7390 hb7389
    refine ct <| sr <| vs rfl <| dt <| VC.ret <| VR.then <| ?_
    obtain rfl := Option.some.inj h
    exact VR.fn (rs := [.tmp 4]) [] [] [] rfl (.tmp rfl .nil) ⟨rfl, rfl, rfl⟩ trivial rfl (by decide)
  cases lF c7390 hb7389
  refine cf <| sk <| sr <| vs rfl <| dt <| VC.ret <| ?_
  obtain rfl := Option.some.inj h
  exact VR.fn (rs := [.tmp 4]) [] [] [] rfl (.tmp rfl .nil) ⟨rfl, rfl, rfl⟩ trivial rfl (by decide)

end Go.Proofs.Ytipeglbeongfmaa.PJournalLives
