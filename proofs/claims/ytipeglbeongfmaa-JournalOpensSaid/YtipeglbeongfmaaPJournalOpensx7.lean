/- Written by a program of this repo: what the program's functions do, each as a Lean function, shown of the loaded code; or a statement's row over that; no condition of its own. -/
import Derived.Test.YtipeglbeongfmaaPJournalOpensx6
namespace Go.Proofs.Ytipeglbeongfmaa.PJournalOpens
open Go Go.RowKit Go.Proofs.YtipeglbeongfmaaV
set_option linter.unusedVariables false
set_option linter.unusedSimpArgs false
set_option maxHeartbeats 4000000
set_option maxRecDepth 100000

theorem tarryref05_low.ok (k : Nat) (a0 : Int) (a1 : Int)  (r1 : ByteArray) (h : tarryref05_low.f k a0 a1 = some r1) :
    VCalls Try.prog 42 [iv a0, iv a1] [] (fun v G own => v = .string r1 ∧ G = [] ∧ own = []) := by
  refine VCalls.intro Try.func42 rfl (len rfl) fun E hC hW hD hU => ?_
  unfold tarryref05_low.f at h
  refine sr <| vs rfl <| nx <| sG (o_buildSlice (vals := []) (cells := #[]) (es := List.map enc_intu8 ([] : List Int)) Try.underlying41 TI5 Z5 rfl (by decide) (by decide) (by kernel_rfl) (by kernel_rfl) rfl (flat_map enc_intu8_ok _)) fun v7304 => vs rfl <| ds <| sr <| vs rfl <| dt <| VC.block <|
   VC.loop4 (fun (i7346 : Int) (v7348 : Value) (l7349 : List Int) (i7350 : Int) => ⟨23, [(0, iv i7346), (1, iv a1), (4, .string (⟨#[]⟩ : ByteArray)), (5, v7348), (6, iv i7350)], [], [], [(v7348, 5, 1, l7349.map enc_intu8)]⟩) (fun (ml1 : Nat) (i7346 : Int) (v7348 : Value) (l7349 : List Int) (i7350 : Int) => tarryref05_low.l1 k a1 ml1 i7346 l7349 i7350 = some r1) k a0 v7304 ([] : List Int) 0 [] [0] h ⟨rfl, ⟨rfl, rfl, rfl, rfl, rfl, trivial⟩, trivial, rfl, by decide, rfl, by decide⟩ (by intros; simp [tarryref05_low.l1]) <|
   ?_
  clear h
  intro ml1 ihl1 i7346 v7348 l7349 i7350 h
  simp only [tarryref05_low.l1] at h
  refine sq <| sr <| vm rfl <| vm rfl <| VL.letter (decide (i7350 < a1)) fun b7362 hb7362 => va (op_cmp rfl rfl (congrArg some hb7362)) <| dt <| ?_
  replace h := iC h
  rcases h with ⟨c7363, h⟩ | ⟨c7363, h⟩
  · cases lT c7363 hb7362
    refine ct <| sk <| sq <| VC.block <| sr <| vm rfl <| vm rfl <| va (op_rem rfl rfl (by decide) rfl) <| va (op_conv Try.underlying3 Try.underlying5 rfl rfl) <|
     sG (o_buildSlice (vals := [(0, .int .u8 (IntKind.u8.wrap (i7346.tmod 256)))]) (cells := #[.int .u8 (IntKind.u8.wrap (i7346.tmod 256))]) (es := List.map enc_intu8 ([IntKind.u8.wrap (i7346.tmod 256)] : List Int)) Try.underlying41 TI5 Z5 rfl (by decide) (by decide) (by kernel_rfl) (by kernel_rfl) rfl (flat_map enc_intu8_ok _)) fun v7365 => ?_
    replace h := iN h
    obtain ⟨c7366, h⟩ := h
    refine sG (o_append 1 appm Try.underlying41 EI5 rfl rfl rfl (.inr ⟨0, _, rfl⟩) (bndm c7366)) fun v7367 => vs rfl <| dr <| vm rfl <| va (op_quo rfl rfl (by decide) rfl) <| vs rfl <| dn <| VN.block <| tr <| vm rfl <| va (op_ari64 rfl rfl rfl) <| vs rfl <| dn <|
     VN.again [] [1] (ihl1 (IntKind.i64.wrap (i7346.tdiv 256)) v7367 (l7349 ++ ([IntKind.u8.wrap (i7346.tmod 256)] : List Int)) (wrap64 (i7350 + 1)) h)
  cases lF c7363 hb7362
  refine cf <| VC.exit <| VX.then <| VX.then <| VX.hit <| tx <| vm rfl <| va (op_bytesStr_own (xs := l7349) 0 rfl rfl Try.underlying41 Try.underlying9 Try.underlying5 rfl rfl) <| vs rfl <| dt <| VC.ret <| ?_
  obtain rfl := Option.some.inj h
  exact rq 4 rfl ⟨rfl, rfl, rfl⟩

theorem tarryref05_Head.ok (k : Nat) (a0 : Int) (a1 : Int) (a2 : Int)  (r1 : ByteArray) (h : tarryref05_Head.f k a0 a1 a2 = some r1) :
    VCalls Try.prog 16 [iv a0, iv a1, iv a2] [] (fun v G own => v = .string r1 ∧ G = [] ∧ own = []) := by
  refine VCalls.intro Try.func16 rfl (len rfl) fun E hC hW hD hU => ?_
  unfold tarryref05_Head.f at h
  refine sr <| vs rfl <| nx <| vm rfl <| ?_
  replace h := bd h
  obtain ⟨t7369, hA7370, h⟩ := h
  refine sC (o_call0 FO42 (tarryref05_low.ok k a1 1 t7369 hA7370) rfl rfl (ltn rfl) (All_of .nil)) <| ?_
  rintro _ _ _ ⟨rfl, rfl, rfl⟩
  replace h := iN h
  obtain ⟨c7371, h⟩ := h
  refine va (op_adds rfl rfl rfl c7371) <| vm rfl <| ?_
  replace h := bd h
  obtain ⟨t7372, hA7373, h⟩ := h
  refine sC (o_call0 FO42 (tarryref05_low.ok k a0 8 t7372 hA7373) rfl rfl (ltn rfl) (All_of .nil)) <| ?_
  rintro _ _ _ ⟨rfl, rfl, rfl⟩
  replace h := iN h
  obtain ⟨c7374, h⟩ := h
  refine va (op_adds rfl rfl rfl c7374) <| vm rfl <| ?_
  replace h := bd h
  obtain ⟨t7375, hA7376, h⟩ := h
  refine sC (o_call0 FO42 (tarryref05_low.ok k a2 4 t7375 hA7376) rfl rfl (ltn rfl) (All_of .nil)) <| ?_
  rintro _ _ _ ⟨rfl, rfl, rfl⟩
  replace h := iN h
  obtain ⟨c7377, h⟩ := h
  refine va (op_adds rfl rfl rfl c7377) <| vs rfl <| ds <| VC.block <|
   VC.loop1 (fun (s7399 : ByteArray) => ⟨25, [(6, .string (⟨#[]⟩ : ByteArray)), (7, .string s7399)], [], [], []⟩) (fun (ml1 : Nat) (s7399 : ByteArray) => tarryref05_Head.l1 k ml1 s7399 = some r1) k ((((⟨#[116, 97, 114, 114, 121]⟩ : ByteArray) ++ t7369) ++ t7372) ++ t7375) [] [] h ⟨rfl, ⟨rfl, rfl, trivial⟩, trivial, rfl, by decide, rfl, by decide⟩ (by intros; simp [tarryref05_Head.l1]) <|
   ?_
  clear h
  intro ml1 ihl1 s7399 h
  simp only [tarryref05_Head.l1] at h
  refine sq <| sr <| vm rfl <| va (op_lens Try.underlying9 rfl) <| VL.letter (decide ((s7399.size : Int) < 32)) fun b7408 hb7408 => va (op_cmp rfl rfl (congrArg some hb7408)) <| dt <| ?_
  replace h := iC h
  rcases h with ⟨c7409, h⟩ | ⟨c7409, h⟩
  · cases lT c7409 hb7408
    refine ct <| sk <| VC.block <| rg <| vm rfl <| ?_
    replace h := iN h
    obtain ⟨c7410, h⟩ := h
    refine va (op_adds rfl rfl rfl c7410) <| vs rfl <| dn <| VN.block <| VN.again [] [] (ihl1 (s7399 ++ (⟨#[0]⟩ : ByteArray)) h)
  cases lF c7409 hb7408
  refine cf <| VC.exit <| VX.then <| VX.then <| VX.hit <| tx <| vm rfl <| vm rfl <| ?_
  replace h := iN h
  obtain ⟨c7411, h⟩ := h
  refine va (op_adds rfl rfl rfl c7411) <| vs rfl <| dt <| VC.ret <| ?_
  obtain rfl := Option.some.inj h
  exact rq 6 rfl ⟨rfl, rfl, rfl⟩

end Go.Proofs.Ytipeglbeongfmaa.PJournalOpens
