/- Written by a program of this repo: what the program's functions do, each as a Lean function, shown of the loaded code; or a statement's row over that; no condition of its own. -/
import Derived.Test.YtacenfolbmdpoaaPPackBackx1
namespace Go.Proofs.Ytacenfolbmdpoaa.PPackBack
open Go Go.RowKit Go.Proofs.YtacenfolbmdpoaaV
set_option linter.unusedVariables false
set_option linter.unusedSimpArgs false

def lay_28_ren : Go.Shelf.Ren := ⟨fun | 166 => 28 | 240 => 32 | 276 => 33 | n => n, fun | 70 => 55 | 9 => 9 | 3 => 3 | 75 => 59 | 0 => 0 | 72 => 57 | 37 => 49 | 4 => 4 | 164 => 68 | 80 => 63 | 5 => 5 | n => n, fun | n => n⟩
theorem lay_28 : Go.Proofs.Lays.n166 Try.prog lay_28_ren where
  mixed := by kernel_rfl
  f166 := Try.func28.trans (congrArg some (by kernel_rfl))
  f240 := Try.func32.trans (congrArg some (by kernel_rfl))
  f276 := Try.func33.trans (congrArg some (by kernel_rfl))
  t0 := Try.underlying0
  a0 := Try.isAgg0
  z0 := Try.sizeOf0
  v0 := Try.zeroValue0
  t3 := Try.underlying3
  a3 := Try.isAgg3
  z3 := Try.sizeOf3
  v3 := Try.zeroValue3
  t4 := Try.underlying4
  a4 := Try.isAgg4
  z4 := Try.sizeOf4
  v4 := Try.zeroValue4
  t9 := Try.underlying9
  a9 := Try.isAgg9
  z9 := Try.sizeOf9
  v9 := Try.zeroValue9
  t20 := Try.underlying20
  a20 := Try.isAgg20
  z20 := Try.sizeOf20
  v20 := Try.zeroValue20
  t37 := Try.underlying49
  a37 := Try.isAgg49
  z37 := Try.sizeOf49
  v37 := Try.zeroValue49
  t70 := Try.underlying55
  a70 := Try.isAgg55
  z70 := Try.sizeOf55
  v70 := Try.zeroValue55
  t72 := Try.underlying57
  a72 := Try.isAgg57
  z72 := Try.sizeOf57
  v72 := Try.zeroValue57
  t75 := Try.underlying59
  a75 := Try.isAgg59
  z75 := Try.sizeOf59
  v75 := Try.zeroValue59
  t164 := Try.underlying68
  a164 := Try.isAgg68
  z164 := Try.sizeOf68
  v164 := Try.zeroValue68
theorem lay_28x : Go.Proofs.Builder.Extra Try.prog lay_28_ren where
  sizeBuilder := by kernel_rfl
  liesBuilder := by kernel_rfl
  t5 := Try.underlying5
  a5 := Try.isAgg5
  z5 := Try.sizeOf5
  v5 := Try.zeroValue5
  infoByte := by kernel_rfl
  cellsByte := by kernel_rfl
  sizeByte := by kernel_rfl
  neB5 := by decide

def lay_29_ren : Go.Shelf.Ren := ⟨fun | 169 => 29 | n => n, fun | 70 => 55 | 9 => 9 | 0 => 0 | 72 => 57 | 37 => 49 | 127 => 67 | 3 => 3 | 5 => 5 | n => n, fun | n => n⟩
theorem lay_29 : Go.Proofs.Lays.n169 Try.prog lay_29_ren where
  mixed := by kernel_rfl
  f169 := Try.func29.trans (congrArg some (by kernel_rfl))
  t0 := Try.underlying0
  a0 := Try.isAgg0
  z0 := Try.sizeOf0
  v0 := Try.zeroValue0
  t3 := Try.underlying3
  a3 := Try.isAgg3
  z3 := Try.sizeOf3
  v3 := Try.zeroValue3
  t9 := Try.underlying9
  a9 := Try.isAgg9
  z9 := Try.sizeOf9
  v9 := Try.zeroValue9
  t37 := Try.underlying49
  a37 := Try.isAgg49
  z37 := Try.sizeOf49
  v37 := Try.zeroValue49
  t70 := Try.underlying55
  a70 := Try.isAgg55
  z70 := Try.sizeOf55
  v70 := Try.zeroValue55
  t72 := Try.underlying57
  a72 := Try.isAgg57
  z72 := Try.sizeOf57
  v72 := Try.zeroValue57
  t127 := Try.underlying67
  a127 := Try.isAgg67
  z127 := Try.sizeOf67
  v127 := Try.zeroValue67
theorem lay_29x : Go.Proofs.Builder.Extra Try.prog lay_29_ren where
  sizeBuilder := by kernel_rfl
  liesBuilder := by kernel_rfl
  t5 := Try.underlying5
  a5 := Try.isAgg5
  z5 := Try.sizeOf5
  v5 := Try.zeroValue5
  infoByte := by kernel_rfl
  cellsByte := by kernel_rfl
  sizeByte := by kernel_rfl
  neB5 := by decide

theorem pack_Row.zb : (Try.prog.info? 57).bind (·.zero) = some (.agg #[.pointer none, .slice none 0 0]) := by kernel_rfl
theorem pack_Row.grows : ∀ (m : List ByteArray) (x : ByteArray), x.size ≤ (m.foldl (fun r s => r ++ s) x).size
  | [], x => Nat.le_refl _
  | s :: m, x => by
    have := pack_Row.grows m (x ++ s)
    rw [ByteArray.size_append] at this
    exact Nat.le_trans (Nat.le_add_right _ _) this
theorem pack_Row.ok (k : Nat) (l0 : List ByteArray) (v0 : Value) (r1 : ByteArray) (r2 : Int) (h : pack_Row.f k l0 = some (r1, r2)) :
    VCalls Try.prog 18 [v0] [.row v0 1 (l0.map enc_str)] (fun v G own => v = .tuple #[.string r1, .int .i64 r2] ∧ G = [] ∧ own = []) := by
  refine VCalls.introF Try.func18 rfl (len rfl) fun E hE hC hW hD hU => ?_
  unfold pack_Row.f at h
  by_cases ca : ¬ l0.all (pack_Row.ok1 k) = true
  · rw [if_neg ca] at h; cases h
  replace ca := Decidable.not_not.1 ca
  rw [if_pos ca] at h
  rw [List.all_eq_true] at ca
  refine VC.seq (VC.region ?_)
  refine VL.va (op_assign rfl (ltn rfl)) rfl ?_
  refine VL.va (op_assign rfl (ltn rfl)) rfl ?_
  refine VL.done (VN.then ?_)
  refine VC.seq (VC.region ?_)
  refine VL.step (o_makeChan (m := 16) 256 Try.underlying54 (by kernel_rfl) (by decide) (by decide) rfl (ltn rfl)) rfl ?_
  rintro _ ⟨c, hcB, -, rfl⟩
  refine VL.va (op_assign rfl (ltn rfl)) rfl ?_
  refine VL.done (VN.then ?_)
  refine VC.seq ?_
  refine VC.seq (VC.region ?_)
  refine VL.va (op_move rfl (ltn rfl)) rfl ?_
  refine VL.va (op_len (m := l0.length) 1 lenm Try.underlying39 rfl rfl (ltn rfl)) rfl ?_
  refine VL.va (op_move rfl (ltn rfl)) rfl ?_
  refine VL.done (VN.then ?_)
  refine VC.block ?_
  refine VC.loop2 (fun (i : Nat) (m : List Value) => ⟨45, [(0, v0), (2, .string ⟨#[]⟩), (3, .int .i64 0), (4, .chan (some c)), (11, v0), (12, .int .i64 (l0.length : Int)), (13, .int .i64 i)], [.ch c 256 m false, .row v0 1 (l0.map enc_str)], [], []⟩)
    (fun k' i m => i + k' = l0.length + 1 ∧ i ≤ l0.length ∧ i ≤ 256 ∧ m.length = i ∧ m = ((l0.take i).map (pack_Row.q k)).map Value.string ∧ ∀ s ∈ l0.take i, s.size ≤ 4096)
    (l0.length + 1) 0 [] [] [] ⟨by omega, by omega, by omega, rfl, rfl, by simp⟩ ⟨rfl, ⟨rfl, rfl, rfl, rfl, rfl, rfl, rfl, trivial⟩, ⟨⟨0, rfl⟩, ⟨1, rfl⟩, trivial⟩, rfl, by decide, rfl, by decide⟩ (by rintro i m ⟨h1, h2, _⟩; omega) ?_
  rintro k' ih i m ⟨hk, hil, hi2, hm, hmm, hal⟩
  refine VC.seq (VC.region ?_)
  refine VL.letter (decide ((i : Int) < (l0.length : Int))) fun b1 hb1 => ?_
  refine VL.va (op_cmp rfl rfl (congrArg some hb1) (ltn rfl)) rfl ?_
  refine VL.done (VN.then ?_)
  refine VC.seq ?_
  by_cases c1 : i < l0.length
  · obtain rfl : b1 = true := hb1.symm.trans (decide_eq_true (by omega))
    clear hb1
    refine VC.cond_t rfl (VC.skip (VN.then ?_))
    have hx : l0[i]? = some l0[i] := List.getElem?_eq_getElem c1
    have hsm : l0[i] ∈ l0 := List.getElem_mem c1
    have htk : l0.take (i + 1) = l0.take i ++ [l0[i]] := List.take_succ_eq_append_getElem c1
    generalize l0[i] = s at hx hsm htk
    refine VC.seq (VC.block ?_)
    refine VC.seq (VC.region ?_)
    refine VL.open (m := l0.length) 1 lenm rfl (by omega) ?_
    rintro ad n rfl
    refine VL.va (op_indexAddr Try.underlying39 TI9 rfl rfl (Int.natCast_nonneg i) (by omega) rfl (ltn rfl)) rfl ?_
    refine VL.va (op_load_row (sz := 1) (o := 0) 1 i 1 rfl rfl (get_map hx) TI9 rfl (by decide) (ltn rfl)) rfl ?_
    refine VL.va (op_assign rfl (ltn rfl)) rfl ?_
    refine VL.done (VN.then ?_)
    refine VC.seq (VC.seq (VC.region ?_))
    refine VL.va (op_move rfl (ltn rfl)) rfl ?_
    refine VL.va (op_lens Try.underlying9 rfl (ltn rfl)) rfl ?_
    refine VL.letter (decide ((4096 : Int) < (s.size : Int))) fun b2 hb2 => ?_
    refine VL.va (op_cmp rfl rfl (congrArg some hb2) (ltn rfl)) rfl ?_
    refine VL.done (VN.then ?_)
    by_cases c2 : 4096 < s.size
    · obtain rfl : b2 = true := hb2.symm.trans (decide_eq_true (by omega))
      have hg : ¬ (l0.length ≤ 256 ∧ l0.all (fun s => decide (s.size ≤ 4096)) = true) := by
        rintro ⟨_, h2⟩
        rw [List.all_eq_true] at h2
        have := of_decide_eq_true (h2 s hsm)
        omega
      rw [if_neg hg] at h
      obtain ⟨rfl, rfl⟩ := Prod.mk.inj (Option.some.inj h)
      refine VC.cond_t rfl ?_
      refine VC.seq (VC.region ?_)
      refine VL.va (op_assign rfl (ltn rfl)) rfl ?_
      refine VL.va (op_assign rfl (ltn rfl)) rfl ?_
      refine VL.done (VN.then ?_)
      refine VC.ret (VR.then (VR.block (VR.then (VR.then (VR.block (VR.then ?_))))))
      exact VR.fn (rs := [.tmp 2, .tmp 3]) [] [] [] rfl (.tmp rfl (.tmp rfl .nil)) ⟨rfl, rfl, rfl⟩ trivial rfl (by decide)
    obtain rfl : b2 = false := hb2.symm.trans (decide_eq_false (by omega))
    clear hb2
    refine VC.cond_f rfl (VC.skip (VN.then ?_))
    obtain ⟨nn, hn1, hn2⟩ : ∃ nn, pack_number.f k (s.size : Int) = some nn ∧ nn.size ≤ 100 := by
      have h3 := ca s hsm
      unfold pack_Row.ok1 at h3
      rw [decide_eq_false c2, Bool.false_or] at h3
      cases hq : pack_number.f k (s.size : Int) with
      | none => rw [hq] at h3; cases h3
      | some nn => rw [hq] at h3; exact ⟨nn, rfl, of_decide_eq_true h3⟩
    have hq : pack_Row.q k s = nn ++ s := by unfold pack_Row.q; rw [hn1]; rfl
    refine VC.seq (VC.seq (VC.region ?_))
    refine VL.va (op_move rfl (ltn rfl)) rfl ?_
    refine VL.done (VN.then ?_)
    refine VC.region ?_
    refine VL.va (op_move rfl (ltn rfl)) rfl ?_
    refine VL.va (op_lens Try.underlying9 rfl (ltn rfl)) rfl ?_
    refine VL.sC (o_call0 FO27 (pack_number.ok k (s.size : Int) nn hn1) rfl rfl (ltn rfl) (All_of .nil)) rfl ?_
    rintro _ _ _ ⟨rfl, rfl, rfl⟩
    refine VL.va (op_move rfl (ltn rfl)) rfl ?_
    refine VL.va (op_adds rfl rfl rfl (by omega) (ltn rfl)) rfl ?_
    refine VL.done (VN.then ?_)
    refine VC.seq (VC.comm hW ?_)
    refine VS.offer (l := m) 0 rfl rfl Z9 hcB rfl ⟨trivial, trivial⟩ rfl rfl (ltn rfl) (fun hl => ?_) (fun hl => ?_)
    · refine VS.rest hW rfl ?_
      refine VL.va (op_extract (vs := [.int .i64 0, .bool false]) rfl rfl (ltn rfl)) rfl ?_
      refine VL.va (op_cmp (b := true) rfl rfl rfl (ltn rfl)) rfl ?_
      refine VL.done (VN.then ?_)
      refine VC.block ?_
      refine VC.cond_t rfl (VC.skip (VN.block (VN.block (VN.then ?_))))
      refine VC.region ?_
      refine VL.va (op_ari64 (q := ((i + 1 : Nat) : Int)) rfl rfl (congrArg some (by show wrap64 ((i : Int) + 1) = _; unfold wrap64; omega)) (ltn rfl)) rfl ?_
      refine VL.va (op_move rfl (ltn rfl)) rfl ?_
      refine VL.done ?_
      refine VN.again [] [] (ih (i + 1) (m ++ [.string (nn ++ s)]) ⟨by omega, by omega, by omega, by rw [List.length_append, hm]; rfl, ?_, ?_⟩) ⟨rfl, ⟨rfl, rfl, rfl, rfl, rfl, rfl, rfl, trivial⟩, ⟨⟨0, rfl⟩, ⟨1, rfl⟩, trivial⟩, rfl, by decide, rfl, by decide⟩
      · rw [htk, List.map_append, List.map_append, ← hmm, ← hq]
        rfl
      · rw [htk]
        intro y hy
        rcases List.mem_append.1 hy with hy | hy
        · exact hal y hy
        · rw [List.mem_singleton] at hy
          subst hy
          omega
    · have hg : ¬ (l0.length ≤ 256 ∧ l0.all (fun s => decide (s.size ≤ 4096)) = true) := by
        rintro ⟨h2, _⟩
        omega
      rw [if_neg hg] at h
      obtain ⟨rfl, rfl⟩ := Prod.mk.inj (Option.some.inj h)
      refine VS.rest hW rfl ?_
      refine VL.va (op_extract (vs := [.int .i64 (-1), .bool false]) rfl rfl (ltn rfl)) rfl ?_
      refine VL.va (op_cmp (b := false) rfl rfl rfl (ltn rfl)) rfl ?_
      refine VL.done (VN.then ?_)
      refine VC.block ?_
      refine VC.cond_f rfl ?_
      refine VC.seq (VC.region ?_)
      refine VL.va (op_assign rfl (ltn rfl)) rfl ?_
      refine VL.va (op_assign rfl (ltn rfl)) rfl ?_
      refine VL.done (VN.then ?_)
      refine VC.ret (VR.block (VR.block (VR.then (VR.then (VR.block (VR.then ?_))))))
      exact VR.fn (rs := [.tmp 2, .tmp 3]) [] [] [] rfl (.tmp rfl (.tmp rfl .nil)) ⟨rfl, rfl, rfl⟩ trivial rfl (by decide)
  obtain rfl : b1 = false := hb1.symm.trans (decide_eq_false (by omega))
  clear hb1 ih
  obtain rfl : i = l0.length := by omega
  rw [List.take_length] at hmm hal
  have hg : l0.length ≤ 256 ∧ l0.all (fun s => decide (s.size ≤ 4096)) = true := ⟨hi2, by rw [List.all_eq_true]; exact fun s hs => decide_eq_true (hal s hs)⟩
  rw [if_pos hg] at h
  obtain ⟨hd, hhd, h⟩ := Option.bind_eq_some_iff.1 h
  generalize hm0 : l0.map (pack_Row.q k) = m0 at hmm h
  by_cases c4 : ¬ (m0.foldl (fun r s => r ++ s) hd).size ≤ 140737488355328
  · rw [if_neg c4] at h; cases h
  replace c4 := Decidable.not_not.1 c4
  rw [if_pos c4] at h
  obtain ⟨h5, rfl⟩ := Prod.mk.inj (Option.some.inj h)
  rw [h5] at c4
  clear h hal
  subst hmm
  refine VC.cond_f rfl ?_
  refine VC.exit (VX.then (VX.then (VX.hit (VN.then ?_))))
  refine VC.seq (VC.region ?_)
  refine VL.va (op_move rfl (ltn rfl)) rfl ?_
  refine VL.step1 (o_close 0 hcB rfl ⟨trivial, trivial⟩ rfl) rfl ?_
  refine VL.done (VN.then ?_)
  refine VC.seq (VC.region ?_)
  refine VL.sG (o_alloc pack_Row.zb rfl (ltn rfl)) rfl ?_
  intro b
  refine VL.done (VN.then ?_)
  refine VC.toBld (e := 5) 0 hU rfl fun hbB hoff => ?_
  have hcb : c ≠ b := (hoff (.ch c 256 (m0.map Value.string) true) (List.mem_cons_self ..)).1
  clear hoff
  refine VC.seq (VC.region ?_)
  refine VL.va (op_move rfl (ltn rfl)) rfl ?_
  refine VL.va (op_len (m := l0.length) 2 lenm Try.underlying39 rfl rfl (ltn rfl)) rfl ?_
  refine VL.sC (o_call0 FO27 (pack_number.ok k (l0.length : Int) hd hhd) rfl rfl (ltn rfl) (All_of .nil)) rfl ?_
  rintro _ _ _ ⟨rfl, rfl, rfl⟩
  have hfirm : ∀ (F : List Fact) (l : List Value), (Fact.ch c 256 l true) ∈ F → ∀ x ∈ [Fact.ch c 256 l true], x ∈ F ∧ x.firm := by
    intro F l hF x hx
    rw [List.mem_singleton] at hx
    subst hx
    exact ⟨hF, Fact.firm_ch⟩
  refine VL.step (o_write (xs := ⟨#[]⟩) [.ch c 256 (m0.map Value.string) true] [] FO28 lay_28 lay_28x rfl rfl rfl hbB (List.mem_cons_self ..) (hfirm _ _ (List.mem_cons_of_mem _ (List.mem_cons_self ..))) (fun _ h => by cases h) hC rfl rfl rfl (by
    have := pack_Row.grows m0 hd
    rw [h5] at this
    show 0 + hd.size ≤ _
    omega) (ltn rfl)) rfl ?_
  rintro _ ⟨g, hoff, rfl⟩
  have hcg : c ≠ g := (hoff (.ch c 256 (m0.map Value.string) true) (List.mem_cons_self ..)).1
  clear hoff
  refine VL.done (VN.then ?_)
  refine VC.block ?_
  have he : (⟨#[]⟩ ++ hd : ByteArray) = hd := ByteArray.empty_append
  rw [he]
  refine VC.loop3 (fun (g : Nat) (m : List ByteArray) (X : ByteArray) => ⟨45, [(4, .chan (some c)), (7, .pointer (some ⟨b, 0, none⟩))], [.bld 57 5 b g X, .ch c 256 (m.map Value.string) true], [], []⟩)
    (fun k' g m X => k' = m.length + 1 ∧ c ≠ g ∧ m.foldl (fun r s => r ++ s) X = r1) (m0.length + 1) g m0 hd [] [] ⟨rfl, hcg, h5⟩ ⟨rfl, ⟨rfl, rfl, trivial⟩, ⟨⟨0, rfl⟩, ⟨1, rfl⟩, trivial⟩, rfl, by decide, rfl, by decide⟩ (by rintro g m X ⟨h1, _⟩; omega) ?_
  clear h5 hcg he hm0 hm
  rintro k' ih g m X ⟨hk, hcg, h5⟩
  refine VC.block ?_
  refine VC.seq (VC.comm hW ?_)
  refine VS.va rfl (op_move rfl (ltn rfl)) rfl ?_
  refine VS.recv (l := m.map Value.string) 1 rfl rfl Try.underlying54 Z9 hcB rfl ⟨⟨fun e => hcb e.symm, fun e => hcg e.symm⟩, trivial⟩ rfl (ltn rfl) (fun v l' hl => ?_) (fun hl => ?_)
  · cases m with
    | nil => cases hl
    | cons s m =>
      simp only [List.map_cons, List.cons.injEq] at hl
      obtain ⟨rfl, rfl⟩ := hl
      refine VS.rest hW rfl ?_
      refine VL.va (op_move rfl (ltn rfl)) rfl ?_
      refine VL.va (op_extract (vs := [.string s, .bool true]) rfl rfl (ltn rfl)) rfl ?_
      refine VL.va (op_extract (vs := [.string s, .bool true]) rfl rfl (ltn rfl)) rfl ?_
      refine VL.va (op_assign rfl (ltn rfl)) rfl ?_
      refine VL.va (op_assign rfl (ltn rfl)) rfl ?_
      refine VL.done (VN.then ?_)
      refine VC.seq (VC.seq (VC.region ?_))
      refine VL.va (op_move rfl (ltn rfl)) rfl ?_
      refine VL.va (op_not rfl rfl (ltn rfl)) rfl ?_
      refine VL.done (VN.then ?_)
      refine VC.cond_f rfl (VC.skip (VN.then ?_))
      refine VC.region ?_
      refine VL.va (op_move rfl (ltn rfl)) rfl ?_
      refine VL.step (o_write [.ch c 256 (m.map Value.string) true] [] FO28 lay_28 lay_28x rfl rfl rfl hbB (List.mem_cons_self ..) (hfirm _ _ (List.mem_cons_of_mem _ (List.mem_cons_self ..))) (fun _ h => by cases h) hC rfl rfl rfl (by
        have := pack_Row.grows m (X ++ s)
        rw [show m.foldl (fun r s => r ++ s) (X ++ s) = r1 from h5, ByteArray.size_append] at this
        omega) (ltn rfl)) rfl ?_
      rintro _ ⟨g2, hoff, rfl⟩
      refine VL.done (VN.block ?_)
      exact VN.again [] [] (ih g2 m (X ++ s) ⟨by simpa using hk, (hoff (.ch c 256 (m.map Value.string) true) (List.mem_cons_self ..)).1, h5⟩) ⟨rfl, ⟨rfl, rfl, trivial⟩, ⟨⟨0, rfl⟩, ⟨1, rfl⟩, trivial⟩, rfl, by decide, rfl, by decide⟩
  · cases m with
    | cons s m => cases hl
    | nil =>
      obtain rfl := h5
      refine VS.rest hW rfl ?_
      refine VL.va (op_move rfl (ltn rfl)) rfl ?_
      refine VL.va (op_extract (vs := [.string ⟨#[]⟩, .bool false]) rfl rfl (ltn rfl)) rfl ?_
      refine VL.va (op_extract (vs := [.string ⟨#[]⟩, .bool false]) rfl rfl (ltn rfl)) rfl ?_
      refine VL.va (op_assign rfl (ltn rfl)) rfl ?_
      refine VL.va (op_assign rfl (ltn rfl)) rfl ?_
      refine VL.done (VN.then ?_)
      refine VC.seq (VC.seq (VC.region ?_))
      refine VL.va (op_move rfl (ltn rfl)) rfl ?_
      refine VL.va (op_not rfl rfl (ltn rfl)) rfl ?_
      refine VL.done (VN.then ?_)
      refine VC.cond_t rfl ?_
      refine VC.seq (VC.region ?_)
      refine VL.step1 (o_bstring FO29 lay_29 lay_29x rfl rfl rfl hbB (List.mem_cons_self ..) rfl rfl (ltn rfl)) rfl ?_
      refine VL.va (op_assign rfl (ltn rfl)) rfl ?_
      refine VL.va (op_assign rfl (ltn rfl)) rfl ?_
      refine VL.done (VN.then ?_)
      refine VC.ret (VR.then (VR.block (VR.then (VR.block ?_))))
      exact VR.fn (rs := [.tmp 2, .tmp 3]) [] [] [] rfl (.tmp rfl (.tmp rfl .nil)) ⟨rfl, rfl, rfl⟩ trivial rfl (by decide)
set_option maxHeartbeats 4000000 in
set_option maxRecDepth 100000 in
theorem pack_count.ok (k : Nat) (a0 : ByteArray) (a1 : Int)  (r1 : Int) (r2 : ByteArray) (r3 : Int) (h : pack_count.f k a0 a1 = some (r1, r2, r3)) :
    VCalls Try.prog 30 [.string a0, .int .i64 a1] [] (fun v G own => v = .tuple #[.int .i64 r1, .string r2, .int .i64 r3] ∧ G = [] ∧ own = []) := by
  refine VCalls.intro Try.func30 rfl (len rfl) fun E hC hW hD hU => ?_
  unfold pack_count.f at h
  refine VC.seq ?_
  refine VC.region ?_
  refine VL.va (op_assign rfl (ltn rfl)) rfl ?_
  refine VL.va (op_assign rfl (ltn rfl)) rfl ?_
  refine VL.va (op_assign rfl (ltn rfl)) rfl ?_
  refine VL.done ?_
  refine VN.then ?_
  refine VC.seq ?_
  refine VC.region ?_
  refine VL.va (op_move rfl (ltn rfl)) rfl ?_
  replace h := Option.bind_eq_some_iff.1 h
  obtain ⟨⟨t2053, t2054, t2055⟩, hA2056, h⟩ := h
  dsimp only at h
  refine VL.sC (o_call0 FO9 (pack_ReadNumber.ok k a0 t2053 t2054 t2055 hA2056) rfl rfl (ltn rfl) (All_of .nil)) rfl ?_
  rintro _ _ _ ⟨rfl, rfl, rfl⟩
  refine VL.va (op_move rfl (ltn rfl)) rfl ?_
  refine VL.va (op_extract rfl rfl (ltn rfl)) rfl ?_
  refine VL.va (op_extract rfl rfl (ltn rfl)) rfl ?_
  refine VL.va (op_extract rfl rfl (ltn rfl)) rfl ?_
  refine VL.va (op_assign rfl (ltn rfl)) rfl ?_
  refine VL.va (op_assign rfl (ltn rfl)) rfl ?_
  refine VL.va (op_assign rfl (ltn rfl)) rfl ?_
  refine VL.done ?_
  refine VN.then ?_
  refine VC.seq ?_
  refine VC.block ?_
  refine VC.seq ?_
  refine VC.region ?_
  refine VL.va (op_move rfl (ltn rfl)) rfl ?_
  refine VL.letter ((t2055 != 0)) fun b2063 hb2063 => ?_
  refine VL.va (op_cmp rfl rfl (congrArg some hb2063) (ltn rfl)) rfl ?_
  refine VL.va (op_assign rfl (ltn rfl)) rfl ?_
  refine VL.done ?_
  refine VN.then ?_
  by_cases c2064 : t2055 = 0
  · rw [if_pos c2064] at h
    obtain rfl : b2063 = false := hb2063.symm.trans (bne_eq_false_iff_eq.2 c2064)
    refine VC.cond_f rfl ?_
    refine VC.seq ?_
    refine VC.region ?_
    refine VL.va (op_move rfl (ltn rfl)) rfl ?_
    refine VL.va (op_move rfl (ltn rfl)) rfl ?_
    refine VL.letter (decide (t2053 > a1)) fun b2065 hb2065 => ?_
    refine VL.va (op_cmp rfl rfl (congrArg some hb2065) (ltn rfl)) rfl ?_
    refine VL.va (op_assign rfl (ltn rfl)) rfl ?_
    refine VL.done ?_
    refine VN.then ?_
    by_cases c2066 : t2053 > a1
    · rw [if_pos c2066] at h
      obtain rfl : b2065 = true := hb2065.symm.trans (decide_eq_true c2066)
      refine VC.cond_t rfl ?_
      refine VC.seq ?_
      refine VC.region ?_
      refine VL.va (op_assign rfl (ltn rfl)) rfl ?_
      refine VL.va (op_assign rfl (ltn rfl)) rfl ?_
      refine VL.va (op_assign rfl (ltn rfl)) rfl ?_
      refine VL.done ?_
      refine VN.then ?_
      refine VC.ret ?_
      refine VR.block ?_
      refine VR.then ?_
      simp only [Option.some.injEq, Prod.mk.injEq] at h
      obtain ⟨rfl, rfl, rfl⟩ := h
      exact VR.fn (rs := [.tmp 4, .tmp 5, .tmp 6]) [] [] [] rfl (.tmp rfl (.tmp rfl (.tmp rfl .nil))) ⟨rfl, rfl, rfl⟩ trivial rfl (by decide)
    · rw [if_neg c2066] at h
      obtain rfl : b2065 = false := hb2065.symm.trans (decide_eq_false c2066)
      refine VC.cond_f rfl ?_
      refine VC.seq ?_
      refine VC.region ?_
      refine VL.va (op_move rfl (ltn rfl)) rfl ?_
      refine VL.letter (decide (t2053 < 0)) fun b2067 hb2067 => ?_
      refine VL.va (op_cmp rfl rfl (congrArg some hb2067) (ltn rfl)) rfl ?_
      refine VL.va (op_assign rfl (ltn rfl)) rfl ?_
      refine VL.done ?_
      refine VN.then ?_
      by_cases c2068 : t2053 < 0
      · rw [if_pos c2068] at h
        obtain rfl : b2067 = true := hb2067.symm.trans (decide_eq_true c2068)
        refine VC.cond_t rfl ?_
        refine VC.seq ?_
        refine VC.region ?_
        refine VL.va (op_assign rfl (ltn rfl)) rfl ?_
        refine VL.va (op_assign rfl (ltn rfl)) rfl ?_
        refine VL.va (op_assign rfl (ltn rfl)) rfl ?_
        refine VL.done ?_
        refine VN.then ?_
        refine VC.ret ?_
        refine VR.block ?_
        refine VR.then ?_
        simp only [Option.some.injEq, Prod.mk.injEq] at h
        obtain ⟨rfl, rfl, rfl⟩ := h
        exact VR.fn (rs := [.tmp 4, .tmp 5, .tmp 6]) [] [] [] rfl (.tmp rfl (.tmp rfl (.tmp rfl .nil))) ⟨rfl, rfl, rfl⟩ trivial rfl (by decide)
      · rw [if_neg c2068] at h
        obtain rfl : b2067 = false := hb2067.symm.trans (decide_eq_false c2068)
        refine VC.cond_f rfl ?_
        refine VC.skip ?_
        refine VN.block ?_
        refine VN.then ?_
        refine VC.seq ?_
        refine VC.region ?_
        refine VL.va (op_move rfl (ltn rfl)) rfl ?_
        refine VL.va (op_move rfl (ltn rfl)) rfl ?_
        refine VL.va (op_assign rfl (ltn rfl)) rfl ?_
        refine VL.va (op_assign rfl (ltn rfl)) rfl ?_
        refine VL.va (op_assign rfl (ltn rfl)) rfl ?_
        refine VL.done ?_
        refine VN.then ?_
        refine VC.ret ?_
        simp only [Option.some.injEq, Prod.mk.injEq] at h
        obtain ⟨rfl, rfl, rfl⟩ := h
        exact VR.fn (rs := [.tmp 4, .tmp 5, .tmp 6]) [] [] [] rfl (.tmp rfl (.tmp rfl (.tmp rfl .nil))) ⟨rfl, rfl, rfl⟩ trivial rfl (by decide)
  · rw [if_neg c2064] at h
    obtain rfl : b2063 = true := hb2063.symm.trans (bne_iff_ne.2 c2064)
    refine VC.cond_t rfl ?_
    refine VC.seq ?_
    refine VC.region ?_
    refine VL.va (op_move rfl (ltn rfl)) rfl ?_
    refine VL.va (op_assign rfl (ltn rfl)) rfl ?_
    refine VL.va (op_assign rfl (ltn rfl)) rfl ?_
    refine VL.va (op_assign rfl (ltn rfl)) rfl ?_
    refine VL.done ?_
    refine VN.then ?_
    refine VC.ret ?_
    refine VR.block ?_
    refine VR.then ?_
    simp only [Option.some.injEq, Prod.mk.injEq] at h
    obtain ⟨rfl, rfl, rfl⟩ := h
    exact VR.fn (rs := [.tmp 4, .tmp 5, .tmp 6]) [] [] [] rfl (.tmp rfl (.tmp rfl (.tmp rfl .nil))) ⟨rfl, rfl, rfl⟩ trivial rfl (by decide)
set_option maxHeartbeats 4000000 in
set_option maxRecDepth 100000 in
theorem pack_ReadRow.ok (k : Nat) (a0 : ByteArray)  (r1 : List ByteArray) (r2 : Int) (h : pack_ReadRow.f k a0 = some (r1, r2)) :
    VCalls Try.prog 19 [.string a0] [] (fun v G own => ∃ w0 : Value, v = .tuple #[w0, .int .i64 r2] ∧ G = [] ∧ own = [(w0, 9, 1, r1.map enc_str)]) := by
  refine VCalls.intro Try.func19 rfl (len rfl) fun E hC hW hD hU => ?_
  unfold pack_ReadRow.f at h
  refine VC.seq ?_
  refine VC.region ?_
  refine VL.va (op_assign rfl (ltn rfl)) rfl ?_
  refine VL.va (op_assign rfl (ltn rfl)) rfl ?_
  refine VL.done ?_
  refine VN.then ?_
  refine VC.seq ?_
  refine VC.region ?_
  refine VL.va (op_move rfl (ltn rfl)) rfl ?_
  replace h := Option.bind_eq_some_iff.1 h
  obtain ⟨⟨t2069, t2070, t2071⟩, hA2072, h⟩ := h
  dsimp only at h
  refine VL.sC (o_call0 FO30 (pack_count.ok k a0 256 t2069 t2070 t2071 hA2072) rfl rfl (ltn rfl) (All_of .nil)) rfl ?_
  rintro _ _ _ ⟨rfl, rfl, rfl⟩
  refine VL.va (op_move rfl (ltn rfl)) rfl ?_
  refine VL.va (op_extract rfl rfl (ltn rfl)) rfl ?_
  refine VL.va (op_extract rfl rfl (ltn rfl)) rfl ?_
  refine VL.va (op_extract rfl rfl (ltn rfl)) rfl ?_
  refine VL.va (op_assign rfl (ltn rfl)) rfl ?_
  refine VL.va (op_assign rfl (ltn rfl)) rfl ?_
  refine VL.va (op_assign rfl (ltn rfl)) rfl ?_
  refine VL.done ?_
  refine VN.then ?_
  refine VC.seq ?_
  refine VC.seq ?_
  refine VC.region ?_
  refine VL.va (op_move rfl (ltn rfl)) rfl ?_
  refine VL.letter ((t2071 != 0)) fun b2076 hb2076 => ?_
  refine VL.va (op_cmp rfl rfl (congrArg some hb2076) (ltn rfl)) rfl ?_
  refine VL.done ?_
  refine VN.then ?_
  by_cases c2077 : t2071 = 0
  · rw [if_pos c2077] at h
    obtain rfl : b2076 = false := hb2076.symm.trans (bne_eq_false_iff_eq.2 c2077)
    refine VC.cond_f rfl ?_
    refine VC.skip ?_
    refine VN.then ?_
    refine VC.seq ?_
    refine VC.region ?_
    refine VL.va (op_assign rfl (ltn rfl)) rfl ?_
    refine VL.done ?_
    refine VN.then ?_
    refine VC.seq ?_
    refine VC.seq ?_
    refine VC.region ?_
    refine VL.va (op_move rfl (ltn rfl)) rfl ?_
    refine VL.va (op_move rfl (ltn rfl)) rfl ?_
    refine VL.done ?_
    refine VN.then ?_
    refine VC.block ?_
    refine VC.nilRow' 9 1 ?_
    refine VC.loop4 (fun (s2260 : ByteArray) (v2262 : Value) (l2263 : List ByteArray) (i2265 : Int) => ⟨50, [(0, .string s2260), (2, .slice none 0 0), (3, .int .i64 0), (6, v2262), (19, .int .i64 t2069), (20, .int .i64 i2265)], [], [], [(v2262, 9, 1, l2263.map enc_str)]⟩) (fun (ml1 : Nat) (s2260 : ByteArray) (v2262 : Value) (l2263 : List ByteArray) (i2265 : Int) => pack_ReadRow.l1 k t2069 ml1 s2260 l2263 i2265 = some (r1, r2)) k t2070 (.slice none 0 0) ([] : List ByteArray) 0 [] [0] h ⟨rfl, ⟨rfl, rfl, rfl, rfl, rfl, rfl, trivial⟩, trivial, rfl, by decide, rfl, by decide⟩ (by intros; simp [pack_ReadRow.l1]) ?_
    clear h
    intro ml1 ihl1 s2260 v2262 l2263 i2265 h
    simp only [pack_ReadRow.l1] at h
    refine VC.seq ?_
    refine VC.region ?_
    refine VL.letter (decide (i2265 < t2069)) fun b2307 hb2307 => ?_
    refine VL.va (op_cmp rfl rfl (congrArg some hb2307) (ltn rfl)) rfl ?_
    refine VL.done ?_
    refine VN.then ?_
    refine VC.seq ?_
    by_cases c2315 : i2265 < t2069
    · rw [if_pos c2315] at h
      obtain rfl : b2307 = true := hb2307.symm.trans (decide_eq_true c2315)
      refine VC.cond_t rfl ?_
      refine VC.skip ?_
      refine VN.then ?_
      refine VC.seq ?_
      refine VC.block ?_
      refine VC.seq ?_
      refine VC.region ?_
      refine VL.va (op_move rfl (ltn rfl)) rfl ?_
      replace h := Option.bind_eq_some_iff.1 h
      obtain ⟨⟨t2339, t2340, t2341⟩, hA2342, h⟩ := h
      dsimp only at h
      refine VL.sC (o_call0 FO30 (pack_count.ok k s2260 4096 t2339 t2340 t2341 hA2342) rfl rfl (ltn rfl) (All_of .nil)) rfl ?_
      rintro _ _ _ ⟨rfl, rfl, rfl⟩
      refine VL.va (op_move rfl (ltn rfl)) rfl ?_
      refine VL.va (op_extract rfl rfl (ltn rfl)) rfl ?_
      refine VL.va (op_extract rfl rfl (ltn rfl)) rfl ?_
      refine VL.va (op_extract rfl rfl (ltn rfl)) rfl ?_
      refine VL.va (op_assign rfl (ltn rfl)) rfl ?_
      refine VL.va (op_assign rfl (ltn rfl)) rfl ?_
      refine VL.va (op_assign rfl (ltn rfl)) rfl ?_
      refine VL.done ?_
      refine VN.then ?_
      refine VC.seq ?_
      refine VC.block ?_
      refine VC.seq ?_
      refine VC.region ?_
      refine VL.va (op_move rfl (ltn rfl)) rfl ?_
      refine VL.letter ((t2341 != 0)) fun b2349 hb2349 => ?_
      refine VL.va (op_cmp rfl rfl (congrArg some hb2349) (ltn rfl)) rfl ?_
      refine VL.va (op_assign rfl (ltn rfl)) rfl ?_
      refine VL.done ?_
      refine VN.then ?_
      by_cases c2350 : t2341 = 0
      · rw [if_pos c2350] at h
        obtain rfl : b2349 = false := hb2349.symm.trans (bne_eq_false_iff_eq.2 c2350)
        refine VC.cond_f rfl ?_
        refine VC.seq ?_
        refine VC.region ?_
        refine VL.va (op_move rfl (ltn rfl)) rfl ?_
        refine VL.va (op_move rfl (ltn rfl)) rfl ?_
        refine VL.va (op_lens Try.underlying9 rfl (ltn rfl)) rfl ?_
        refine VL.letter (decide (t2339 > (t2340.size : Int))) fun b2351 hb2351 => ?_
        refine VL.va (op_cmp rfl rfl (congrArg some hb2351) (ltn rfl)) rfl ?_
        refine VL.va (op_assign rfl (ltn rfl)) rfl ?_
        refine VL.done ?_
        refine VN.then ?_
        by_cases c2352 : t2339 > (t2340.size : Int)
        · rw [if_pos c2352] at h
          obtain rfl : b2351 = true := hb2351.symm.trans (decide_eq_true c2352)
          refine VC.cond_t rfl ?_
          refine VC.seq ?_
          refine VC.region ?_
          refine VL.va (op_assign rfl (ltn rfl)) rfl ?_
          refine VL.va (op_assign rfl (ltn rfl)) rfl ?_
          refine VL.done ?_
          refine VN.then ?_
          refine VC.ret ?_
          refine VR.block ?_
          refine VR.then ?_
          refine VR.block ?_
          refine VR.then ?_
          refine VR.then ?_
          refine VR.block ?_
          refine VR.then ?_
          simp only [Option.some.injEq, Prod.mk.injEq] at h
          obtain ⟨rfl, rfl⟩ := h
          refine VR.nilRow' 9 1 ?_
          exact VR.fn (rs := [.tmp 2, .tmp 3]) [] [((.slice none 0 0), 9, 1, ([] : List ByteArray).map enc_str)] [0] rfl (.tmp rfl (.tmp rfl .nil)) ⟨(.slice none 0 0), rfl, rfl, rfl⟩ trivial rfl (by decide)
        · rw [if_neg c2352] at h
          obtain rfl : b2351 = false := hb2351.symm.trans (decide_eq_false c2352)
          refine VC.cond_f rfl ?_
          refine VC.skip ?_
          refine VN.block ?_
          refine VN.then ?_
          by_cases c2354 : 0 ≤ t2339
          · rw [if_pos c2354] at h
            by_cases c2355 : t2339 ≤ (t2340.size : Int)
            · rw [if_pos c2355] at h
              by_cases c2358 : (l2263.length + ([t2340.extract 0 t2339.toNat] : List ByteArray).length) * 16 ≤ 140737488355328
              · rw [if_pos c2358] at h
                refine VC.stop2 (fun (v2359 : Value) (v2357 : Value) => ⟨50, [(0, .string (t2340.extract t2339.toNat t2340.size)), (2, .slice none 0 0), (3, .int .i64 0), (6, v2359), (7, .int .i64 t2339), (8, .string t2340), (9, .int .i64 t2341), (19, .int .i64 t2069), (20, .int .i64 i2265), (21, .bool true), (22, .tuple #[.int .i64 t2339, .string t2340, .int .i64 t2341]), (23, .string s2260), (24, .tuple #[.int .i64 t2339, .string t2340, .int .i64 t2341]), (25, .int .i64 t2339), (26, .string t2340), (27, .int .i64 t2341), (28, .bool false), (29, .int .i64 t2341), (30, .bool false), (32, .bool false), (33, .int .i64 t2339), (34, .string t2340), (35, .int .i64 (t2340.size : Int)), (36, .bool false), (38, .string t2340), (39, .int .i64 t2339), (40, .string (t2340.extract 0 t2339.toNat)), (41, v2357), (42, v2359), (43, .string t2340), (44, .int .i64 t2339), (45, .string (t2340.extract t2339.toNat t2340.size))], [], [], [(v2357, 9, 1, ([t2340.extract 0 t2339.toNat] : List ByteArray).map enc_str), (v2359, 9, 1, (l2263 ++ ([t2340.extract 0 t2339.toNat] : List ByteArray)).map enc_str)]⟩) (fun (v2359 : Value) (v2357 : Value) => True) ?_ ?_
                · refine VC.draw ⟨0, [], [], [], []⟩ (by kernel_rfl) rfl (by kernel_rfl) (n := 11) (listed := LB 11 0) ?_
                  refine VA.va (i := 1) (listed' := LB 11 2) rfl (op_move rfl (ltn rfl)) rfl (by kernel_rfl) (by kernel_rfl) (by kernel_rfl) (by kernel_rfl) ⟨trivial, trivial, trivial⟩ (fun _ _ _ h => h) ?_
                  refine VA.va (i := 2) (listed' := LB 11 6) rfl (op_move rfl (ltn rfl)) rfl (by kernel_rfl) (by kernel_rfl) (by kernel_rfl) (by kernel_rfl) ⟨trivial, trivial, trivial⟩ (fun _ _ _ h => h) ?_
                  refine VA.va (i := 3) (listed' := LB 11 14) rfl (op_sliceS 0 t2339.toNat Try.underlying9 rfl ⟨rfl, ⟨_, _, rfl, c2354, rfl⟩, by omega, by omega⟩ rfl (ltn rfl)) rfl (by kernel_rfl) (by kernel_rfl) (by kernel_rfl) (by kernel_rfl) ⟨trivial, trivial, trivial⟩ (fun _ _ _ h => h) ?_
                  refine VA.va (i := 6) (listed' := LB 11 78) rfl (op_move rfl (ltn rfl)) rfl (by kernel_rfl) (by kernel_rfl) (by kernel_rfl) (by kernel_rfl) ⟨trivial, trivial, trivial⟩ (fun _ _ _ h => h) ?_
                  refine VA.va (i := 7) (listed' := LB 11 206) rfl (op_move rfl (ltn rfl)) rfl (by kernel_rfl) (by kernel_rfl) (by kernel_rfl) (by kernel_rfl) ⟨trivial, trivial, trivial⟩ (fun _ _ _ h => h) ?_
                  refine VA.va (i := 8) (listed' := LB 11 462) rfl (op_sliceS t2339.toNat t2340.size Try.underlying9 rfl ⟨⟨_, _, rfl, c2354, rfl⟩, rfl, by omega, by omega⟩ rfl (ltn rfl)) rfl (by kernel_rfl) (by kernel_rfl) (by kernel_rfl) (by kernel_rfl) ⟨trivial, trivial, trivial⟩ (fun _ _ _ h => h) ?_
                  refine VA.all [0, 4] (by kernel_rfl) (by simp) ?_
                  refine VAll.cons1 (listed' := LB 11 463) rfl ((op_move rfl (ltn rfl)).op1') rfl (by kernel_rfl) ⟨trivial, trivial, trivial⟩ ?_ ?_
                  · refine VA.oneG (i := 4) (listed' := LB 11 479) (by kernel_rfl) rfl (o_buildSlice (vals := [(0, .string (t2340.extract 0 t2339.toNat))]) (cells := #[.string (t2340.extract 0 t2339.toNat)]) (es := List.map enc_str ([t2340.extract 0 t2339.toNat] : List ByteArray)) Try.underlying39 TI9 Z9 rfl (by decide) (by decide) (by kernel_rfl) (by kernel_rfl) rfl (flat_map enc_str_ok _) (ltn rfl)) rfl (by kernel_rfl) (fun _ => ⟨trivial, trivial, trivial⟩) ?_
                    intro v2357
                    refine VA.oneG (i := 5) (listed' := LB 11 511) (by kernel_rfl) rfl (o_append 1 appm Try.underlying39 EI9 rfl rfl rfl (.inr ⟨0, _, rfl⟩) (bndm c2358) (ltn rfl)) rfl (by kernel_rfl) (fun _ => ⟨trivial, trivial, trivial⟩) ?_
                    intro v2359
                    refine VA.more ⟨0, [], [], [], [(v2359, 9, 1, (l2263 ++ ([t2340.extract 0 t2339.toNat] : List ByteArray)).map enc_str)]⟩ ⟨trivial, trivial, trivial⟩ ?_
                    refine VA.va (i := 9) (listed' := LB 11 1023) rfl (op_assign rfl (ltn rfl)) rfl (by kernel_rfl) (by kernel_rfl) (by kernel_rfl) (by kernel_rfl) ⟨trivial, trivial, ⟨⟨1, rfl⟩, trivial⟩⟩ (fun _ _ _ h => h) ?_
                    refine VA.va (i := 10) (listed' := LB 11 2047) rfl (op_assign rfl (ltn rfl)) rfl (by kernel_rfl) (by kernel_rfl) (by kernel_rfl) (by kernel_rfl) ⟨trivial, trivial, ⟨⟨1, rfl⟩, trivial⟩⟩ (fun _ _ _ h => h) ?_
                    refine VA.done (by kernel_rfl) ?_
                    exact VN.meet2 v2359 v2357 [] [0, 1] trivial ⟨rfl, ⟨rfl, rfl, rfl, rfl, rfl, rfl, rfl, rfl, rfl, rfl, rfl, rfl, rfl, rfl, rfl, rfl, rfl, rfl, rfl, rfl, rfl, rfl, rfl, rfl, rfl, rfl, rfl, rfl, rfl, rfl, rfl, rfl, trivial⟩, trivial, rfl, by decide, rfl, by decide⟩
                  refine VAll.consG (listed' := LB 11 478) rfl (o_buildSlice (vals := [(0, .string (t2340.extract 0 t2339.toNat))]) (cells := #[.string (t2340.extract 0 t2339.toNat)]) (es := List.map enc_str ([t2340.extract 0 t2339.toNat] : List ByteArray)) Try.underlying39 TI9 Z9 rfl (by decide) (by decide) (by kernel_rfl) (by kernel_rfl) rfl (flat_map enc_str_ok _) (ltn rfl)) rfl (by kernel_rfl) (fun _ => ⟨trivial, trivial, trivial⟩) ?_ VAll.nil
                  intro v2357
                  refine VA.one1 (i := 0) (listed' := LB 11 479) (by kernel_rfl) rfl ((op_move rfl (ltn rfl)).op1') rfl (by kernel_rfl) ⟨trivial, trivial, trivial⟩ ?_
                  refine VA.oneG (i := 5) (listed' := LB 11 511) (by kernel_rfl) rfl (o_append 1 appm Try.underlying39 EI9 rfl rfl rfl (.inr ⟨0, _, rfl⟩) (bndm c2358) (ltn rfl)) rfl (by kernel_rfl) (fun _ => ⟨trivial, trivial, trivial⟩) ?_
                  intro v2359
                  refine VA.more ⟨0, [], [], [], [(v2359, 9, 1, (l2263 ++ ([t2340.extract 0 t2339.toNat] : List ByteArray)).map enc_str)]⟩ ⟨trivial, trivial, trivial⟩ ?_
                  refine VA.va (i := 9) (listed' := LB 11 1023) rfl (op_assign rfl (ltn rfl)) rfl (by kernel_rfl) (by kernel_rfl) (by kernel_rfl) (by kernel_rfl) ⟨trivial, trivial, ⟨⟨1, rfl⟩, trivial⟩⟩ (fun _ _ _ h => h) ?_
                  refine VA.va (i := 10) (listed' := LB 11 2047) rfl (op_assign rfl (ltn rfl)) rfl (by kernel_rfl) (by kernel_rfl) (by kernel_rfl) (by kernel_rfl) ⟨trivial, trivial, ⟨⟨1, rfl⟩, trivial⟩⟩ (fun _ _ _ h => h) ?_
                  refine VA.done (by kernel_rfl) ?_
                  exact VN.meet2 v2359 v2357 [] [0, 1] trivial ⟨rfl, ⟨rfl, rfl, rfl, rfl, rfl, rfl, rfl, rfl, rfl, rfl, rfl, rfl, rfl, rfl, rfl, rfl, rfl, rfl, rfl, rfl, rfl, rfl, rfl, rfl, rfl, rfl, rfl, rfl, rfl, rfl, rfl, rfl, trivial⟩, trivial, rfl, by decide, rfl, by decide⟩
                intro v2359 v2357 _
                refine VN.block ?_
                refine VN.then ?_
                refine VC.region ?_
                refine VL.va (op_ari64 rfl rfl rfl (ltn rfl)) rfl ?_
                refine VL.va (op_move rfl (ltn rfl)) rfl ?_
                refine VL.done ?_
                refine VN.again [] [1] (ihl1 (t2340.extract t2339.toNat t2340.size) v2359 (l2263 ++ ([t2340.extract 0 t2339.toNat] : List ByteArray)) (wrap64 (i2265 + 1)) h) ⟨rfl, ⟨rfl, rfl, rfl, rfl, rfl, rfl, trivial⟩, trivial, rfl, by decide, rfl, by decide⟩
              · rw [if_neg c2358] at h; cases h
            · rw [if_neg c2355] at h; cases h
          · rw [if_neg c2354] at h; cases h
      · rw [if_neg c2350] at h
        obtain rfl : b2349 = true := hb2349.symm.trans (bne_iff_ne.2 c2350)
        refine VC.cond_t rfl ?_
        refine VC.seq ?_
        refine VC.region ?_
        refine VL.va (op_move rfl (ltn rfl)) rfl ?_
        refine VL.va (op_assign rfl (ltn rfl)) rfl ?_
        refine VL.va (op_assign rfl (ltn rfl)) rfl ?_
        refine VL.done ?_
        refine VN.then ?_
        refine VC.ret ?_
        refine VR.block ?_
        refine VR.then ?_
        refine VR.block ?_
        refine VR.then ?_
        refine VR.then ?_
        refine VR.block ?_
        refine VR.then ?_
        simp only [Option.some.injEq, Prod.mk.injEq] at h
        obtain ⟨rfl, rfl⟩ := h
        refine VR.nilRow' 9 1 ?_
        exact VR.fn (rs := [.tmp 2, .tmp 3]) [] [((.slice none 0 0), 9, 1, ([] : List ByteArray).map enc_str)] [0] rfl (.tmp rfl (.tmp rfl .nil)) ⟨(.slice none 0 0), rfl, rfl, rfl⟩ trivial rfl (by decide)
    · rw [if_neg c2315] at h
      obtain rfl : b2307 = false := hb2307.symm.trans (decide_eq_false c2315)
      refine VC.cond_f rfl ?_
      refine VC.exit ?_
      refine VX.then ?_
      refine VX.then ?_
      refine VX.hit ?_
      refine VN.then ?_
      refine VC.seq ?_
      refine VC.seq ?_
      refine VC.region ?_
      refine VL.va (op_move rfl (ltn rfl)) rfl ?_
      refine VL.letter ((s2260 != (⟨#[]⟩ : ByteArray))) fun b2365 hb2365 => ?_
      refine VL.va (op_cmps rfl rfl (congrArg some hb2365) (ltn rfl)) rfl ?_
      refine VL.done ?_
      refine VN.then ?_
      by_cases c2366 : (s2260 == (⟨#[]⟩ : ByteArray)) = true
      · rw [if_pos c2366] at h
        obtain rfl : b2365 = false := hb2365.symm.trans (bne_of_t c2366)
        refine VC.cond_f rfl ?_
        refine VC.skip ?_
        refine VN.then ?_
        refine VC.seq ?_
        refine VC.region ?_
        refine VL.va (op_move rfl (ltn rfl)) rfl ?_
        refine VL.va (op_assign rfl (ltn rfl)) rfl ?_
        refine VL.va (op_assign rfl (ltn rfl)) rfl ?_
        refine VL.done ?_
        refine VN.then ?_
        refine VC.ret ?_
        simp only [Option.some.injEq, Prod.mk.injEq] at h
        obtain ⟨rfl, rfl⟩ := h
        exact VR.fn (rs := [.tmp 2, .tmp 3]) [] [(v2262, 9, 1, l2263.map enc_str)] [0] rfl (.tmp rfl (.tmp rfl .nil)) ⟨v2262, rfl, rfl, rfl⟩ trivial rfl (by decide)
      · rw [if_neg c2366] at h
        obtain rfl : b2365 = true := hb2365.symm.trans (bne_of_f c2366)
        refine VC.cond_t rfl ?_
        refine VC.seq ?_
        refine VC.region ?_
        refine VL.va (op_assign rfl (ltn rfl)) rfl ?_
        refine VL.va (op_assign rfl (ltn rfl)) rfl ?_
        refine VL.done ?_
        refine VN.then ?_
        refine VC.ret ?_
        refine VR.then ?_
        simp only [Option.some.injEq, Prod.mk.injEq] at h
        obtain ⟨rfl, rfl⟩ := h
        refine VR.nilRow' 9 1 ?_
        exact VR.fn (rs := [.tmp 2, .tmp 3]) [] [((.slice none 0 0), 9, 1, ([] : List ByteArray).map enc_str)] [0] rfl (.tmp rfl (.tmp rfl .nil)) ⟨(.slice none 0 0), rfl, rfl, rfl⟩ trivial rfl (by decide)
  · rw [if_neg c2077] at h
    obtain rfl : b2076 = true := hb2076.symm.trans (bne_iff_ne.2 c2077)
    refine VC.cond_t rfl ?_
    refine VC.seq ?_
    refine VC.region ?_
    refine VL.va (op_move rfl (ltn rfl)) rfl ?_
    refine VL.va (op_assign rfl (ltn rfl)) rfl ?_
    refine VL.va (op_assign rfl (ltn rfl)) rfl ?_
    refine VL.done ?_
    refine VN.then ?_
    refine VC.ret ?_
    refine VR.then ?_
    simp only [Option.some.injEq, Prod.mk.injEq] at h
    obtain ⟨rfl, rfl⟩ := h
    refine VR.nilRow' 9 1 ?_
    exact VR.fn (rs := [.tmp 2, .tmp 3]) [] [((.slice none 0 0), 9, 1, ([] : List ByteArray).map enc_str)] [0] rfl (.tmp rfl (.tmp rfl .nil)) ⟨(.slice none 0 0), rfl, rfl, rfl⟩ trivial rfl (by decide)
set_option maxHeartbeats 4000000 in
set_option maxRecDepth 100000 in
theorem tarryref01_Same.ok (k : Nat) (l0 : List ByteArray) (l1 : List ByteArray) (v0 : Value) (v1 : Value) (r1 : Bool) (h : tarryref01_Same.f k l0 l1 = some r1) :
    VCalls Try.prog 21 [v0, v1] [.row v0 1 (l0.map enc_str), .row v1 1 (l1.map enc_str)] (fun v G own => v = .bool r1 ∧ G = [] ∧ own = []) := by
  refine VCalls.intro Try.func21 rfl (len rfl) fun E hC hW hD hU => ?_
  unfold tarryref01_Same.f at h
  refine VC.seq ?_
  refine VC.region ?_
  refine VL.va (op_assign rfl (ltn rfl)) rfl ?_
  refine VL.done ?_
  refine VN.then ?_
  refine VC.seq ?_
  refine VC.seq ?_
  refine VC.region ?_
  refine VL.va (op_move rfl (ltn rfl)) rfl ?_
  refine VL.va (op_len (m := l0.length) 0 lenm Try.underlying39 rfl rfl (ltn rfl)) rfl ?_
  refine VL.va (op_move rfl (ltn rfl)) rfl ?_
  refine VL.va (op_len (m := l1.length) 1 lenm Try.underlying39 rfl rfl (ltn rfl)) rfl ?_
  refine VL.letter (((l0.length : Int) != (l1.length : Int))) fun b2380 hb2380 => ?_
  refine VL.va (op_cmp rfl rfl (congrArg some hb2380) (ltn rfl)) rfl ?_
  refine VL.done ?_
  refine VN.then ?_
  by_cases c2381 : (l0.length : Int) = (l1.length : Int)
  · rw [if_pos c2381] at h
    obtain rfl : b2380 = false := hb2380.symm.trans (bne_eq_false_iff_eq.2 c2381)
    refine VC.cond_f rfl ?_
    refine VC.skip ?_
    refine VN.then ?_
    refine VC.seq ?_
    refine VC.seq ?_
    refine VC.region ?_
    refine VL.va (op_move rfl (ltn rfl)) rfl ?_
    refine VL.va (op_len (m := l0.length) 0 lenm Try.underlying39 rfl rfl (ltn rfl)) rfl ?_
    refine VL.va (op_move rfl (ltn rfl)) rfl ?_
    refine VL.done ?_
    refine VN.then ?_
    refine VC.block ?_
    refine VC.loop1 (fun (i2435 : Int) => ⟨26, [(0, v0), (1, v1), (4, .bool false), (12, .int .i64 (l0.length : Int)), (13, .int .i64 i2435)], [.row v0 1 (l0.map enc_str), .row v1 1 (l1.map enc_str)], [], []⟩) (fun (ml1 : Nat) (i2435 : Int) => tarryref01_Same.l1 k l0 l1 ml1 i2435 = some r1) k 0 [] [] h ⟨rfl, ⟨rfl, rfl, rfl, rfl, rfl, trivial⟩, ⟨⟨0, rfl⟩, ⟨1, rfl⟩, trivial⟩, rfl, by decide, rfl, by decide⟩ (by intros; simp [tarryref01_Same.l1]) ?_
    clear h
    intro ml1 ihl1 i2435 h
    simp only [tarryref01_Same.l1] at h
    refine VC.seq ?_
    refine VC.region ?_
    refine VL.letter (decide (i2435 < (l0.length : Int))) fun b2449 hb2449 => ?_
    refine VL.va (op_cmp rfl rfl (congrArg some hb2449) (ltn rfl)) rfl ?_
    refine VL.done ?_
    refine VN.then ?_
    refine VC.seq ?_
    by_cases c2451 : i2435 < (l0.length : Int)
    · rw [if_pos c2451] at h
      obtain rfl : b2449 = true := hb2449.symm.trans (decide_eq_true c2451)
      refine VC.cond_t rfl ?_
      refine VC.skip ?_
      refine VN.then ?_
      refine VC.seq ?_
      refine VC.block ?_
      refine VC.seq ?_
      refine VC.region ?_
      refine VL.va (op_move rfl (ltn rfl)) rfl ?_
      refine VL.va (op_assign rfl (ltn rfl)) rfl ?_
      refine VL.done ?_
      refine VN.then ?_
      by_cases c2457 : 0 ≤ i2435
      · rw [if_pos c2457] at h
        replace h := Option.bind_eq_some_iff.1 h
        obtain ⟨x2458, hx2458, h⟩ := h
        replace h := Option.bind_eq_some_iff.1 h
        obtain ⟨x2459, hx2459, h⟩ := h
        refine VC.letter ((x2458 != x2459)) fun b2460 hb2460 => ?_
        refine VC.open (m := l0.length) 0 lenm rfl (pos_get hx2458) ?_
        rintro ad2386 n2387 rfl
        refine VC.open (m := l1.length) 1 lenm rfl (pos_get hx2459) ?_
        rintro ad2389 n2390 rfl
        refine VC.join0 (⟨26, [(0, (.slice (some ad2386) l0.length n2387)), (1, (.slice (some ad2389) l1.length n2390)), (4, .bool false), (5, .int .i64 i2435), (12, .int .i64 (l0.length : Int)), (13, .int .i64 i2435), (14, .bool true), (15, .int .i64 i2435), (16, (.slice (some ad2386) l0.length n2387)), (17, .int .i64 i2435), (19, .string x2458), (20, (.slice (some ad2389) l1.length n2390)), (21, .int .i64 i2435), (23, .string x2459), (24, .bool b2460)], [.row (.slice (some ad2386) l0.length n2387) 1 (l0.map enc_str), .row (.slice (some ad2389) l1.length n2390) 1 (l1.map enc_str)], [], []⟩) (True) ?_ ?_
        · refine VC.draw ⟨0, [], [.row (.slice (some ad2386) l0.length n2387) 1 (l0.map enc_str), .row (.slice (some ad2389) l1.length n2390) 1 (l1.map enc_str)], [], []⟩ (by kernel_rfl) rfl (by kernel_rfl) (n := 9) (listed := LB 9 0) ?_
          refine VA.va (i := 0) (listed' := LB 9 1) rfl (op_move rfl (ltn rfl)) rfl (by kernel_rfl) (by kernel_rfl) (by kernel_rfl) (by kernel_rfl) ⟨⟨⟨0, rfl⟩, ⟨1, rfl⟩, trivial⟩, trivial, trivial⟩ (fun _ _ _ h => h) ?_
          refine VA.va (i := 1) (listed' := LB 9 3) rfl (op_move rfl (ltn rfl)) rfl (by kernel_rfl) (by kernel_rfl) (by kernel_rfl) (by kernel_rfl) ⟨⟨⟨0, rfl⟩, ⟨1, rfl⟩, trivial⟩, trivial, trivial⟩ (fun _ _ _ h => h) ?_
          refine VA.va (i := 2) (listed' := LB 9 7) rfl (op_indexAddr Try.underlying39 TI9 rfl rfl c2457 (lt_get c2457 hx2458) rfl (ltn rfl)) rfl (by kernel_rfl) (by kernel_rfl) (by kernel_rfl) (by kernel_rfl) ⟨⟨⟨0, rfl⟩, ⟨1, rfl⟩, trivial⟩, trivial, trivial⟩ (fun _ _ _ h => h) ?_
          refine VA.va (i := 3) (listed' := LB 9 15) rfl (op_load_row (sz := 1) (o := 0) 0 i2435.toNat 1 rfl rfl (get_map hx2458) TI9 rfl (by decide) (ltn rfl)) rfl (by kernel_rfl) (by kernel_rfl) (by kernel_rfl) (by kernel_rfl) ⟨⟨⟨0, rfl⟩, ⟨1, rfl⟩, trivial⟩, trivial, trivial⟩ (fun _ _ _ h => h) ?_
          refine VA.va (i := 4) (listed' := LB 9 31) rfl (op_move rfl (ltn rfl)) rfl (by kernel_rfl) (by kernel_rfl) (by kernel_rfl) (by kernel_rfl) ⟨⟨⟨0, rfl⟩, ⟨1, rfl⟩, trivial⟩, trivial, trivial⟩ (fun _ _ _ h => h) ?_
          refine VA.va (i := 5) (listed' := LB 9 63) rfl (op_move rfl (ltn rfl)) rfl (by kernel_rfl) (by kernel_rfl) (by kernel_rfl) (by kernel_rfl) ⟨⟨⟨0, rfl⟩, ⟨1, rfl⟩, trivial⟩, trivial, trivial⟩ (fun _ _ _ h => h) ?_
          refine VA.va (i := 6) (listed' := LB 9 127) rfl (op_indexAddr Try.underlying39 TI9 rfl rfl c2457 (lt_get c2457 hx2459) rfl (ltn rfl)) rfl (by kernel_rfl) (by kernel_rfl) (by kernel_rfl) (by kernel_rfl) ⟨⟨⟨0, rfl⟩, ⟨1, rfl⟩, trivial⟩, trivial, trivial⟩ (fun _ _ _ h => h) ?_
          refine VA.va (i := 7) (listed' := LB 9 255) rfl (op_load_row (sz := 1) (o := 0) 1 i2435.toNat 1 rfl rfl (get_map hx2459) TI9 rfl (by decide) (ltn rfl)) rfl (by kernel_rfl) (by kernel_rfl) (by kernel_rfl) (by kernel_rfl) ⟨⟨⟨0, rfl⟩, ⟨1, rfl⟩, trivial⟩, trivial, trivial⟩ (fun _ _ _ h => h) ?_
          refine VA.va (i := 8) (listed' := LB 9 511) rfl (op_cmps rfl rfl (congrArg some hb2460) (ltn rfl)) rfl (by kernel_rfl) (by kernel_rfl) (by kernel_rfl) (by kernel_rfl) ⟨⟨⟨0, rfl⟩, ⟨1, rfl⟩, trivial⟩, trivial, trivial⟩ (fun _ _ _ h => h) ?_
          refine VA.done (by kernel_rfl) ?_
          exact VN.meet0  [] [] trivial ⟨rfl, ⟨rfl, rfl, rfl, rfl, rfl, rfl, rfl, rfl, rfl, rfl, rfl, rfl, rfl, rfl, rfl, trivial⟩, ⟨⟨0, rfl⟩, ⟨1, rfl⟩, trivial⟩, rfl, by decide, rfl, by decide⟩
        intro _
        by_cases c2461 : (x2458 == x2459) = true
        · rw [if_pos c2461] at h
          obtain rfl : b2460 = false := hb2460.symm.trans (bne_of_t c2461)
          refine VC.cond_f rfl ?_
          refine VC.skip ?_
          refine VN.block ?_
          refine VN.then ?_
          refine VC.region ?_
          refine VL.va (op_ari64 rfl rfl rfl (ltn rfl)) rfl ?_
          refine VL.va (op_move rfl (ltn rfl)) rfl ?_
          refine VL.done ?_
          refine VN.again [] [] (ihl1 (wrap64 (i2435 + 1)) h) ⟨rfl, ⟨rfl, rfl, rfl, rfl, rfl, trivial⟩, ⟨⟨0, rfl⟩, ⟨1, rfl⟩, trivial⟩, rfl, by decide, rfl, by decide⟩
        · rw [if_neg c2461] at h
          obtain rfl : b2460 = true := hb2460.symm.trans (bne_of_f c2461)
          refine VC.cond_t rfl ?_
          refine VC.seq ?_
          refine VC.region ?_
          refine VL.va (op_assign rfl (ltn rfl)) rfl ?_
          refine VL.done ?_
          refine VN.then ?_
          refine VC.ret ?_
          refine VR.block ?_
          refine VR.then ?_
          refine VR.then ?_
          refine VR.block ?_
          refine VR.then ?_
          obtain rfl := Option.some.inj h
          exact VR.fn (rs := [.tmp 4]) [] [] [] rfl (.tmp rfl .nil) ⟨rfl, rfl, rfl⟩ trivial rfl (by decide)
      · rw [if_neg c2457] at h; cases h
    · rw [if_neg c2451] at h
      obtain rfl : b2449 = false := hb2449.symm.trans (decide_eq_false c2451)
      refine VC.cond_f rfl ?_
      refine VC.exit ?_
      refine VX.then ?_
      refine VX.then ?_
      refine VX.hit ?_
      refine VN.then ?_
      refine VC.seq ?_
      refine VC.region ?_
      refine VL.va (op_assign rfl (ltn rfl)) rfl ?_
      refine VL.done ?_
      refine VN.then ?_
      refine VC.ret ?_
      obtain rfl := Option.some.inj h
      exact VR.fn (rs := [.tmp 4]) [] [] [] rfl (.tmp rfl .nil) ⟨rfl, rfl, rfl⟩ trivial rfl (by decide)
  · rw [if_neg c2381] at h
    obtain rfl : b2380 = true := hb2380.symm.trans (bne_iff_ne.2 c2381)
    refine VC.cond_t rfl ?_
    refine VC.seq ?_
    refine VC.region ?_
    refine VL.va (op_assign rfl (ltn rfl)) rfl ?_
    refine VL.done ?_
    refine VN.then ?_
    refine VC.ret ?_
    refine VR.then ?_
    obtain rfl := Option.some.inj h
    exact VR.fn (rs := [.tmp 4]) [] [] [] rfl (.tmp rfl .nil) ⟨rfl, rfl, rfl⟩ trivial rfl (by decide)
set_option maxHeartbeats 4000000 in
set_option maxRecDepth 100000 in
theorem tarrylaw01_alive.ok (k : Nat)   (r1 : Bool) (h : tarrylaw01_alive.f k = some r1) :
    VCalls Try.prog 11 [] [] (fun v G own => v = .bool r1 ∧ G = [] ∧ own = []) := by
  refine VCalls.intro Try.func11 rfl (len rfl) fun E hC hW hD hU => ?_
  unfold tarrylaw01_alive.f at h
  refine VC.seq ?_
  refine VC.region ?_
  refine VL.va (op_assign rfl (ltn rfl)) rfl ?_
  refine VL.done ?_
  refine VN.then ?_
  refine VC.seq ?_
  refine VC.region ?_
  replace h := Option.bind_eq_some_iff.1 h
  obtain ⟨⟨t2533, t2534⟩, hA2535, h⟩ := h
  dsimp only at h
  refine VL.sC (o_call0 FO8 (pack_Number.ok k 64 t2533 t2534 hA2535) rfl rfl (ltn rfl) (All_of .nil)) rfl ?_
  rintro _ _ _ ⟨rfl, rfl, rfl⟩
  refine VL.va (op_move rfl (ltn rfl)) rfl ?_
  refine VL.va (op_extract rfl rfl (ltn rfl)) rfl ?_
  refine VL.va (op_extract rfl rfl (ltn rfl)) rfl ?_
  refine VL.va (op_assign rfl (ltn rfl)) rfl ?_
  refine VL.va (op_assign rfl (ltn rfl)) rfl ?_
  refine VL.done ?_
  refine VN.then ?_
  refine VC.seq ?_
  refine VC.region ?_
  replace h := Option.bind_eq_some_iff.1 h
  obtain ⟨⟨t2536, t2537⟩, hA2538, h⟩ := h
  dsimp only at h
  refine VL.sC (o_call0 FO8 (pack_Number.ok k (-1) t2536 t2537 hA2538) rfl rfl (ltn rfl) (All_of .nil)) rfl ?_
  rintro _ _ _ ⟨rfl, rfl, rfl⟩
  refine VL.va (op_move rfl (ltn rfl)) rfl ?_
  refine VL.va (op_extract rfl rfl (ltn rfl)) rfl ?_
  refine VL.va (op_extract rfl rfl (ltn rfl)) rfl ?_
  refine VL.va (op_assign rfl (ltn rfl)) rfl ?_
  refine VL.va (op_assign rfl (ltn rfl)) rfl ?_
  refine VL.done ?_
  refine VN.then ?_
  refine VC.seq ?_
  refine VC.region ?_
  refine VL.va (op_move rfl (ltn rfl)) rfl ?_
  refine VL.letter ((t2534 == 0)) fun b2546 hb2546 => ?_
  refine VL.va (op_cmp rfl rfl (congrArg some hb2546) (ltn rfl)) rfl ?_
  refine VL.va (op_move rfl (ltn rfl)) rfl ?_
  by_cases c2547 : t2534 = 0
  · rw [if_pos c2547] at h
    obtain rfl : b2546 = true := hb2546.symm.trans (beq_iff_eq.2 c2547)
    refine VL.va (op_move rfl (ltn rfl)) rfl ?_
    refine VL.letter ((t2537 == 0)) fun b2548 hb2548 => ?_
    refine VL.va (op_cmp rfl rfl (congrArg some hb2548) (ltn rfl)) rfl ?_
    refine VL.va (op_pick rfl rfl (ltn rfl)) rfl ?_
    refine VL.va (op_move rfl (ltn rfl)) rfl ?_
    by_cases c2549 : t2537 = 0
    · rw [if_pos c2549] at h
      obtain rfl : b2548 = true := hb2548.symm.trans (beq_iff_eq.2 c2549)
      refine VL.va (op_move rfl (ltn rfl)) rfl ?_
      refine VL.letter ((t2533 == (⟨#[128, 1]⟩ : ByteArray))) fun b2550 hb2550 => ?_
      refine VL.va (op_cmps rfl rfl (congrArg some hb2550) (ltn rfl)) rfl ?_
      refine VL.va (op_pick rfl rfl (ltn rfl)) rfl ?_
      refine VL.va (op_move rfl (ltn rfl)) rfl ?_
      by_cases c2551 : (t2533 == (⟨#[128, 1]⟩ : ByteArray)) = true
      · rw [if_pos c2551] at h
        obtain rfl : b2550 = true := hb2550.symm.trans (c2551)
        refine VL.va (op_move rfl (ltn rfl)) rfl ?_
        refine VL.letter ((t2536 == (⟨#[1]⟩ : ByteArray))) fun b2552 hb2552 => ?_
        refine VL.va (op_cmps rfl rfl (congrArg some hb2552) (ltn rfl)) rfl ?_
        refine VL.va (op_pick rfl rfl (ltn rfl)) rfl ?_
        refine VL.va (op_assign rfl (ltn rfl)) rfl ?_
        refine VL.done ?_
        refine VN.then ?_
        refine VC.ret ?_
        obtain rfl := Option.some.inj h
        subst hb2552
        exact VR.fn (rs := [.tmp 0]) [] [] [] rfl (.tmp rfl .nil) ⟨rfl, rfl, rfl⟩ trivial rfl (by decide)
      · rw [if_neg c2551] at h
        obtain rfl : b2550 = false := hb2550.symm.trans (Bool.eq_false_iff.2 c2551)
        refine VL.un rfl rfl (ltn rfl) ?_
        refine VL.un rfl rfl (ltn rfl) ?_
        refine VL.va (op_pick rfl rfl (ltn rfl)) rfl ?_
        refine VL.va (op_assign rfl (ltn rfl)) rfl ?_
        refine VL.done ?_
        refine VN.then ?_
        refine VC.ret ?_
        obtain rfl := Option.some.inj h
        exact VR.fn (rs := [.tmp 0]) [] [] [] rfl (.tmp rfl .nil) ⟨rfl, rfl, rfl⟩ trivial rfl (by decide)
    · rw [if_neg c2549] at h
      obtain rfl : b2548 = false := hb2548.symm.trans (beq_eq_false_iff_ne.2 c2549)
      refine VL.un rfl rfl (ltn rfl) ?_
      refine VL.un rfl rfl (ltn rfl) ?_
      refine VL.va (op_pick rfl rfl (ltn rfl)) rfl ?_
      refine VL.va (op_move rfl (ltn rfl)) rfl ?_
      refine VL.un rfl rfl (ltn rfl) ?_
      refine VL.un rfl rfl (ltn rfl) ?_
      refine VL.va (op_pick rfl rfl (ltn rfl)) rfl ?_
      refine VL.va (op_assign rfl (ltn rfl)) rfl ?_
      refine VL.done ?_
      refine VN.then ?_
      refine VC.ret ?_
      obtain rfl := Option.some.inj h
      exact VR.fn (rs := [.tmp 0]) [] [] [] rfl (.tmp rfl .nil) ⟨rfl, rfl, rfl⟩ trivial rfl (by decide)
  · rw [if_neg c2547] at h
    obtain rfl : b2546 = false := hb2546.symm.trans (beq_eq_false_iff_ne.2 c2547)
    refine VL.un rfl rfl (ltn rfl) ?_
    refine VL.un rfl rfl (ltn rfl) ?_
    refine VL.va (op_pick rfl rfl (ltn rfl)) rfl ?_
    refine VL.va (op_move rfl (ltn rfl)) rfl ?_
    refine VL.un rfl rfl (ltn rfl) ?_
    refine VL.un rfl rfl (ltn rfl) ?_
    refine VL.va (op_pick rfl rfl (ltn rfl)) rfl ?_
    refine VL.va (op_move rfl (ltn rfl)) rfl ?_
    refine VL.un rfl rfl (ltn rfl) ?_
    refine VL.un rfl rfl (ltn rfl) ?_
    refine VL.va (op_pick rfl rfl (ltn rfl)) rfl ?_
    refine VL.va (op_assign rfl (ltn rfl)) rfl ?_
    refine VL.done ?_
    refine VN.then ?_
    refine VC.ret ?_
    obtain rfl := Option.some.inj h
    exact VR.fn (rs := [.tmp 0]) [] [] [] rfl (.tmp rfl .nil) ⟨rfl, rfl, rfl⟩ trivial rfl (by decide)

end Go.Proofs.Ytacenfolbmdpoaa.PPackBack
