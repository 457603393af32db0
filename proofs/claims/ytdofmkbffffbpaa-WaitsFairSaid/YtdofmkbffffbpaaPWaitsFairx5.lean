/- Written by a program of this repo: what the program's functions do, each as a Lean function, shown of the loaded code; or a statement's row over that; no condition of its own. -/
import Derived.Test.YtdofmkbffffbpaaPWaitsFairx4
namespace Go.Proofs.Ytdofmkbffffbpaa.PWaitsFair
open Go Go.RowKit Go.Proofs.YtdofmkbffffbpaaV
set_option linter.unusedVariables false
set_option linter.unusedSimpArgs false

set_option maxHeartbeats 4000000 in
set_option maxRecDepth 100000 in
theorem slices_Clone_api_Line_api_Line.ok (l0 : List S25) (v0 : Value) (r1 : List S25) (h : slices_Clone_api_Line_api_Line.f l0 = some r1) :
    VCalls Try.prog 30 [v0] [.row v0 4 (l0.map enc25)] (fun v G own => ∃ w0 : Value, v = w0 ∧ G = [] ∧ own = [(w0, 26, 4, r1.map enc25)]) := by
  unfold slices_Clone_api_Line_api_Line.f at h
  by_cases hc : ¬ (l0.length * 40 ≤ 140737488355328)
  · rw [if_neg hc] at h; cases h
  replace hc := Decidable.not_not.1 hc
  rw [if_pos hc] at h
  obtain rfl := Option.some.inj h
  clear h
  refine VCalls.intro Try.func30 rfl (len rfl) fun E hC hW hD hU => ?_
  refine VC.formF 0 rfl fun A cap hv h1 h2 h3 => ?_
  rw [lenm] at hv h1 h3
  subst hv
  refine VC.seq (VC.region ?_)
  refine VL.va (op_assign rfl (ltn rfl)) rfl ?_
  refine VL.done (VN.then ?_)
  refine VC.seq ?_
  refine VC.seq (VC.region ?_)
  refine VL.va (op_move rfl (ltn rfl)) rfl ?_
  refine VL.va (op_isnil Try.underlying22 rfl rfl (ltn rfl)) rfl ?_
  refine VL.done (VN.then ?_)
  cases A with
  | none =>
    have e : l0 = [] := List.eq_nil_of_length_eq_zero (h3 rfl)
    subst e
    refine VC.cond_t rfl ?_
    refine VC.seq (VC.region ?_)
    refine VL.va (op_assign rfl (ltn rfl)) rfl ?_
    refine VL.done (VN.then ?_)
    refine VC.ret (VR.then ?_)
    refine VR.nilRow' 26 4 ?_
    exact VR.fn (rs := [.tmp 2]) [] [(.slice none 0 0, 26, 4, [])] [0] rfl (.tmp rfl .nil) ⟨_, rfl, rfl, rfl⟩ trivial rfl (by decide)
  | some ad =>
    refine VC.cond_f rfl (VC.skip (VN.then ?_))
    refine VC.seq (VC.region ?_)
    refine VL.sG (o_buildSlice (vals := []) (cells := #[]) (es := List.map enc25 ([] : List S25)) Try.underlying22 TI26 Z26 rfl (by decide) (by decide) (by kernel_rfl) rfl rfl (flat_map enc25_ok _) (ltn rfl)) rfl ?_
    intro v1
    refine VL.va (op_move rfl (ltn rfl)) rfl ?_
    refine VL.sG (o_append (es3 := l0.map enc25) 0 rfl Try.underlying22 EI26 rfl rfl rfl (.inl ⟨0, rfl⟩) (by rw [lenm, lenm]; simpa using hc) (ltn rfl)) rfl ?_
    intro v2
    refine VL.va (op_assign rfl (ltn rfl)) rfl ?_
    refine VL.done (VN.then ?_)
    refine VC.ret ?_
    exact VR.fn (rs := [.tmp 2]) [] [(v2, 26, 4, l0.map enc25)] [0] rfl (.tmp rfl .nil) ⟨_, rfl, rfl, rfl⟩ trivial rfl (by decide)
theorem flat_get {α : Type} [Inhabited α] {enc : α → List Value} {k : Nat} (hk : ∀ x, (enc x).length = k) : ∀ (l : List α) (t : Nat), t < l.length * k → (l.map enc).flatten[t]? = some ((enc l[t / k]!)[t % k]!)
  | [], t, h => by simp at h
  | x :: l, t, h => by
    rw [List.map_cons, List.flatten_cons]
    have h0 : 0 < k := by
      rcases Nat.eq_zero_or_pos k with h1 | h1
      · subst h1
        simp at h
      · exact h1
    rcases Nat.lt_or_ge t k with h1 | h1
    · rw [List.getElem?_append_left (by rw [hk]; exact h1), Nat.div_eq_of_lt h1, Nat.mod_eq_of_lt h1]
      have h2 : t < (enc x).length := by rw [hk]; exact h1
      show (enc x)[t]? = some ((enc x)[t]!)
      rw [List.getElem?_eq_getElem h2, getElem!_pos (enc x) t h2]
    · have h2 : t - k < l.length * k := by
        rw [List.length_cons, Nat.succ_mul] at h
        omega
      rw [List.getElem?_append_right (by rw [hk]; exact h1), hk, flat_get hk l (t - k) h2]
      have e1 : t / k = (t - k) / k + 1 := by
        rw [← Nat.add_div_right _ h0, Nat.sub_add_cancel h1]
      have e2 : t % k = (t - k) % k := by rw [← Nat.mod_eq_sub_mod h1]
      rw [e1, e2]
      rfl
theorem flatK_is {α : Type} [Inhabited α] {enc : α → List Value} {k : Nat} (hk : ∀ x, (enc x).length = k) (l : List α) : Go.Sort.flatK enc k l.toArray = ((l.map enc).flatten).toArray := by
  apply Array.ext_getElem?
  intro t
  unfold Go.Sort.flatK
  rw [Array.getElem?_map]
  rcases Nat.lt_or_ge t (l.length * k) with h | h
  · have hr : (Array.range (l.toArray.size * k))[t]? = some t := by
      rw [Array.getElem?_eq_getElem (by simpa using h)]
      simp
    rw [hr, List.getElem?_toArray, flat_get hk l t h]
    simp
  · rw [Array.getElem?_eq_none (by simpa using h), List.getElem?_toArray, List.getElem?_eq_none]
    · rfl
    · have h3 : ∀ l : List α, (l.map enc).flatten.length = l.length * k := by
        intro l
        induction l with
        | nil => simp
        | cons x l ih => rw [List.map_cons, List.flatten_cons, List.length_append, ih, hk, List.length_cons, Nat.succ_mul, Nat.add_comm]
      rw [h3]
      exact h
theorem heap_sorted {F : Array Value} {w : World} {blk m : Nat} {os : Array Obj} (j : Nat) (hj : j < w.heap.size) (hne : j ≠ blk) : (Go.Sort.grow (Go.Sort.putRow id (Go.Sort.ahead w m) blk 0 F) os).heap[j]? = w.heap[j]? := by
  unfold Go.Sort.grow Go.Sort.putRow Go.Sort.mapBlock Go.Sort.ahead
  simp only
  rw [Array.getElem?_append_left (by simpa using hj), Array.getElem?_modify, if_neg (fun e => hne e.symm)]
theorem heap_sorted_at {F : Array Value} {w : World} {blk m : Nat} {os : Array Obj} {cur : Array Value} {e : TypeId} {z : Nat × Nat} (hb : w.heap[blk]? = some (.cells cur e z)) : (Go.Sort.grow (Go.Sort.putRow id (Go.Sort.ahead w m) blk 0 F) os).heap[blk]? = some (.cells (Go.Sort.putCells id 0 F cur) e z) := by
  have hj := (Array.getElem?_eq_some_iff.1 hb).1
  unfold Go.Sort.grow Go.Sort.putRow Go.Sort.mapBlock Go.Sort.ahead
  simp only
  rw [Array.getElem?_append_left (by simpa using hj), Array.getElem?_modify, if_pos rfl, hb]
  rfl
theorem take_putCells {F cur : Array Value} (h : F.size ≤ cur.size) : (Go.Sort.putCells id 0 F cur).toList.take F.size = F.toList := by
  apply List.ext_getElem?
  intro t
  rw [List.getElem?_take]
  split
  · rename_i ht
    unfold Go.Sort.putCells
    rw [Array.getElem?_toList, Array.getElem?_mapIdx, Array.getElem?_eq_getElem (by omega), Array.getElem?_toList, Array.getElem?_eq_getElem ht]
    simp only [Option.map_some]
    rw [if_pos ⟨Nat.zero_le _, by omega⟩, Nat.sub_zero, getElem!_pos F t ht]
    rfl
  · rename_i ht
    rw [List.getElem?_eq_none (by simpa using ht)]
/-- slices.SortFunc at a row of the call's own, under a function that parts whatever two elements that are not one. -/
theorem sort_own {P : Program} {rn : Go.Shelf.Ren} {α : Type} [Inhabited α] (L : Go.Proofs.SlLaysF0.n6 P rn) {e k : Nat} (hT : TI P (rn.t 24) true k) (enc : α → List Value) (hE : ∀ a, (enc a).length = k ∧ ∀ u ∈ enc a, u.oneCell' = true) (he : rn.t 24 = e)
    (p : α → α → Option Int) (htot : ∀ x y, ∃ z, p x y = some z) (hO : Go.Sort.SWO (Go.Proofs.ltOf fun x y => (p x y).getD 0)) (hP : ∀ x y, (Go.Proofs.ltOf fun x y => (p x y).getD 0) x y = false → (Go.Proofs.ltOf fun x y => (p x y).getD 0) y x = false → x = y)
    (clf : Nat) (hFO : FOk P clf) (hp : ∀ x y b, p x y = some b → VCalls P clf [Go.Proofs.YtdofmkbffffbpaaV.valOf true (enc x), Go.Proofs.YtdofmkbffffbpaaV.valOf true (enc y)] [] (fun v G own => v = .int .i64 b ∧ G = [] ∧ own = [])) (l0 : List α) (hl : l0.length < 4611686018427387904) (v0 : Value) :
    VOwn P (rn.f 6) [v0, .func (.func clf) #[] #[]] (v0, e, k, l0.map enc) [] (fun q x' => q = .tuple #[] ∧ x' = (v0, e, k, (l0.mergeSort fun x y => !(Go.Proofs.ltOf fun x y => (p x y).getD 0) y x).map enc)) := by
  subst he
  intro base w hbase hrow _
  obtain ⟨hfl, hlen, hv⟩ := hrow
  simp only at hfl hlen hv
  rcases hv with ⟨rfl, h0⟩ | ⟨g, cap, cur, rfl, hg, hb, hc1, hc2, hcs, htake⟩
  · have : l0 = [] := by simpa using h0
    subst this
    refine (Go.Proofs.AnyF.slices_SortFunc_none L none 0 (.func (.func clf) #[] #[]) w).mono ?_
    rintro e1 w1 ⟨rfl, rfl⟩
    exact ⟨_, (.slice none 0 0, rn.t 24, k, []), rfl, ⟨rfl, by simp⟩, ⟨⟨rfl, rfl, rfl, Nat.le_refl _, fun _ _ _ => rfl⟩, Nat.le_refl _⟩, ⟨hfl, hlen, .inl ⟨rfl, rfl⟩⟩, by simp [Value.ownBlock]⟩
  · have hk : ∀ x, (enc x).length = k := fun x => (hE x).1
    have hF := flatK_is hk l0
    have hlm : (l0.map enc).length = l0.length := by simp
    rw [hlm] at hlen hc1 htake
    have hblk := (Array.getElem?_eq_some_iff.1 hb).1
    have hle : l0.length * k ≤ cur.size := by rw [hcs]; exact Nat.mul_le_mul_right _ hc1
    have hsz : l0.toArray.size < 4611686018427387904 := by
      simpa using hl
    have hH : Go.Sort.HoldsK enc k w g 0 l0.toArray := by
      unfold Go.Sort.HoldsK
      rw [hF]
      intro j hj
      have hj2 : j < l0.length * k := by simpa [hlen] using hj
      constructor
      · have h1 : (l0.map enc).flatten[j]? = cur[j]? := by
          rw [← htake, List.getElem?_take, if_pos hj2, Array.getElem?_toList]
        rw [Nat.zero_add, World.cell?]
        simp only [hb]
        rw [← h1]
        have h2 : j < (l0.map enc).flatten.length := by simpa using hj
        rw [List.getElem?_eq_getElem h2, getElem!_pos _ j hj]
        rfl
      · unfold World.frozen?
        simp only [hb]
        simp
    have hcmp : Go.Proofs.CmpLays P clf #[] enc k (fun x y => (p x y).getD 0) g 0 l0.toArray.size w := by
      intro m os dk _ x y
      obtain ⟨z, hz⟩ := htot x y
      refine (hp x y z hz (fun _ => False) _ (fun _ h => h.elim) (by simp)).mono ?_
      rintro e1 w1 ⟨v, G, own, rfl, ⟨rfl, rfl, rfl⟩, _, _, _, hbel⟩
      refine ⟨by simp only [hz]; rfl, hbel.grow⟩
    have hmain := Go.Proofs.AnyQ.slices_SortFunc_total L k (run_isAgg hT) (run_size hT) enc hk (fun x => (hE x).2) (fun x y => (p x y).getD 0) hO clf #[] g 0 cap l0.toArray w (fun args w => run_enter hFO w) hcmp hH hblk hsz hP
    refine Calls.mono (by simpa using hmain) ?_
    rintro e1 w1 ⟨rfl, n, os, rfl⟩
    generalize hr : (l0.mergeSort fun x y => !(Go.Proofs.ltOf fun x y => (p x y).getD 0) y x) = r
    have hrl : r.length = l0.length := by rw [← hr]; exact List.length_mergeSort _
    unfold Go.Proofs.sortWorldK Go.Sort.putRowK
    rw [flatK_is hk r]
    have hrf : ((r.map enc).flatten).length = l0.length * k := by
      rw [flat_len (flat_map hE r)]
      simp [hrl]
    refine ⟨_, _, rfl, ⟨rfl, rfl⟩, ⟨⟨rfl, rfl, rfl, ?_, fun j hj hne => heap_sorted j hj (fun e => hne (by rw [e]; rfl))⟩, ?_⟩, ⟨flat_map hE r, by simpa [hrl] using hrf, .inr ⟨g, cap, Go.Sort.putCells id 0 ((r.map enc).flatten).toArray cur, by simp [hrl], hg, heap_sorted_at hb, by simp [hrl]; omega, hc2, by simp [Go.Sort.putCells, hcs], ?_⟩⟩, fun b hb2 => .inl hb2⟩
    · unfold Go.Sort.grow Go.Sort.putRow Go.Sort.mapBlock Go.Sort.ahead
      simp
    · show w.drawn ≤ w.drawn + n
      omega
    · have := take_putCells (F := ((r.map enc).flatten).toArray) (cur := cur) (by simpa [hrf] using hle)
      simpa [hrf, hrl] using this
theorem ope_fun {P : Program} {E : Env} {s : St} {f : FuncId} {cal : Operand} {args : List Operand} {ats : Array TypeId} {vals : List Value} {dst : Option Nat} {ty : TypeId} {pos : String} {after : Array Edge} {gd : Option (Nat × Bool)} (hF : FOk P f) (hc : s.ev cal = some (.func (.func f) #[] #[])) (ha : args.map s.ev = vals.map some) :
    OpE P E ⟨dst, .call { callee := .value cal, args := args.toArray, argTypes := ats }, ty, pos, after, gd⟩ s f vals := by
  intro a w hev hm
  have hargs : args.map a.eval = vals := evals hev ha
  have h2 := run_call (P := P) (w := w) (caps := #[]) (c := { callee := .value cal, args := args.toArray, argTypes := ats }) (t := ty) (ρ := a.eval) hF rfl (hev _ _ hc)
  have e : (args.toArray.map a.eval) ++ #[] = vals.toArray := by
    rw [List.map_toArray, hargs]
    simp
  rw [← e]
  exact h2
def lay_31_ren : Go.Shelf.Ren := ⟨fun | 6 => 31 | 15 => 45 | 14 => 44 | 28 => 63 | 29 => 64 | 20 => 55 | 21 => 56 | 22 => 57 | 23 => 58 | 24 => 59 | 25 => 60 | 26 => 61 | 27 => 62 | 46 => 78 | 47 => 79 | 48 => 80 | 49 => 81 | 50 => 82 | 57 => 93 | n => n, fun | 22 => 22 | 24 => 26 | 25 => 55 | 3 => 3 | 39 => 68 | 0 => 0 | 53 => 89 | 55 => 91 | 4 => 4 | 46 => 82 | 45 => 81 | 50 => 86 | 5 => 5 | 9 => 9 | 66 => 103 | 70 => 107 | 76 => 117 | 77 => 118 | n => n, fun | n => n⟩
theorem lay_31 : Go.Proofs.SlLaysF0.n6 Try.prog lay_31_ren where
  mixed := by kernel_rfl
  f6 := ⟨"slices.SortFunc[[]tarry/api.Line,tarry/api.Line]", by decide, Try.func31.trans (congrArg some (by kernel_rfl))⟩
  f14 := ⟨"slices.pdqsortCmpFunc[tarry/api.Line]", by decide, Try.func44.trans (congrArg some (by kernel_rfl))⟩
  f15 := Try.func45.trans (congrArg some (by kernel_rfl))
  f20 := ⟨"slices.insertionSortCmpFunc[tarry/api.Line]", by decide, Try.func55.trans (congrArg some (by kernel_rfl))⟩
  f21 := ⟨"slices.heapSortCmpFunc[tarry/api.Line]", by decide, Try.func56.trans (congrArg some (by kernel_rfl))⟩
  f22 := ⟨"slices.breakPatternsCmpFunc[tarry/api.Line]", by decide, Try.func57.trans (congrArg some (by kernel_rfl))⟩
  f23 := ⟨"slices.choosePivotCmpFunc[tarry/api.Line]", by decide, Try.func58.trans (congrArg some (by kernel_rfl))⟩
  f24 := ⟨"slices.reverseRangeCmpFunc[tarry/api.Line]", by decide, Try.func59.trans (congrArg some (by kernel_rfl))⟩
  f25 := ⟨"slices.partialInsertionSortCmpFunc[tarry/api.Line]", by decide, Try.func60.trans (congrArg some (by kernel_rfl))⟩
  f26 := ⟨"slices.partitionEqualCmpFunc[tarry/api.Line]", by decide, Try.func61.trans (congrArg some (by kernel_rfl))⟩
  f27 := ⟨"slices.partitionCmpFunc[tarry/api.Line]", by decide, Try.func62.trans (congrArg some (by kernel_rfl))⟩
  f28 := Try.func63.trans (congrArg some (by kernel_rfl))
  f29 := Try.func64.trans (congrArg some (by kernel_rfl))
  f46 := ⟨"slices.siftDownCmpFunc[tarry/api.Line]", by decide, Try.func78.trans (congrArg some (by kernel_rfl))⟩
  f47 := Try.func79.trans (congrArg some (by kernel_rfl))
  f48 := Try.func80.trans (congrArg some (by kernel_rfl))
  f49 := ⟨"slices.medianAdjacentCmpFunc[tarry/api.Line]", by decide, Try.func81.trans (congrArg some (by kernel_rfl))⟩
  f50 := ⟨"slices.medianCmpFunc[tarry/api.Line]", by decide, Try.func82.trans (congrArg some (by kernel_rfl))⟩
  f57 := ⟨"slices.order2CmpFunc[tarry/api.Line]", by decide, Try.func93.trans (congrArg some (by kernel_rfl))⟩
  t0 := Try.underlying0
  a0 := Try.isAgg0
  z0 := Try.sizeOf0
  v0 := Try.zeroValue0
  t3 := Try.underlying3
  a3 := Try.isAgg3
  z3 := Try.sizeOf3
  v3 := Try.zeroValue3
  t4 := Try.underlying4
  a4 := Try.isAgg4
  z4 := Try.sizeOf4
  v4 := Try.zeroValue4
  t5 := Try.underlying5
  a5 := Try.isAgg5
  z5 := Try.sizeOf5
  v5 := Try.zeroValue5
  t9 := Try.underlying9
  a9 := Try.isAgg9
  z9 := Try.sizeOf9
  v9 := Try.zeroValue9
  t22 := Try.underlying22
  a22 := Try.isAgg22
  z22 := Try.sizeOf22
  v22 := Try.zeroValue22
  t25 := Try.underlying55
  a25 := Try.isAgg55
  z25 := Try.sizeOf55
  v25 := Try.zeroValue55
  t39 := Try.underlying68
  a39 := Try.isAgg68
  z39 := Try.sizeOf68
  v39 := Try.zeroValue68
  t45 := Try.underlying81
  a45 := Try.isAgg81
  z45 := Try.sizeOf81
  v45 := Try.zeroValue81
  t46 := Try.underlying82
  a46 := Try.isAgg82
  z46 := Try.sizeOf82
  v46 := Try.zeroValue82
  t50 := Try.underlying86
  a50 := Try.isAgg86
  z50 := Try.sizeOf86
  v50 := Try.zeroValue86
  t53 := Try.underlying89
  a53 := Try.isAgg89
  z53 := Try.sizeOf89
  v53 := Try.zeroValue89
  t55 := Try.underlying91
  a55 := Try.isAgg91
  z55 := Try.sizeOf91
  v55 := Try.zeroValue91
  t66 := Try.underlying103
  a66 := Try.isAgg103
  z66 := Try.sizeOf103
  v66 := Try.zeroValue103
  t70 := Try.underlying107
  a70 := Try.isAgg107
  z70 := Try.sizeOf107
  v70 := Try.zeroValue107
  t76 := Try.underlying117
  a76 := Try.isAgg117
  z76 := Try.sizeOf117
  v76 := Try.zeroValue117
  t77 := Try.underlying118
  a77 := Try.isAgg118
  z77 := Try.sizeOf118
  v77 := Try.zeroValue118
/-! ### texts in order -/
theorem cb_self : ∀ l : List UInt8, Lib.compareBytes l l = 0
  | [] => rfl
  | a :: l => by
    have : ¬ a < a := by simp [UInt8.lt_iff_toNat_lt]
    rw [Lib.compareBytes, if_neg this, if_neg this]
    exact cb_self l
theorem cb_eq : ∀ (a b : List UInt8), Lib.compareBytes a b = 0 → a = b
  | [], [], _ => rfl
  | [], _ :: _, h => by rw [Lib.compareBytes] at h; omega
  | _ :: _, [], h => by rw [Lib.compareBytes] at h; omega
  | a :: xs, b :: ys, h => by
    rw [Lib.compareBytes] at h
    split at h
    · omega
    · split at h
      · omega
      · rename_i h1 h2
        have : a = b := by
          apply UInt8.toNat_inj.1
          simp only [UInt8.lt_iff_toNat_lt] at h1 h2
          omega
        rw [this, cb_eq xs ys h]
theorem cb_anti : ∀ (a b : List UInt8), Lib.compareBytes a b = - Lib.compareBytes b a
  | [], [] => rfl
  | [], _ :: _ => rfl
  | _ :: _, [] => rfl
  | a :: xs, b :: ys => by
    rw [Lib.compareBytes, Lib.compareBytes, cb_anti xs ys]
    simp only [UInt8.lt_iff_toNat_lt]
    split <;> split <;> omega
theorem cb_trans : ∀ (a b c : List UInt8), Lib.compareBytes a b < 0 → Lib.compareBytes b c < 0 → Lib.compareBytes a c < 0
  | [], [], _, h, _ => by rw [Lib.compareBytes] at h; omega
  | [], _ :: _, [], _, h => by rw [Lib.compareBytes] at h; omega
  | [], _ :: _, _ :: _, _, _ => by rw [Lib.compareBytes]; omega
  | _ :: _, [], _, h, _ => by rw [Lib.compareBytes] at h; omega
  | _ :: _, _ :: _, [], _, h => by rw [Lib.compareBytes] at h; omega
  | a :: xs, b :: ys, c :: zs, h1, h2 => by
    have ih := cb_trans xs ys zs
    rw [Lib.compareBytes] at h1 h2 ⊢
    simp only [UInt8.lt_iff_toNat_lt] at *
    split at h1
    · split at h2
      · rw [if_pos (by omega)]; omega
      · split at h2
        · omega
        · rw [if_pos (by omega)]; omega
    · split at h1
      · omega
      · split at h2
        · rw [if_pos (by omega)]; omega
        · split at h2
          · omega
          · rw [if_neg (by omega), if_neg (by omega)]
            exact ih h1 h2
def sc (a b : ByteArray) : Int := Lib.compareBytes a.data.toList b.data.toList
def sl (a b : ByteArray) : Prop := sc a b < 0
instance (a b : ByteArray) : Decidable (sl a b) := by unfold sl; exact inferInstance
theorem sl_trans {a b c : ByteArray} (h1 : sl a b) (h2 : sl b c) : sl a c := cb_trans _ _ _ h1 h2
theorem sc_self (a : ByteArray) : sc a a = 0 := cb_self _
theorem sc_anti (a b : ByteArray) : sc a b = - sc b a := cb_anti _ _
theorem sc_eq {a b : ByteArray} : sc a b = 0 ↔ a = b := by
  refine ⟨fun h => ?_, fun h => by rw [h]; exact sc_self b⟩
  have := cb_eq _ _ h
  cases a with
  | mk a =>
    cases b with
    | mk b => simpa using this
theorem sl_irr (a : ByteArray) : ¬ sl a a := by unfold sl; rw [sc_self]; decide
theorem sl_asymm {a b : ByteArray} (h : sl a b) : ¬ sl b a := by unfold sl at *; rw [sc_anti b a]; omega
theorem sl_tri {a b : ByteArray} (h : ¬ sl a b) (hne : a ≠ b) : sl b a := by
  unfold sl at *
  rw [sc_anti b a]
  have : sc a b ≠ 0 := fun e => hne (sc_eq.1 e)
  omega
theorem or_at (k : Nat) (l : List Int) (m i : Nat) (x : Int) (hx : l[i]? = some x) (hi : i < 1000) : cmp_Or_int.l1 k l (m + 1) (i : Int) = if x = 0 then cmp_Or_int.l1 k l m ((i + 1 : Nat) : Int) else some x := by
  have hl : i < l.length := (List.getElem?_eq_some_iff.1 hx).1
  have hw : wrap64 ((i : Int) + 1) = ((i + 1 : Nat) : Int) := by
    unfold wrap64
    omega
  rw [cmp_Or_int.l1, if_pos (by omega), if_pos (by omega), Int.toNat_natCast, hx, Option.bind_some, hw]
theorem or_end (k : Nat) (l : List Int) (m i : Nat) (h : l.length ≤ i) : cmp_Or_int.l1 k l (m + 1) (i : Int) = some 0 := by
  rw [cmp_Or_int.l1, if_neg (by omega)]
theorem or2_is (k : Nat) (hk : 4 ≤ k) (a b : Int) : cmp_Or_int.f k [a, b] = some (if a = 0 then b else a) := by
  obtain ⟨k, rfl⟩ : ∃ q, k = q + 4 := ⟨k - 4, by omega⟩
  unfold cmp_Or_int.f
  rw [show (0 : Int) = ((0 : Nat) : Int) from rfl, or_at _ _ _ _ a rfl (by decide), or_at _ _ _ _ b rfl (by decide), or_end _ _ _ _ (by simp)]
  repeat' split
  all_goals simp_all
theorem or3_is (k : Nat) (hk : 4 ≤ k) (a b c : Int) : cmp_Or_int.f k [a, b, c] = some (if a = 0 then (if b = 0 then c else b) else a) := by
  obtain ⟨k, rfl⟩ : ∃ q, k = q + 4 := ⟨k - 4, by omega⟩
  unfold cmp_Or_int.f
  rw [show (0 : Int) = ((0 : Nat) : Int) from rfl, or_at _ _ _ _ a rfl (by decide), or_at _ _ _ _ b rfl (by decide), or_at _ _ _ _ c rfl (by decide), or_end _ _ _ _ (by simp)]
  repeat' split
  all_goals simp_all
theorem cint_is (a b : Int) : cmp_Compare_int.f a b = some (if a < b then -1 else if a > b then 1 else 0) := by
  unfold cmp_Compare_int.f cmp_isNaN_int.f
  simp only [Option.bind_some, bne_self_eq_false, Bool.false_eq_true, if_false]
  split
  · rfl
  · split <;> rfl
/-- Which wait goes ahead. -/
def ql (a b : S25) : Prop := a.f1 < b.f1 ∨ (a.f1 = b.f1 ∧ (a.f2 < b.f2 ∨ (a.f2 = b.f2 ∧ a.f3 < b.f3)))
instance (a b : S25) : Decidable (ql a b) := by unfold ql; exact inferInstance
/-- Which line stands ahead. -/
def lt (a b : S25) : Prop := sl a.f0 b.f0 ∨ (a.f0 = b.f0 ∧ ql a b)
instance (a b : S25) : Decidable (lt a b) := by unfold lt; exact inferInstance
theorem qless_is (k : Nat) (hk : 4 ≤ k) (x y : S25) : queue_Less.f k x.f1 x.f2 x.f3 y.f1 y.f2 y.f3 = some (decide (ql x y)) := by
  unfold queue_Less.f queue_compare.f
  simp only [cint_is, Option.bind_some, or3_is k hk]
  congr 1
  rw [decide_eq_decide]
  unfold ql
  repeat' split
  all_goals omega
theorem ql_irr (a : S25) : ¬ ql a a := by unfold ql; omega
theorem ql_asymm {a b : S25} (h : ql a b) : ¬ ql b a := by unfold ql at *; omega
theorem ql_trans {a b c : S25} (h1 : ql a b) (h2 : ql b c) : ql a c := by unfold ql at *; omega
theorem scmp_is (a b : ByteArray) : strings_Compare.f a b = some (sc a b) := rfl
theorem cmp_is (k : Nat) (hk : 4 ≤ k) (x y : S25) : ∃ c, waits_compare.f k x.f0 x.f1 x.f2 x.f3 y.f0 y.f1 y.f2 y.f3 = some c ∧ (c < 0 ↔ lt x y) := by
  have w0 : wrap64 (1 - 1) = 0 := by decide +kernel
  have w1 : wrap64 (0 - 1) = -1 := by decide +kernel
  have w2 : wrap64 (1 - 0) = 1 := by decide +kernel
  have w3 : wrap64 (0 - 0) = 0 := by decide +kernel
  have he := @sc_eq x.f0 y.f0
  unfold waits_compare.f
  rw [qless_is k hk x y, qless_is k hk y x]
  simp only [Option.bind_some, scmp_is, or2_is k hk, w0, w1, w2, w3, decide_eq_true_eq]
  have h1 := @ql_asymm x y
  unfold lt sl
  rw [← he]
  generalize sc x.f0 y.f0 = s at *
  by_cases a1 : ql x y
  · have a2 := h1 a1
    simp only [if_pos a1, if_neg a2]
    refine ⟨_, rfl, ?_⟩
    split
    · rename_i h; subst h; simp [a1]
    · rename_i h; simp [h]
  · by_cases a2 : ql y x
    · simp only [if_neg a1, if_pos a2]
      refine ⟨_, rfl, ?_⟩
      split
      · rename_i h; subst h; simp [a1]
      · rename_i h; simp [h]
    · simp only [if_neg a1, if_neg a2]
      refine ⟨_, rfl, ?_⟩
      split
      · rename_i h; subst h; simp [a1]
      · rename_i h; simp [h]
theorem lt_irr (a : S25) : ¬ lt a a := by
  rintro (h | ⟨_, h⟩)
  · exact sl_irr _ h
  · exact ql_irr _ h
theorem lt_trans {a b c : S25} (h1 : lt a b) (h2 : lt b c) : lt a c := by
  unfold lt at *
  rcases h1 with h1 | ⟨e1, h1⟩ <;> rcases h2 with h2 | ⟨e2, h2⟩
  · exact .inl (sl_trans h1 h2)
  · exact .inl (e2 ▸ h1)
  · exact .inl (e1 ▸ h2)
  · exact .inr ⟨e1.trans e2, ql_trans h1 h2⟩
theorem lt_tri {a b : S25} (h1 : ¬ lt a b) (h2 : ¬ lt b a) : a = b := by
  unfold lt at *
  have e : a.f0 = b.f0 := by
    by_cases e : a.f0 = b.f0
    · exact e
    · exact absurd (sl_tri (fun h => h1 (.inl h)) e) (fun h => h2 (.inl h))
  have h3 : ¬ ql a b := fun h => h1 (.inr ⟨e, h⟩)
  have h4 : ¬ ql b a := fun h => h2 (.inr ⟨e.symm, h⟩)
  unfold ql at *
  cases a
  cases b
  simp only [S25.mk.injEq] at *
  exact ⟨e, by omega, by omega, by omega⟩
theorem lt_asymm {a b : S25} (h1 : lt a b) : ¬ lt b a := fun h2 => lt_irr a (lt_trans h1 h2)
theorem slices_SortFunc_api_Line_api_Line.is (k : Nat) (hk : 4 ≤ k) (x y : S25) : (Go.Proofs.ltOf fun x y => (slices_SortFunc_api_Line_api_Line.p k x y).getD 0) x y = decide (lt x y) := by
  obtain ⟨c, h1, h2⟩ := cmp_is k hk x y
  have e : (slices_SortFunc_api_Line_api_Line.p k x y).getD 0 = c := by
    unfold slices_SortFunc_api_Line_api_Line.p
    rw [h1, Option.getD_some]
  show decide ((slices_SortFunc_api_Line_api_Line.p k x y).getD 0 < 0) = _
  rw [decide_eq_decide, e]
  exact h2
theorem slices_SortFunc_api_Line_api_Line.total (k : Nat) (hk : 4 ≤ k) (x y : S25) : ∃ z, slices_SortFunc_api_Line_api_Line.p k x y = some z := by
  obtain ⟨c, h1, _⟩ := cmp_is k hk x y
  exact ⟨c, h1⟩
theorem slices_SortFunc_api_Line_api_Line.order (k : Nat) (hk : 4 ≤ k) : Go.Sort.SWO (Go.Proofs.ltOf fun x y => (slices_SortFunc_api_Line_api_Line.p k x y).getD 0) where
  irrefl := fun x => by rw [slices_SortFunc_api_Line_api_Line.is k hk]; exact decide_eq_false (lt_irr x)
  trans := fun x y z h1 h2 => by
    rw [slices_SortFunc_api_Line_api_Line.is k hk] at *
    exact decide_eq_true (lt_trans (of_decide_eq_true h1) (of_decide_eq_true h2))
  ntrans := fun x y z h1 h2 => by
    rw [slices_SortFunc_api_Line_api_Line.is k hk] at *
    have a1 := of_decide_eq_false h1
    have a2 := of_decide_eq_false h2
    refine decide_eq_false fun h => ?_
    by_cases b1 : lt y x
    · exact a2 (lt_trans b1 h)
    · have := lt_tri a1 b1
      subst this
      exact a2 h
theorem slices_SortFunc_api_Line_api_Line.parts (k : Nat) (hk : 4 ≤ k) (x y : S25) (h1 : (Go.Proofs.ltOf fun x y => (slices_SortFunc_api_Line_api_Line.p k x y).getD 0) x y = false) (h2 : (Go.Proofs.ltOf fun x y => (slices_SortFunc_api_Line_api_Line.p k x y).getD 0) y x = false) : x = y := by
  rw [slices_SortFunc_api_Line_api_Line.is k hk] at *
  exact lt_tri (of_decide_eq_false h1) (of_decide_eq_false h2)
instance : Inhabited S25 := ⟨⟨.empty, 0, 0, 0⟩⟩
theorem slices_SortFunc_api_Line_api_Line.ok (k : Nat) (hp : ∀ x y b, slices_SortFunc_api_Line_api_Line.p k x y = some b → VCalls Try.prog 32 [Go.Proofs.YtdofmkbffffbpaaV.valOf true (enc25 x), Go.Proofs.YtdofmkbffffbpaaV.valOf true (enc25 y)] [] (fun v G own => v = .int .i64 b ∧ G = [] ∧ own = [])) (l0 : List S25) (v0 : Value) (r1 : List S25) (h : slices_SortFunc_api_Line_api_Line.f k l0 = some r1) :
    VOwn Try.prog 31 [v0, .func (.func 32) #[] #[]] (v0, 26, 4, l0.map enc25) [] (fun q x' => q = .tuple #[] ∧ x' = (v0, 26, 4, r1.map enc25)) := by
  unfold slices_SortFunc_api_Line_api_Line.f at h
  by_cases hc : ¬ (4 ≤ k ∧ l0.length < 4611686018427387904)
  · rw [if_neg hc] at h
    cases h
  replace hc := Decidable.not_not.1 hc
  rw [if_pos hc] at h
  obtain rfl := Option.some.inj h
  exact sort_own lay_31 TI26 enc25 enc25_ok rfl (slices_SortFunc_api_Line_api_Line.p k) (slices_SortFunc_api_Line_api_Line.total k hc.1) (slices_SortFunc_api_Line_api_Line.order k hc.1) (slices_SortFunc_api_Line_api_Line.parts k hc.1) 32 FO32 hp l0 hc.2 v0
set_option maxHeartbeats 4000000 in
set_option maxRecDepth 100000 in
theorem waits_Make.ok (k : Nat) (l0 : List S25) (v0 : Value) (r1 : List S25) (r2 : Int) (h : waits_Make.f k l0 = some (r1, r2)) :
    VCalls Try.prog 9 [v0] [.row v0 4 (l0.map enc25)] (fun v G own => ∃ w0 : Value, v = .tuple #[w0, .int .i64 r2] ∧ G = [] ∧ own = [(w0, 26, 4, r1.map enc25)]) := by
  refine VCalls.intro Try.func9 rfl (len rfl) fun E hC hW hD hU => ?_
  unfold waits_Make.f at h
  refine VC.seq ?_
  refine VC.region ?_
  refine VL.va (op_assign rfl (ltn rfl)) rfl ?_
  refine VL.va (op_assign rfl (ltn rfl)) rfl ?_
  refine VL.done ?_
  refine VN.then ?_
  refine VC.seq ?_
  refine VC.seq ?_
  refine VC.region ?_
  refine VL.va (op_move rfl (ltn rfl)) rfl ?_
  replace h := Option.bind_eq_some_iff.1 h
  obtain ⟨t2366, hA2367, h⟩ := h
  refine VL.sC (o_call0 FO29 (waits_all.ok k l0 v0 t2366 hA2367) rfl rfl (ltn rfl) (All_of (.cons (List.mem_of_getElem? (i := 0) rfl) .nil))) rfl ?_
  rintro _ _ _ ⟨rfl, rfl, rfl⟩
  by_cases c2368 : t2366 = true
  · rw [if_pos c2368] at h
    obtain rfl := c2368
    refine VL.va (op_not rfl rfl (ltn rfl)) rfl ?_
    refine VL.done ?_
    refine VN.then ?_
    refine VC.cond_f rfl ?_
    refine VC.skip ?_
    refine VN.then ?_
    refine VC.seq ?_
    refine VC.region ?_
    refine VL.va (op_move rfl (ltn rfl)) rfl ?_
    replace h := Option.bind_eq_some_iff.1 h
    obtain ⟨r2369, hA2370, h⟩ := h
    refine VL.sC (o_call_b0 FO30 (slices_Clone_api_Line_api_Line.ok l0 v0 r2369 hA2370) rfl rfl (ltn rfl) (All_of (.cons (.inl (List.mem_of_getElem? (i := 0) rfl)) .nil)) (by rintro _ _ _ ⟨_, rfl, rfl, rfl⟩; rfl)) rfl ?_
    rintro v2372 _ _ ⟨_, rfl, rfl, rfl⟩
    refine VL.va (op_assign rfl (ltn rfl)) rfl ?_
    refine VL.done ?_
    refine VN.then ?_
    refine VC.seq ?_
    refine VC.region ?_
    refine VL.va (op_move rfl (ltn rfl)) rfl ?_
    replace h := Option.bind_eq_some_iff.1 h
    obtain ⟨r2373, hA2374, h⟩ := h
    refine VL.step1 (ope_ownd (vals := [v2372, .func (.func 32) #[] #[]]) 0 rfl (ope_fun FO31 rfl rfl) (slices_SortFunc_api_Line_api_Line.ok k (fun x y b hb => waits_compare.ok k x.f0 x.f1 x.f2 x.f3 y.f0 y.f1 y.f2 y.f3 b hb) r2369 v2372 r2373 hA2374) (by simp) (ltn rfl)) rfl ?_
    refine VL.done ?_
    refine VN.then ?_
    refine VC.seq ?_
    refine VC.region ?_
    refine VL.va (op_move rfl (ltn rfl)) rfl ?_
    refine VL.va (op_assign rfl (ltn rfl)) rfl ?_
    refine VL.va (op_assign rfl (ltn rfl)) rfl ?_
    refine VL.done ?_
    refine VN.then ?_
    refine VC.ret ?_
    simp only [Option.some.injEq, Prod.mk.injEq] at h
    obtain ⟨rfl, rfl⟩ := h
    exact VR.fn (rs := [.tmp 2, .tmp 3]) [] [(v2372, 26, 4, r2373.map enc25)] [0] rfl (.tmp rfl (.tmp rfl .nil)) ⟨v2372, rfl, rfl, rfl⟩ trivial rfl (by decide)
  · rw [if_neg c2368] at h
    obtain rfl := Bool.eq_false_iff.2 c2368
    refine VL.va (op_not rfl rfl (ltn rfl)) rfl ?_
    refine VL.done ?_
    refine VN.then ?_
    refine VC.cond_t rfl ?_
    refine VC.seq ?_
    refine VC.region ?_
    refine VL.va (op_assign rfl (ltn rfl)) rfl ?_
    refine VL.va (op_assign rfl (ltn rfl)) rfl ?_
    refine VL.done ?_
    refine VN.then ?_
    refine VC.ret ?_
    refine VR.then ?_
    simp only [Option.some.injEq, Prod.mk.injEq] at h
    obtain ⟨rfl, rfl⟩ := h
    refine VR.nilRow' 26 4 ?_
    exact VR.fn (rs := [.tmp 2, .tmp 3]) [] [((.slice none 0 0), 26, 4, ([] : List S25).map enc25)] [0] rfl (.tmp rfl (.tmp rfl .nil)) ⟨(.slice none 0 0), rfl, rfl, rfl⟩ trivial rfl (by decide)
set_option maxHeartbeats 4000000 in
set_option maxRecDepth 100000 in
theorem waits_Move.ok (k : Nat) (l0 : List S25) (a1 : Int) (a2 : Int) (v0 : Value) (r1 : List S25) (r2 : Int) (h : waits_Move.f k l0 a1 a2 = some (r1, r2)) :
    VCalls Try.prog 20 [v0, .int .i64 a1, .int .i64 a2] [.row v0 4 (l0.map enc25)] (fun v G own => ∃ w0 : Value, v = .tuple #[w0, .int .i64 r2] ∧ G = [] ∧ own = [(w0, 26, 4, r1.map enc25)]) := by
  refine VCalls.intro Try.func20 rfl (len rfl) fun E hC hW hD hU => ?_
  unfold waits_Move.f at h
  refine VC.seq ?_
  refine VC.region ?_
  refine VL.va (op_assign rfl (ltn rfl)) rfl ?_
  refine VL.va (op_assign rfl (ltn rfl)) rfl ?_
  refine VL.done ?_
  refine VN.then ?_
  refine VC.seq ?_
  refine VC.seq ?_
  refine VC.region ?_
  refine VL.va (op_move rfl (ltn rfl)) rfl ?_
  refine VL.letter (decide (a2 < 0)) fun b150 hb150 => ?_
  refine VL.va (op_cmp rfl rfl (congrArg some hb150) (ltn rfl)) rfl ?_
  refine VL.va (op_move rfl (ltn rfl)) rfl ?_
  by_cases c151 : a2 < 0
  · rw [if_pos c151] at h
    obtain rfl : b150 = true := hb150.symm.trans (decide_eq_true c151)
    refine VL.un rfl rfl (ltn rfl) ?_
    refine VL.un rfl rfl (ltn rfl) ?_
    refine VL.va (op_pick rfl rfl (ltn rfl)) rfl ?_
    refine VL.done ?_
    refine VN.then ?_
    refine VC.cond_t rfl ?_
    refine VC.seq ?_
    refine VC.region ?_
    refine VL.va (op_assign rfl (ltn rfl)) rfl ?_
    refine VL.va (op_assign rfl (ltn rfl)) rfl ?_
    refine VL.done ?_
    refine VN.then ?_
    refine VC.ret ?_
    refine VR.then ?_
    simp only [Option.some.injEq, Prod.mk.injEq] at h
    obtain ⟨rfl, rfl⟩ := h
    refine VR.nilRow' 26 4 ?_
    exact VR.fn (rs := [.tmp 6, .tmp 7]) [] [((.slice none 0 0), 26, 4, ([] : List S25).map enc25)] [0] rfl (.tmp rfl (.tmp rfl .nil)) ⟨(.slice none 0 0), rfl, rfl, rfl⟩ trivial rfl (by decide)
  · rw [if_neg c151] at h
    obtain rfl : b150 = false := hb150.symm.trans (decide_eq_false c151)
    refine VL.va (op_move rfl (ltn rfl)) rfl ?_
    refine VL.letter (decide (a2 ≥ 4)) fun b153 hb153 => ?_
    refine VL.va (op_cmp rfl rfl (congrArg some hb153) (ltn rfl)) rfl ?_
    refine VL.va (op_pick rfl rfl (ltn rfl)) rfl ?_
    refine VL.done ?_
    refine VN.then ?_
    by_cases c154 : a2 ≥ 4
    · rw [if_pos c154] at h
      obtain rfl : b153 = true := hb153.symm.trans (decide_eq_true c154)
      refine VC.cond_t rfl ?_
      refine VC.seq ?_
      refine VC.region ?_
      refine VL.va (op_assign rfl (ltn rfl)) rfl ?_
      refine VL.va (op_assign rfl (ltn rfl)) rfl ?_
      refine VL.done ?_
      refine VN.then ?_
      refine VC.ret ?_
      refine VR.then ?_
      simp only [Option.some.injEq, Prod.mk.injEq] at h
      obtain ⟨rfl, rfl⟩ := h
      refine VR.nilRow' 26 4 ?_
      exact VR.fn (rs := [.tmp 6, .tmp 7]) [] [((.slice none 0 0), 26, 4, ([] : List S25).map enc25)] [0] rfl (.tmp rfl (.tmp rfl .nil)) ⟨(.slice none 0 0), rfl, rfl, rfl⟩ trivial rfl (by decide)
    · rw [if_neg c154] at h
      obtain rfl : b153 = false := hb153.symm.trans (decide_eq_false c154)
      refine VC.cond_f rfl ?_
      refine VC.skip ?_
      refine VN.then ?_
      refine VC.seq ?_
      refine VC.region ?_
      refine VL.va (op_move rfl (ltn rfl)) rfl ?_
      refine VL.va (op_move rfl (ltn rfl)) rfl ?_
      replace h := Option.bind_eq_some_iff.1 h
      obtain ⟨⟨t2337, t2338⟩, hA2339, h⟩ := h
      dsimp only at h
      refine VL.sC (o_call0 FO41 (waits_at.ok k l0 a1 v0 t2337 t2338 hA2339) rfl rfl (ltn rfl) (All_of (.cons (List.mem_of_getElem? (i := 0) rfl) .nil))) rfl ?_
      rintro _ _ _ ⟨rfl, rfl, rfl⟩
      refine VL.va (op_move rfl (ltn rfl)) rfl ?_
      refine VL.va (op_extract rfl rfl (ltn rfl)) rfl ?_
      refine VL.va (op_extract rfl rfl (ltn rfl)) rfl ?_
      refine VL.va (op_assign rfl (ltn rfl)) rfl ?_
      refine VL.va (op_assign rfl (ltn rfl)) rfl ?_
      refine VL.done ?_
      refine VN.then ?_
      refine VC.seq ?_
      refine VC.seq ?_
      refine VC.region ?_
      refine VL.va (op_move rfl (ltn rfl)) rfl ?_
      refine VL.letter ((t2338 != 0)) fun b2343 hb2343 => ?_
      refine VL.va (op_cmp rfl rfl (congrArg some hb2343) (ltn rfl)) rfl ?_
      refine VL.done ?_
      refine VN.then ?_
      by_cases c2344 : t2338 = 0
      · rw [if_pos c2344] at h
        obtain rfl : b2343 = false := hb2343.symm.trans (bne_eq_false_iff_eq.2 c2344)
        refine VC.cond_f rfl ?_
        refine VC.skip ?_
        refine VN.then ?_
        refine VC.seq ?_
        refine VC.region ?_
        refine VL.va (op_move rfl (ltn rfl)) rfl ?_
        replace h := Option.bind_eq_some_iff.1 h
        obtain ⟨r2345, hA2346, h⟩ := h
        refine VL.sC (o_call_b0 FO30 (slices_Clone_api_Line_api_Line.ok l0 v0 r2345 hA2346) rfl rfl (ltn rfl) (All_of (.cons (.inl (List.mem_of_getElem? (i := 0) rfl)) .nil)) (by rintro _ _ _ ⟨_, rfl, rfl, rfl⟩; rfl)) rfl ?_
        rintro v2348 _ _ ⟨_, rfl, rfl, rfl⟩
        refine VL.va (op_assign rfl (ltn rfl)) rfl ?_
        refine VL.done ?_
        refine VN.then ?_
        refine VC.seq ?_
        refine VC.region ?_
        refine VL.va (op_move rfl (ltn rfl)) rfl ?_
        refine VL.va (op_move rfl (ltn rfl)) rfl ?_
        refine VL.va (op_move rfl (ltn rfl)) rfl ?_
        by_cases c2349 : 0 ≤ t2337
        · rw [if_pos c2349] at h
          replace h := Option.bind_eq_some_iff.1 h
          obtain ⟨x2350, hx2350, h⟩ := h
          refine VL.openR (m := r2345.length) 0 lenm rfl (pos_get hx2350) ?_
          rintro g2351 n2352 rfl
          refine VL.va (op_indexAddr Try.underlying22 TI26 rfl rfl c2349 (lt_get c2349 hx2350) (add_zero_at _ _) (ltn rfl)) rfl ?_
          refine VL.va (op_fieldAddr FI26_1 rfl (add_at _ _ _) (ltn rfl)) rfl ?_
          refine VL.va (op_fieldAddr FI24_0 rfl (add_at _ _ _) (ltn rfl)) rfl ?_
          refine VL.step1 (o_store_own (sz := 4) (o := 1) (es3 := List.map enc25 (r2345.set t2337.toNat (⟨x2350.f0, a2, x2350.f2, x2350.f3⟩ : S25))) 0 t2337.toNat 1 lenm (setm rfl) rfl rfl rfl (get_map hx2350) TI3 (.c rfl) rfl (len rfl)) rfl ?_
          refine VL.done ?_
          refine VN.then ?_
          refine VC.seq ?_
          refine VC.region ?_
          refine VL.va (op_move rfl (ltn rfl)) rfl ?_
          replace h := Option.bind_eq_some_iff.1 h
          obtain ⟨⟨r2377, t2378⟩, hA2379, h⟩ := h
          dsimp only at h
          refine VL.sC (o_call_b0 FO9 (waits_Make.ok k (r2345.set t2337.toNat (⟨x2350.f0, a2, x2350.f2, x2350.f3⟩ : S25)) (.slice (some ⟨g2351, 0, none⟩) r2345.length n2352) r2377 t2378 hA2379) rfl rfl (ltn rfl) (All_of (.cons (.inr (.inl ⟨_, List.mem_of_getElem? (i := 0) rfl, rfl⟩)) .nil)) (by rintro _ _ _ ⟨v2381, rfl, rfl, rfl⟩; rfl)) rfl ?_
          rintro _ _ _ ⟨v2381, rfl, rfl, rfl⟩
          refine VL.va (op_extract rfl rfl (ltn rfl)) rfl ?_
          refine VL.va (op_extract rfl rfl (ltn rfl)) rfl ?_
          refine VL.va (op_assign rfl (ltn rfl)) rfl ?_
          refine VL.va (op_assign rfl (ltn rfl)) rfl ?_
          refine VL.done ?_
          refine VN.then ?_
          refine VC.ret ?_
          simp only [Option.some.injEq, Prod.mk.injEq] at h
          obtain ⟨rfl, rfl⟩ := h
          exact VR.fn (rs := [.tmp 6, .tmp 7]) [] [(v2381, 26, 4, r2377.map enc25)] [0] rfl (.tmp rfl (.tmp rfl .nil)) ⟨v2381, rfl, rfl, rfl⟩ trivial rfl (by decide)
        · rw [if_neg c2349] at h; cases h
      · rw [if_neg c2344] at h
        obtain rfl : b2343 = true := hb2343.symm.trans (bne_iff_ne.2 c2344)
        refine VC.cond_t rfl ?_
        refine VC.seq ?_
        refine VC.region ?_
        refine VL.va (op_move rfl (ltn rfl)) rfl ?_
        refine VL.va (op_assign rfl (ltn rfl)) rfl ?_
        refine VL.va (op_assign rfl (ltn rfl)) rfl ?_
        refine VL.done ?_
        refine VN.then ?_
        refine VC.ret ?_
        refine VR.then ?_
        simp only [Option.some.injEq, Prod.mk.injEq] at h
        obtain ⟨rfl, rfl⟩ := h
        refine VR.nilRow' 26 4 ?_
        exact VR.fn (rs := [.tmp 6, .tmp 7]) [] [((.slice none 0 0), 26, 4, ([] : List S25).map enc25)] [0] rfl (.tmp rfl (.tmp rfl .nil)) ⟨(.slice none 0 0), rfl, rfl, rfl⟩ trivial rfl (by decide)
set_option maxHeartbeats 4000000 in
set_option maxRecDepth 100000 in
theorem waits_Of.ok (k : Nat) (l0 : List S25) (a1 : ByteArray) (v0 : Value) (r1 : List S23) (r2 : Int) (h : waits_Of.f k l0 a1 = some (r1, r2)) :
    VCalls Try.prog 22 [v0, .string a1] [.row v0 4 (l0.map enc25)] (fun v G own => ∃ w0 : Value, v = .tuple #[w0, .int .i64 r2] ∧ G = [] ∧ own = [(w0, 24, 3, r1.map enc23)]) := by
  refine VCalls.intro Try.func22 rfl (len rfl) fun E hC hW hD hU => ?_
  unfold waits_Of.f at h
  refine VC.seq ?_
  refine VC.region ?_
  refine VL.va (op_assign rfl (ltn rfl)) rfl ?_
  refine VL.va (op_assign rfl (ltn rfl)) rfl ?_
  refine VL.done ?_
  refine VN.then ?_
  refine VC.seq ?_
  refine VC.seq ?_
  refine VC.region ?_
  refine VL.va (op_move rfl (ltn rfl)) rfl ?_
  replace h := Option.bind_eq_some_iff.1 h
  obtain ⟨t2408, hA2409, h⟩ := h
  refine VL.sC (o_call0 FO11 (waits_Right.ok k l0 v0 t2408 hA2409) rfl rfl (ltn rfl) (All_of (.cons (List.mem_of_getElem? (i := 0) rfl) .nil))) rfl ?_
  rintro _ _ _ ⟨rfl, rfl, rfl⟩
  by_cases c2410 : t2408 = true
  · rw [if_pos c2410] at h
    obtain rfl := c2410
    refine VL.va (op_not rfl rfl (ltn rfl)) rfl ?_
    refine VL.done ?_
    refine VN.then ?_
    refine VC.cond_f rfl ?_
    refine VC.skip ?_
    refine VN.then ?_
    refine VC.seq ?_
    refine VC.region ?_
    refine VL.va (op_assign rfl (ltn rfl)) rfl ?_
    refine VL.done ?_
    refine VN.then ?_
    refine VC.seq ?_
    refine VC.seq ?_
    refine VC.region ?_
    refine VL.va (op_move rfl (ltn rfl)) rfl ?_
    refine VL.va (op_len (m := l0.length) 0 lenm Try.underlying22 rfl rfl (ltn rfl)) rfl ?_
    refine VL.va (op_move rfl (ltn rfl)) rfl ?_
    refine VL.done ?_
    refine VN.then ?_
    refine VC.block ?_
    refine VC.nilRow' 24 3 ?_
    refine VC.loop3 (fun (v2525 : Value) (l2526 : List S23) (i2528 : Int) => ⟨29, [(1, .string a1), (4, .slice none 0 0), (5, .int .i64 0), (6, v2525), (12, v0), (13, .int .i64 (l0.length : Int)), (14, .int .i64 i2528)], [.row v0 4 (l0.map enc25)], [], [(v2525, 24, 3, l2526.map enc23)]⟩) (fun (ml1 : Nat) (v2525 : Value) (l2526 : List S23) (i2528 : Int) => waits_Of.l1 k a1 l0 ml1 l2526 i2528 = some (r1, r2)) k (.slice none 0 0) ([] : List S23) 0 [] [0] h ⟨rfl, ⟨rfl, rfl, rfl, rfl, rfl, rfl, rfl, trivial⟩, ⟨⟨0, rfl⟩, trivial⟩, rfl, by decide, rfl, by decide⟩ (by intros; simp [waits_Of.l1]) ?_
    clear h
    intro ml1 ihl1 v2525 l2526 i2528 h
    simp only [waits_Of.l1] at h
    refine VC.seq ?_
    refine VC.region ?_
    refine VL.letter (decide (i2528 < (l0.length : Int))) fun b2556 hb2556 => ?_
    refine VL.va (op_cmp rfl rfl (congrArg some hb2556) (ltn rfl)) rfl ?_
    refine VL.done ?_
    refine VN.then ?_
    refine VC.seq ?_
    by_cases c2558 : i2528 < (l0.length : Int)
    · rw [if_pos c2558] at h
      obtain rfl : b2556 = true := hb2556.symm.trans (decide_eq_true c2558)
      refine VC.cond_t rfl ?_
      refine VC.skip ?_
      refine VN.then ?_
      refine VC.seq ?_
      refine VC.block ?_
      refine VC.seq ?_
      refine VC.region ?_
      by_cases c2571 : 0 ≤ i2528
      · rw [if_pos c2571] at h
        replace h := Option.bind_eq_some_iff.1 h
        obtain ⟨x2572, hx2572, h⟩ := h
        refine VL.open (m := l0.length) 0 lenm rfl (pos_get hx2572) ?_
        rintro ad2573 n2574 rfl
        refine VL.va (op_indexAddr Try.underlying22 TI26 rfl rfl c2571 (lt_get c2571 hx2572) rfl (ltn rfl)) rfl ?_
        refine VL.va (op_load_row (sz := 4) (o := 0) 0 i2528.toNat 4 rfl rfl (get_map hx2572) TI26 rfl (fun h => absurd h (by decide)) (ltn rfl)) rfl ?_
        refine VL.sG (o_alloc Z26 ZL26 (ltn rfl)) rfl ?_
        intro g2575
        refine VL.step1 (o_store 0 4 rfl rfl rfl TI26 (.agg (.of rfl)) rfl (len rfl)) rfl ?_
        refine VL.done ?_
        refine VN.then ?_
        refine VC.seq ?_
        refine VC.region ?_
        refine VL.va (op_fieldAddr FI26_0 rfl (add_at _ _ _) (ltn rfl)) rfl ?_
        refine VL.va (op_load 0 1 rfl rfl TI9 rfl (by decide) (ltn rfl)) rfl ?_
        refine VL.va (op_move rfl (ltn rfl)) rfl ?_
        refine VL.letter ((x2572.f0 == a1)) fun b2576 hb2576 => ?_
        refine VL.va (op_cmps rfl rfl (congrArg some hb2576) (ltn rfl)) rfl ?_
        refine VL.done ?_
        refine VN.then ?_
        by_cases c2577 : (x2572.f0 == a1) = true
        · rw [if_pos c2577] at h
          obtain rfl : b2576 = true := hb2576.symm.trans (c2577)
          refine VC.cond_t rfl ?_
          refine VC.region ?_
          refine VL.va (op_move rfl (ltn rfl)) rfl ?_
          refine VL.va (op_fieldAddr FI26_1 rfl (add_at _ _ _) (ltn rfl)) rfl ?_
          refine VL.va (op_load 0 3 rfl rfl TI24 rfl (fun h => absurd h (by decide)) (ltn rfl)) rfl ?_
          refine VL.sG (o_buildSlice (vals := [(0, .agg #[.int .i64 x2572.f1, .int .i64 x2572.f2, .int .i64 x2572.f3])]) (cells := #[.int .i64 x2572.f1, .int .i64 x2572.f2, .int .i64 x2572.f3]) (es := List.map enc23 ([(⟨x2572.f1, x2572.f2, x2572.f3⟩ : S23)] : List S23)) Try.underlying42 TI24 Z24 rfl (by decide) (by decide) (by kernel_rfl) (by kernel_rfl) rfl (flat_map enc23_ok _) (ltn rfl)) rfl ?_
          intro v2579
          by_cases c2580 : (l2526.length + ([(⟨x2572.f1, x2572.f2, x2572.f3⟩ : S23)] : List S23).length) * 24 ≤ 140737488355328
          · rw [if_pos c2580] at h
            refine VL.sG (o_append 1 appm Try.underlying42 EI24 rfl rfl rfl (.inr ⟨0, _, rfl⟩) (bndm c2580) (ltn rfl)) rfl ?_
            intro v2581
            refine VL.va (op_assign rfl (ltn rfl)) rfl ?_
            refine VL.done ?_
            refine VN.block ?_
            refine VN.then ?_
            refine VC.region ?_
            refine VL.va (op_ari64 rfl rfl rfl (ltn rfl)) rfl ?_
            refine VL.va (op_move rfl (ltn rfl)) rfl ?_
            refine VL.done ?_
            refine VN.again [] [1] (ihl1 v2581 (l2526 ++ ([(⟨x2572.f1, x2572.f2, x2572.f3⟩ : S23)] : List S23)) (wrap64 (i2528 + 1)) h) ⟨rfl, ⟨rfl, rfl, rfl, rfl, rfl, rfl, rfl, trivial⟩, ⟨⟨0, rfl⟩, trivial⟩, rfl, by decide, rfl, by decide⟩
          · rw [if_neg c2580] at h; cases h
        · rw [if_neg c2577] at h
          obtain rfl : b2576 = false := hb2576.symm.trans (Bool.eq_false_iff.2 c2577)
          refine VC.cond_f rfl ?_
          refine VC.skip ?_
          refine VN.block ?_
          refine VN.then ?_
          refine VC.region ?_
          refine VL.va (op_ari64 rfl rfl rfl (ltn rfl)) rfl ?_
          refine VL.va (op_move rfl (ltn rfl)) rfl ?_
          refine VL.done ?_
          refine VN.again [] [0] (ihl1 v2525 l2526 (wrap64 (i2528 + 1)) h) ⟨rfl, ⟨rfl, rfl, rfl, rfl, rfl, rfl, rfl, trivial⟩, ⟨⟨0, rfl⟩, trivial⟩, rfl, by decide, rfl, by decide⟩
      · rw [if_neg c2571] at h; cases h
    · rw [if_neg c2558] at h
      obtain rfl : b2556 = false := hb2556.symm.trans (decide_eq_false c2558)
      refine VC.cond_f rfl ?_
      refine VC.exit ?_
      refine VX.then ?_
      refine VX.then ?_
      refine VX.hit ?_
      refine VN.then ?_
      refine VC.seq ?_
      refine VC.region ?_
      refine VL.va (op_move rfl (ltn rfl)) rfl ?_
      refine VL.va (op_assign rfl (ltn rfl)) rfl ?_
      refine VL.va (op_assign rfl (ltn rfl)) rfl ?_
      refine VL.done ?_
      refine VN.then ?_
      refine VC.ret ?_
      simp only [Option.some.injEq, Prod.mk.injEq] at h
      obtain ⟨rfl, rfl⟩ := h
      exact VR.fn (rs := [.tmp 4, .tmp 5]) [] [(v2525, 24, 3, l2526.map enc23)] [0] rfl (.tmp rfl (.tmp rfl .nil)) ⟨v2525, rfl, rfl, rfl⟩ trivial rfl (by decide)
  · rw [if_neg c2410] at h
    obtain rfl := Bool.eq_false_iff.2 c2410
    refine VL.va (op_not rfl rfl (ltn rfl)) rfl ?_
    refine VL.done ?_
    refine VN.then ?_
    refine VC.cond_t rfl ?_
    refine VC.seq ?_
    refine VC.region ?_
    refine VL.va (op_assign rfl (ltn rfl)) rfl ?_
    refine VL.va (op_assign rfl (ltn rfl)) rfl ?_
    refine VL.done ?_
    refine VN.then ?_
    refine VC.ret ?_
    refine VR.then ?_
    simp only [Option.some.injEq, Prod.mk.injEq] at h
    obtain ⟨rfl, rfl⟩ := h
    refine VR.nilRow' 24 3 ?_
    exact VR.fn (rs := [.tmp 4, .tmp 5]) [] [((.slice none 0 0), 24, 3, ([] : List S23).map enc23)] [0] rfl (.tmp rfl (.tmp rfl .nil)) ⟨(.slice none 0 0), rfl, rfl, rfl⟩ trivial rfl (by decide)
set_option maxHeartbeats 4000000 in
set_option maxRecDepth 100000 in
theorem tarrylaw09_alive.ok (k : Nat)   (r1 : Bool) (h : tarrylaw09_alive.f k = some r1) :
    VCalls Try.prog 13 [] [] (fun v G own => v = .bool r1 ∧ G = [] ∧ own = []) := by
  refine VCalls.intro Try.func13 rfl (len rfl) fun E hC hW hD hU => ?_
  unfold tarrylaw09_alive.f at h
  refine VC.seq ?_
  refine VC.region ?_
  refine VL.va (op_assign rfl (ltn rfl)) rfl ?_
  refine VL.done ?_
  refine VN.then ?_
  refine VC.seq ?_
  refine VC.region ?_
  refine VL.va (op_build (vals := [(0, .int .i64 1), (1, .int .i64 1), (2, .int .i64 1)]) (vcs := [(0, [.int .i64 1]), (1, [.int .i64 1]), (2, [.int .i64 1])]) (cells := [.int .i64 1, .int .i64 1, .int .i64 1]) SI24 rfl (.cons ⟨rfl, (.c rfl)⟩ (.cons ⟨rfl, (.c rfl)⟩ (.cons ⟨rfl, (.c rfl)⟩ .nil))) (by kernel_rfl) (ltn rfl)) rfl ?_
  refine VL.va (op_build (vals := [(0, .string (⟨#[99, 117, 112]⟩ : ByteArray)), (1, .agg #[.int .i64 1, .int .i64 1, .int .i64 1])]) (vcs := [(0, [.string (⟨#[99, 117, 112]⟩ : ByteArray)]), (1, [.int .i64 1, .int .i64 1, .int .i64 1])]) (cells := [.string (⟨#[99, 117, 112]⟩ : ByteArray), .int .i64 1, .int .i64 1, .int .i64 1]) SI26 rfl (.cons ⟨rfl, (.c rfl)⟩ (.cons ⟨rfl, (.agg (.of rfl))⟩ .nil)) (by kernel_rfl) (ltn rfl)) rfl ?_
  refine VL.va (op_build (vals := [(0, .int .i64 0), (1, .int .i64 7), (2, .int .i64 2)]) (vcs := [(0, [.int .i64 0]), (1, [.int .i64 7]), (2, [.int .i64 2])]) (cells := [.int .i64 0, .int .i64 7, .int .i64 2]) SI24 rfl (.cons ⟨rfl, (.c rfl)⟩ (.cons ⟨rfl, (.c rfl)⟩ (.cons ⟨rfl, (.c rfl)⟩ .nil))) (by kernel_rfl) (ltn rfl)) rfl ?_
  refine VL.va (op_build (vals := [(0, .string (⟨#[99, 117, 112]⟩ : ByteArray)), (1, .agg #[.int .i64 0, .int .i64 7, .int .i64 2])]) (vcs := [(0, [.string (⟨#[99, 117, 112]⟩ : ByteArray)]), (1, [.int .i64 0, .int .i64 7, .int .i64 2])]) (cells := [.string (⟨#[99, 117, 112]⟩ : ByteArray), .int .i64 0, .int .i64 7, .int .i64 2]) SI26 rfl (.cons ⟨rfl, (.c rfl)⟩ (.cons ⟨rfl, (.agg (.of rfl))⟩ .nil)) (by kernel_rfl) (ltn rfl)) rfl ?_
  refine VL.sG (o_buildSlice (vals := [(0, .agg #[.string (⟨#[99, 117, 112]⟩ : ByteArray), .int .i64 1, .int .i64 1, .int .i64 1]), (1, .agg #[.string (⟨#[99, 117, 112]⟩ : ByteArray), .int .i64 0, .int .i64 7, .int .i64 2])]) (cells := #[.string (⟨#[99, 117, 112]⟩ : ByteArray), .int .i64 1, .int .i64 1, .int .i64 1, .string (⟨#[99, 117, 112]⟩ : ByteArray), .int .i64 0, .int .i64 7, .int .i64 2]) (es := List.map enc25 ([(⟨(⟨#[99, 117, 112]⟩ : ByteArray), 1, 1, 1⟩ : S25), (⟨(⟨#[99, 117, 112]⟩ : ByteArray), 0, 7, 2⟩ : S25)] : List S25)) Try.underlying22 TI26 Z26 rfl (by decide) (by decide) (by kernel_rfl) (by kernel_rfl) rfl (flat_map enc25_ok _) (ltn rfl)) rfl ?_
  intro v2391
  replace h := Option.bind_eq_some_iff.1 h
  obtain ⟨⟨r2392, t2393⟩, hA2394, h⟩ := h
  dsimp only at h
  refine VL.sC (o_call_b0 FO9 (waits_Make.ok k ([(⟨(⟨#[99, 117, 112]⟩ : ByteArray), 1, 1, 1⟩ : S25), (⟨(⟨#[99, 117, 112]⟩ : ByteArray), 0, 7, 2⟩ : S25)] : List S25) v2391 r2392 t2393 hA2394) rfl rfl (ltn rfl) (All_of (.cons (.inr (.inl ⟨_, List.mem_of_getElem? (i := 0) rfl, rfl⟩)) .nil)) (by rintro _ _ _ ⟨v2396, rfl, rfl, rfl⟩; rfl)) rfl ?_
  rintro _ _ _ ⟨v2396, rfl, rfl, rfl⟩
  refine VL.va (op_move rfl (ltn rfl)) rfl ?_
  refine VL.va (op_extract rfl rfl (ltn rfl)) rfl ?_
  refine VL.va (op_extract rfl rfl (ltn rfl)) rfl ?_
  refine VL.va (op_assign rfl (ltn rfl)) rfl ?_
  refine VL.va (op_assign rfl (ltn rfl)) rfl ?_
  refine VL.done ?_
  refine VN.then ?_
  refine VC.seq ?_
  refine VC.region ?_
  refine VL.va (op_move rfl (ltn rfl)) rfl ?_
  replace h := Option.bind_eq_some_iff.1 h
  obtain ⟨⟨r2584, t2585⟩, hA2586, h⟩ := h
  dsimp only at h
  refine VL.sC (o_call_b0 FO22 (waits_Of.ok k r2392 (⟨#[99, 117, 112]⟩ : ByteArray) v2396 r2584 t2585 hA2586) rfl rfl (ltn rfl) (All_of (.cons (.inr (.inl ⟨_, List.mem_of_getElem? (i := 0) rfl, rfl⟩)) .nil)) (by rintro _ _ _ ⟨v2588, rfl, rfl, rfl⟩; rfl)) rfl ?_
  rintro _ _ _ ⟨v2588, rfl, rfl, rfl⟩
  refine VL.va (op_move rfl (ltn rfl)) rfl ?_
  refine VL.va (op_extract rfl rfl (ltn rfl)) rfl ?_
  refine VL.va (op_extract rfl rfl (ltn rfl)) rfl ?_
  refine VL.va (op_assign rfl (ltn rfl)) rfl ?_
  refine VL.va (op_assign rfl (ltn rfl)) rfl ?_
  refine VL.done ?_
  refine VN.then ?_
  refine VC.seq ?_
  refine VC.region ?_
  refine VL.va (op_move rfl (ltn rfl)) rfl ?_
  refine VL.letter ((t2393 == 0)) fun b2599 hb2599 => ?_
  refine VL.va (op_cmp rfl rfl (congrArg some hb2599) (ltn rfl)) rfl ?_
  refine VL.va (op_move rfl (ltn rfl)) rfl ?_
  by_cases c2600 : t2393 = 0
  · rw [if_pos c2600] at h
    obtain rfl : b2599 = true := hb2599.symm.trans (beq_iff_eq.2 c2600)
    refine VL.va (op_move rfl (ltn rfl)) rfl ?_
    refine VL.letter ((t2585 == 0)) fun b2601 hb2601 => ?_
    refine VL.va (op_cmp rfl rfl (congrArg some hb2601) (ltn rfl)) rfl ?_
    refine VL.va (op_pick rfl rfl (ltn rfl)) rfl ?_
    refine VL.va (op_move rfl (ltn rfl)) rfl ?_
    by_cases c2602 : t2585 = 0
    · rw [if_pos c2602] at h
      obtain rfl : b2601 = true := hb2601.symm.trans (beq_iff_eq.2 c2602)
      refine VL.va (op_move rfl (ltn rfl)) rfl ?_
      refine VL.va (op_len_own (m := r2584.length) 0 lenm Try.underlying42 rfl rfl (ltn rfl)) rfl ?_
      refine VL.letter (((r2584.length : Int) == 2)) fun b2603 hb2603 => ?_
      refine VL.va (op_cmp rfl rfl (congrArg some hb2603) (ltn rfl)) rfl ?_
      refine VL.va (op_pick rfl rfl (ltn rfl)) rfl ?_
      refine VL.va (op_move rfl (ltn rfl)) rfl ?_
      by_cases c2604 : (r2584.length : Int) = 2
      · rw [if_pos c2604] at h
        obtain rfl : b2603 = true := hb2603.symm.trans (beq_iff_eq.2 c2604)
        refine VL.va (op_move rfl (ltn rfl)) rfl ?_
        replace h := Option.bind_eq_some_iff.1 h
        obtain ⟨x2605, hx2605, h⟩ := h
        refine VL.openR (m := r2584.length) 0 lenm rfl (pos_get hx2605) ?_
        rintro g2606 n2607 rfl
        refine VL.va (op_indexAddr Try.underlying42 TI24 rfl rfl (by decide) (lt_get (by decide) hx2605) (add_zero_at _ _) (ltn rfl)) rfl ?_
        refine VL.va (op_fieldAddr FI24_2 rfl (add_at _ _ _) (ltn rfl)) rfl ?_
        refine VL.va (op_load_own (sz := 3) (o := 2) 0 0 1 rfl rfl (get_map hx2605) TI3 rfl (by decide) (ltn rfl)) rfl ?_
        refine VL.letter ((x2605.f2 == 2)) fun b2608 hb2608 => ?_
        refine VL.va (op_cmp rfl rfl (congrArg some hb2608) (ltn rfl)) rfl ?_
        refine VL.va (op_pick rfl rfl (ltn rfl)) rfl ?_
        refine VL.va (op_assign rfl (ltn rfl)) rfl ?_
        refine VL.done ?_
        refine VN.then ?_
        refine VC.ret ?_
        obtain rfl := Option.some.inj h
        subst hb2608
        exact VR.fn (rs := [.tmp 0]) [] [] [] rfl (.tmp rfl .nil) ⟨rfl, rfl, rfl⟩ trivial rfl (by decide)
      · rw [if_neg c2604] at h
        obtain rfl : b2603 = false := hb2603.symm.trans (beq_eq_false_iff_ne.2 c2604)
        refine VL.un rfl rfl (ltn rfl) ?_
        refine VL.un rfl rfl (ltn rfl) ?_
        refine VL.un rfl rfl (ltn rfl) ?_
        refine VL.un rfl rfl (ltn rfl) ?_
        refine VL.un rfl rfl (ltn rfl) ?_
        refine VL.va (op_pick rfl rfl (ltn rfl)) rfl ?_
        refine VL.va (op_assign rfl (ltn rfl)) rfl ?_
        refine VL.done ?_
        refine VN.then ?_
        refine VC.ret ?_
        obtain rfl := Option.some.inj h
        exact VR.fn (rs := [.tmp 0]) [] [] [] rfl (.tmp rfl .nil) ⟨rfl, rfl, rfl⟩ trivial rfl (by decide)
    · rw [if_neg c2602] at h
      obtain rfl : b2601 = false := hb2601.symm.trans (beq_eq_false_iff_ne.2 c2602)
      refine VL.un rfl rfl (ltn rfl) ?_
      refine VL.un rfl rfl (ltn rfl) ?_
      refine VL.un rfl rfl (ltn rfl) ?_
      refine VL.va (op_pick rfl rfl (ltn rfl)) rfl ?_
      refine VL.va (op_move rfl (ltn rfl)) rfl ?_
      refine VL.un rfl rfl (ltn rfl) ?_
      refine VL.un rfl rfl (ltn rfl) ?_
      refine VL.un rfl rfl (ltn rfl) ?_
      refine VL.un rfl rfl (ltn rfl) ?_
      refine VL.un rfl rfl (ltn rfl) ?_
      refine VL.va (op_pick rfl rfl (ltn rfl)) rfl ?_
      refine VL.va (op_assign rfl (ltn rfl)) rfl ?_
      refine VL.done ?_
      refine VN.then ?_
      refine VC.ret ?_
      obtain rfl := Option.some.inj h
      exact VR.fn (rs := [.tmp 0]) [] [] [] rfl (.tmp rfl .nil) ⟨rfl, rfl, rfl⟩ trivial rfl (by decide)
  · rw [if_neg c2600] at h
    obtain rfl : b2599 = false := hb2599.symm.trans (beq_eq_false_iff_ne.2 c2600)
    refine VL.un rfl rfl (ltn rfl) ?_
    refine VL.un rfl rfl (ltn rfl) ?_
    refine VL.va (op_pick rfl rfl (ltn rfl)) rfl ?_
    refine VL.va (op_move rfl (ltn rfl)) rfl ?_
    refine VL.un rfl rfl (ltn rfl) ?_
    refine VL.un rfl rfl (ltn rfl) ?_
    refine VL.un rfl rfl (ltn rfl) ?_
    refine VL.va (op_pick rfl rfl (ltn rfl)) rfl ?_
    refine VL.va (op_move rfl (ltn rfl)) rfl ?_
    refine VL.un rfl rfl (ltn rfl) ?_
    refine VL.un rfl rfl (ltn rfl) ?_
    refine VL.un rfl rfl (ltn rfl) ?_
    refine VL.un rfl rfl (ltn rfl) ?_
    refine VL.un rfl rfl (ltn rfl) ?_
    refine VL.va (op_pick rfl rfl (ltn rfl)) rfl ?_
    refine VL.va (op_assign rfl (ltn rfl)) rfl ?_
    refine VL.done ?_
    refine VN.then ?_
    refine VC.ret ?_
    obtain rfl := Option.some.inj h
    exact VR.fn (rs := [.tmp 0]) [] [] [] rfl (.tmp rfl .nil) ⟨rfl, rfl, rfl⟩ trivial rfl (by decide)

end Go.Proofs.Ytdofmkbffffbpaa.PWaitsFair
