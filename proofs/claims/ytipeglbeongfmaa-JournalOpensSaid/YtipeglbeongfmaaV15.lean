/- A range over a function: the iterator and the rounds are walked in place; no condition of its own. -/
import Derived.Test.YtipeglbeongfmaaV14
import Derived.RangeFuncRecord
import Derived.RangeFuncLeaves
namespace Go.Proofs.YtipeglbeongfmaaV
open Go Go.RowKit
set_option linter.unusedVariables false
set_option linter.unusedSimpArgs false
section
variable {P : Program} {E : Env} {w w' : World} {s s' : St} {a : Act} {o : Oper} {ops : Array Oper} {rest : List Oper} {Q : Exit → Act → World → Prop} {d : Nat} {v u : Value} {x y z : Operand}
variable {ty : TypeId} {pos : String} {after : Array Edge} {gd : Option (Nat × Bool)}
  {n0 n1 n2 : Nat} {t0 t1 t2 : List (Nat × Value)} {f0 f1 : List Fact} {b0 b1 : List (Nat × TypeId × List Value)} {r0 r1 : List (Value × TypeId × Nat × List (List Value))}

/-- The loop's record, but for its state. -/
structure LoopIs (E : Env) (l : Nat) (L : Loop) (n : Nat) (t : List (Nat × Value)) (ps : Array Tmp) (assign body : Code) : Prop where
  base : E.w0.heap.size ≤ l
  size : L.tmps.size = n
  tmps : ∀ k v, t.lookup k = some v → L.tmps[k]? = some v
  ps : L.params = ps
  assign : L.assign = assign
  body : L.body = body

/-- Facts that do not mind what becomes of a loop's record, or of its deferred calls. -/
def Fact.noLoop : Fact → Bool
  | .loop .. => false
  | .blk .. => false
  | .ob2 .. => false
  | _ => true
def Fact.noDfr : Fact → Bool
  | .dfr .. => false
  | .blk .. => false
  | .ob2 .. => false
  | _ => true

theorem Fact.turn {k1 : Nat → Prop} {l : Nat} {ob ob' : Obj} {x : Fact} (hl : w.heap[l]? = some ob) (hc : ∀ cs T z, ob ≠ .cells cs T z) (hx : x.holds k1 w)
    (hn : (∀ L st pe, x = .loop l L st pe → False) ∧ (∀ ob2, x = .blk l ob2 → False) ∧ (x = .dfr l → False) ∧ (∀ k k' p, x = .ob2 k k' p → False)) : x.holds k1 (w.putObj l ob') := by
  have hne : ∀ {ad : Addr} {u : Value}, w.cell? ad = some u → (w.putObj l ob').cell? ad = some u := by
    intro ad u h
    refine (World.cell?_of_block (World.putObj_heap_other ?_)).trans h
    intro e
    rw [World.cell?, e, hl] at h
    cases ob with
    | cells cs T z => exact hc _ _ _ rfl
    | _ => simp at h
  cases x with
  | row v sz es =>
    obtain ⟨hf, A, c, rfl, h1, h2, h3, h4⟩ := hx
    exact ⟨hf, A, c, rfl, h1, h2, h3, fun i ls hi ad hA j u hu => hne (h4 i ls hi ad hA j u hu)⟩
  | at_ ad ls =>
    obtain ⟨hk, h⟩ := hx
    exact ⟨hk, fun j u hu => hne (h j u hu)⟩
  | blk k o =>
    obtain ⟨hk, h⟩ := hx
    exact ⟨hk, (World.putObj_heap_other (fun e => hn.2.1 o (by rw [e]))).trans h⟩
  | lent v e sz es =>
    obtain ⟨⟨h1, h2⟩, hk⟩ := hx
    refine ⟨⟨h1, ?_⟩, hk⟩
    refine own_same h2 fun k e => World.putObj_heap_other fun e2 => ?_
    subst e2
    rcases h2.2 with ⟨h3, _⟩ | ⟨g, cap, cur, h3, _, hh, _⟩
    · simp only at h3
      rw [h3] at e
      simp [Value.ownBlock] at e
    · simp only at h3 hh
      rw [h3] at e
      simp only [Value.ownBlock, Option.some.injEq] at e
      subst e
      rw [hl] at hh
      exact hc _ _ _ (Option.some.inj hh)
  | loop k L st pe =>
    obtain ⟨hk, h⟩ := hx
    exact ⟨hk, (World.putObj_heap_other (fun e => hn.1 L st pe (by rw [e]))).trans h⟩
  | dfr k =>
    obtain ⟨hk, h⟩ := hx
    exact ⟨hk, (World.putObj_heap_other (fun e => hn.2.2.1 (by rw [e]))).trans h⟩
  | ob2 k k' p => exact (hn.2.2.2 k k' p rfl).elim

/-- A block that is no cells becomes another: what else is known stands. -/
theorem Inv.turn {l : Nat} {ob ob' : Obj} {fs : List Fact} (h : Inv E s a w) (hb : E.w0.heap.size ≤ l) (hl : w.heap[l]? = some ob) (hc : ∀ cs T z, ob ≠ .cells cs T z)
    (hf : ∀ x ∈ fs, (x ∈ s.f ∧ (∀ L st pe, x = .loop l L st pe → False) ∧ (∀ ob2, x = .blk l ob2 → False) ∧ (x = .dfr l → False) ∧ (∀ k k' p, x = .ob2 k k' p → False)) ∨ x.holds (ok E s w) (w.putObj l ob')) : Inv E { s with f := fs } a (w.putObj l ob') where
  below := ⟨h.below.os, h.below.tape, h.below.output, by simpa using h.below.size, fun k hk => (World.putObj_heap_other (by omega)).trans (h.below.block k hk)⟩
  defers := h.defers
  size := h.size
  tmps := h.tmps
  facts := by
    intro x hx
    have hok : ∀ {x : Fact}, x.holds (ok E s w) (w.putObj l ob') → x.holds (ok E { s with f := fs } (w.putObj l ob')) (w.putObj l ob') :=
      fun h2 => Fact.mono (fun k hk => ⟨⟨hk.1, by simpa using hk.2.1, hk.2.2⟩, rfl⟩) h2
    rcases hf x hx with ⟨hx, hn⟩ | hx
    · exact hok (Fact.turn hl hc (h.facts x hx) hn)
    · exact hok hx
  boxes := by
    intro x hx
    obtain ⟨h1, h2⟩ := h.boxes x hx
    refine ⟨h1, h2.same (World.putObj_heap_other fun e => ?_)⟩
    obtain ⟨z, _, h2⟩ := h2
    rw [e, hl] at h2
    exact hc _ _ _ (Option.some.inj h2)
  rows := by
    intro x hx
    obtain ⟨h1, h2⟩ := h.rows x hx
    refine ⟨h1, own_same h2 fun k e => World.putObj_heap_other fun e2 => ?_⟩
    subst e2
    rcases h2.2 with ⟨h3, _⟩ | ⟨g, cap, cur, h3, _, hh, _⟩
    · rw [h3] at e
      simp [Value.ownBlock] at e
    · rw [h3] at e
      simp only [Value.ownBlock, Option.some.injEq] at e
      subst e
      rw [hl] at hh
      exact hc _ _ _ (Option.some.inj hh)
  nodup := h.nodup

theorem mem_erase {α : Type} {l : List α} {i : Nat} {x : α} (h : x ∈ l.eraseIdx i) : ∃ j, j ≠ i ∧ l[j]? = some x := by
  obtain ⟨j, hj⟩ := List.getElem?_of_mem h
  rw [List.getElem?_eraseIdx] at hj
  split at hj
  · exact ⟨j, by omega, hj⟩
  · exact ⟨j + 1, by omega, hj⟩
theorem mem_erase_of {α : Type} {l : List α} {i j : Nat} {x : α} (h : l[j]? = some x) (hne : j ≠ i) : x ∈ l.eraseIdx i := by
  by_cases hlt : j < i
  · exact List.mem_of_getElem? (by rw [List.getElem?_eraseIdx, if_pos hlt]; exact h : (l.eraseIdx i)[j]? = some x)
  · refine List.mem_of_getElem? (i := j - 1) ?_
    rw [List.getElem?_eraseIdx, if_neg (by omega), show j - 1 + 1 = j by omega]
    exact h

theorem Inv.loopSt {l : Nat} {L : Loop} {st st' : LoopState} {pe pe' : Option Code} (i : Nat) (h : Inv E ⟨n0, t0, f0, b0, r0⟩ a w) (hb : E.w0.heap.size ≤ l) (hi : f0[i]? = some (.loop l L st pe)) (hn : (f0.eraseIdx i).all Fact.noLoop = true) :
    Inv E ⟨n0, t0, f0.set i (.loop l L st' pe'), b0, r0⟩ a (w.putObj l (.loop { L with state := st', pending := pe' })) := by
  have h0 := h.facts _ (List.mem_of_getElem? hi)
  refine Inv.turn (s := ⟨n0, t0, f0, b0, r0⟩) (fs := f0.set i (.loop l L st' pe')) (ob := .loop { L with state := st, pending := pe }) h hb h0.2 (fun _ _ _ e => by cases e) fun x hx => ?_
  rcases mem_set hx with rfl | ⟨j, hj, hx⟩
  · exact .inr ⟨h0.1, World.putObj_heap_same h0.1.2.1⟩
  · have h2 := List.all_eq_true.1 hn x (mem_erase_of hx hj)
    refine .inl ⟨List.mem_of_getElem? hx, ?_, ?_, ?_, ?_⟩
    · rintro L st pe rfl
      cases h2
    · rintro o rfl
      cases h2
    · rintro rfl
      have h3 := (h.facts _ (List.mem_of_getElem? hx)).2
      rw [h0.2] at h3
      cases h3
    · rintro k k' p rfl
      cases h2
theorem Inv.dfrEnd {D : Nat} (i : Nat) (h : Inv E ⟨n0, t0, f0, b0, r0⟩ a w) (hb : E.w0.heap.size ≤ D) (hi : f0[i]? = some (.dfr D)) (hn : (f0.eraseIdx i).all Fact.noDfr = true) :
    Inv E ⟨n0, t0, f0.eraseIdx i, b0, r0⟩ a (w.putObj D (.deferred none)) := by
  have h0 := h.facts _ (List.mem_of_getElem? hi)
  refine Inv.turn (s := ⟨n0, t0, f0, b0, r0⟩) (fs := f0.eraseIdx i) (ob := .deferred (some [])) h hb h0.2 (fun _ _ _ e => by cases e) fun x hx => ?_
  have h2 := List.all_eq_true.1 hn x hx
  refine .inl ⟨List.eraseIdx_subset hx, ?_, ?_, ?_, ?_⟩
  · rintro L st pe rfl
    have h3 := (h.facts _ (List.eraseIdx_subset hx)).2
    rw [h0.2] at h3
    cases h3
  · rintro o rfl
    cases h2
  · rintro rfl
    cases h2
  · rintro k k' p rfl
    cases h2
theorem Inv.fewF {fs : List Fact} (h : Inv E s a w) (hf : ∀ x ∈ fs, x ∈ s.f) : Inv E { s with f := fs } a w :=
  ⟨h.below, h.defers, h.size, h.tmps, fun x hx => h.facts x (hf x hx), h.boxes, h.rows, h.nodup⟩
theorem Inv.env {E2 : Env} {a2 : Act} (h : Inv E s a w) (h1 : E2.w0 = E.w0) (h2 : E2.C = E.C) (h3 : a2.defers = E2.D) (h4 : a2.tmps = a.tmps) (h5 : E2.U = E.U := by rfl) : Inv E2 s a2 w := by
  obtain ⟨w0, C, R, D, U⟩ := E
  obtain ⟨w2, C2, R2, D2, U2⟩ := E2
  simp only at h1 h2 h3 h5
  subst h1 h2 h5
  exact ⟨h.below, h3, by rw [h4]; exact h.size, by rw [h4]; exact h.tmps, h.facts, h.boxes, h.rows, h.nodup⟩

/-! ### the statement -/
/-- Within a round. -/
abbrev Env.inR (E : Env) (l : Nat) : Env := ⟨E.w0, E.C, some l, [], E.U⟩
/-- Behind the loop: the mark stands among the deferred calls. -/
abbrev Env.mk_ (E : Env) (D : Nat) : Env := ⟨E.w0, E.C, E.R, [{ target := .collected D, args := #[] }], E.U⟩
def EndK (P : Program) (E : Env) (Q : Exit → Act → World → Prop) (D : Nat) (pe : Option Code) (s : St) : Prop :=
  match pe with
  | none => VN (E.mk_ D) Q s
  | some c => VC P (E.mk_ D) c Q s
/-- What is to be shown where the iterator has ended. -/
def EndRF (P : Program) (E : Env) (Q : Exit → Act → World → Prop) (n : Nat) (t : List (Nat × Value)) (l D : Nat) (e : Ending) (w' : World) : Prop :=
  ∃ q f b r n2 t2 a2 L st pe i, e = .returned q ∧ Inv E ⟨n2, t2, f, b, r⟩ a2 w' ∧ f[i]? = some (.loop l L st pe) ∧ (f.eraseIdx i).all Fact.noLoop = true ∧ st ≠ .busy ∧
    EndK P E Q D pe ⟨n, t, f.eraseIdx i, b, r⟩
theorem VC.rangeFunc {f : FuncId} {fn : Func} {c : Code} {g : Operand} {ps : List Tmp} {assign body : Code} {caps : List Value}
    (hf : P.funcs[f]? = some fn) (hF : FOk P f) (hb : fn.body = some c) (hc : St.ev ⟨n0, t0, f0, b0, r0⟩ g = some (.func (.func f) #[] caps.toArray)) (hn : caps.length + 1 ≤ fn.ntmps)
    (h : ∀ D l L, LoopIs E l L n0 t0 ps.toArray assign body → E.w0.heap.size ≤ D → VC P E c (bodyPost P fn (EndRF P E Q n0 t0 l D)) ⟨fn.ntmps, argT 0 (.func (.yield l) #[] #[] :: caps), .loop l L .ready none :: .dfr D :: f0, b0, r0⟩)
    (hR : E.R = none := by first | assumption | rfl) (hD : E.D = [] := by first | assumption | rfl) : VC P E (.rangeFunc g ps.toArray assign body) Q ⟨n0, t0, f0, b0, r0⟩ := by
  intro a w hi
  refine wpIn_rangeFunc fun fn2 hfn2 => ?_
  rw [show E.F.round = none from hR]
  have hs : E.w0.heap.size ≤ w.heap.size := hi.below.size
  obtain ⟨L, hLd⟩ : ∃ L : Loop, L = { state := .ready, pending := none, fn := fn2, tmps := a.tmps, params := ps.toArray, assign, body, defers := w.heap.size } := ⟨_, rfl⟩
  have hL1 : ((w.alloc (.deferred (some []))).alloc (.loop L)).heap[w.heap.size + 1]? = some (.loop L) := by
    have := World.alloc_heap_new (w.alloc (.deferred (some []))) (.loop L)
    rwa [World.size_alloc] at this
  have hK1 : ((w.alloc (.deferred (some []))).alloc (.loop L)).heap[w.heap.size]? = some (.deferred (some [])) := (Below.heap_alloc _ _ _ (by simp)).trans (World.alloc_heap_new w _)
  have hold : ∀ k, k < w.heap.size → ((w.alloc (.deferred (some []))).alloc (.loop L)).heap[k]? = w.heap[k]? := fun k hk =>
    (Below.heap_alloc _ _ _ (by simp; omega)).trans (Below.heap_alloc _ _ _ hk)
  have hi1 : Inv E ⟨n0, t0, .loop (w.heap.size + 1) L .ready none :: .dfr w.heap.size :: f0, b0, r0⟩ a ((w.alloc (.deferred (some []))).alloc (.loop L)) := by
    have hnew : ∀ k, w.heap.size ≤ k → k < w.heap.size + 2 → ok E ⟨n0, t0, .loop (w.heap.size + 1) L .ready none :: .dfr w.heap.size :: f0, b0, r0⟩ ((w.alloc (.deferred (some []))).alloc (.loop L)) k := fun k h1 h2 =>
      ⟨.inr (by omega), by simp; omega, fun hm => by have := (hi.blk_lt (k := k) hm).1; omega⟩
    refine hi.mem rfl rfl (hi.below.trans (((Below.refl _ w).alloc (Nat.le_refl _) _ |>.alloc (by simp) _).mono hs)) (fun k hk => ⟨⟨hk.1, by have := hk.2.1; simp; omega, hk.2.2⟩, hold k hk.2.1⟩) (fun x hx => ?_) (fun x hx => .inl ⟨hx, hold _ (hi.boxes x hx).2.lt⟩) (fun x hx => .inl ⟨hx, fun k hk => hold k ((hi.rows x hx).2.lt k hk).2⟩) hi.nodup
    rcases List.mem_cons.1 hx with rfl | hx
    · refine .inr ⟨hnew _ (by omega) (by omega), ?_⟩
      rw [hL1, hLd]
    · rcases List.mem_cons.1 hx with rfl | hx
      · exact .inr ⟨hnew _ (by omega) (by omega), hK1⟩
      · exact .inl hx
  have hLI : LoopIs E (w.heap.size + 1) L n0 t0 ps.toArray assign body := by
    subst hLd
    exact ⟨by omega, hi.size, hi.tmps, rfl, rfl, rfl⟩
  have hg : a.eval g = .func (.func f) #[] caps.toArray := hi.ev hc
  refine ⟨w.heap.size + 1, [{ target := .collected w.heap.size, args := #[] }], (w.alloc (.deferred (some []))).alloc (.loop L), { target := .fn (.func f) caps.toArray, args := #[.func (.yield (w.heap.size + 1)) #[] #[]] }, (w.alloc (.deferred (some []))).alloc (.loop L), f,
    #[.func (.yield (w.heap.size + 1)) #[] #[]] ++ caps.toArray, (w.alloc (.deferred (some []))).alloc (.loop L), ?_, ?_, ?_, ?_, fun _ => ?_, ?_⟩
  · rw [hLd]
    exact run_enterLoop_outer _ _ _ _ _
  · simp only [resolve, hg]
    simp [Deferred.ofValue, Act.eval]
  · intro _ _
    trivial
  · obtain ⟨fn', h1, h2, h3⟩ := hF.ok
    have h2' : fn'.name ≠ "runtime.NumGoroutine" := by simpa using h2
    have h3' : fn'.body ≠ none := by
      intro e
      rw [e] at h3
      cases h3
    simp [invoke, callFunc, h1, h2', h3']
  · rename_i q
    cases q
  · rw [Env.F_wide hR]
    refine callsIn_wide.2 ?_
    have e1 : (#[.func (.yield (w.heap.size + 1)) #[] #[]] ++ caps.toArray : Array Value) = (.func (.yield (w.heap.size + 1)) #[] #[] :: caps : List Value).toArray := by simp
    rw [e1]
    refine (calls_of_wp hf hb ((h w.heap.size (w.heap.size + 1) L hLI hs).wp hR _ _ ⟨hi1.below, hD.symm, ?_, ?_, hi1.facts, hi1.boxes, hi1.rows, hi1.nodup⟩)).mono ?_
    · simp
      omega
    · intro k v hk
      obtain ⟨_, h2⟩ := argT_lookup _ 0 k v hk
      have hlt := (List.getElem?_eq_some_iff.1 h2).1
      simp only [Nat.sub_zero] at h2 hlt
      simp only
      rw [Array.getElem?_append_left (by simpa using hlt)]
      simpa using h2
    · rintro e w2 ⟨q, fs, b, r, n2, t2, a2, L2, st, pe, i, rfl, hi2, hl, hnl, hst, hk⟩
      have h0 := hi2.facts _ (List.mem_of_getElem? hl)
      refine ⟨pe, _, by have := run_endLoop (P := P) h0.2 hst; exact this, ?_⟩
      have hi3 : Inv E ⟨n2, t2, fs.eraseIdx i, b, r⟩ a2 (w2.putObj (w.heap.size + 1) (.loop { L2 with state := .exhausted, pending := pe })) := by
        have h4 := hi2.loopSt (st' := .exhausted) (pe' := pe) i (by omega) hl hnl
        refine h4.fewF fun x hx => ?_
        obtain ⟨j, hj, hx⟩ := mem_erase hx
        exact List.mem_of_getElem? (by rw [List.getElem?_set_ne (by omega)]; exact hx : (fs.set i _)[j]? = some x)
      have hi4 : Inv (E.mk_ w.heap.size) ⟨n0, t0, fs.eraseIdx i, b, r⟩ { a with defers := [{ target := .collected w.heap.size, args := #[] }] ++ a.defers } (w2.putObj (w.heap.size + 1) (.loop { L2 with state := .exhausted, pending := pe })) := by
        have h5 := hi.swap hi3
        exact h5.env (E2 := E.mk_ w.heap.size) rfl rfl (by rw [hi.defers, hD]; rfl) rfl
      cases pe with
      | none => exact hk _ _ hi4
      | some c2 =>
        have := hk _ _ hi4
        rwa [Env.F_wide (E := E.mk_ w.heap.size) hR] at this

/-! ### rounds -/
def rndT : List Tmp → List Value → List (Nat × Value) → List (Nat × Value)
  | p :: ps, v :: vs, t => rndT ps vs ((p, v) :: t)
  | _, _, t => t
theorem rndT_ok : ∀ (ps : List Tmp) (vs : List Value) (t : List (Nat × Value)) (tm : Array Value), ps.length = vs.length → (∀ p ∈ ps, p < tm.size) → (∀ k v, t.lookup k = some v → tm[k]? = some v) →
    ((ps.zip vs).foldl (fun tm (p, v) => tm.setIfInBounds p v) tm).size = tm.size ∧ ∀ k v, (rndT ps vs t).lookup k = some v → ((ps.zip vs).foldl (fun tm (p, v) => tm.setIfInBounds p v) tm)[k]? = some v
  | [], [], t, tm, _, _, h => ⟨rfl, h⟩
  | p :: ps, v :: vs, t, tm, hl, hp, h => by
    simp only [List.zip_cons_cons, List.foldl_cons, rndT]
    have ih := rndT_ok ps vs ((p, v) :: t) (tm.setIfInBounds p v) (by simpa using hl) (fun q hq => by simpa using hp q (by simp [hq])) (fun k u hk => by
      simp only [List.lookup_cons] at hk
      simp only [Array.getElem?_setIfInBounds]
      by_cases e : p = k
      · subst e
        rw [if_pos rfl, if_pos (hp p (by simp))]
        simpa using hk
      · rw [if_neg e]
        have e2 : (k == p) = false := by simpa using fun z => e z.symm
        rw [e2] at hk
        exact h k u hk)
    refine ⟨by rw [ih.1]; simp, ih.2⟩
  | [], _ :: _, _, _, hl, _, _ => by simp at hl
  | _ :: _, [], _, _, hl, _, _ => by simp at hl

/-- What is to be shown where a round begins. -/
def BegP (P : Program) (E : Env) (l : Nat) (body : Code) (R : Ending → World → Prop) (a : Act) (w : World) : Prop :=
  ∃ w2, (Instr.beginRound l).run P w = .ok () w2 ∧ body.wpIn (E.inR l).F 0 P (roundPost P l R) a w2
def NoExit : Exit → Act → World → Prop := fun _ _ _ => False
/-- yield is called: a round. -/
theorem VL.yield {l n : Nat} {L : Loop} {t : List (Nat × Value)} {ps : List Tmp} {assign body : Code} {cal : Operand} {args : List Operand} {ats : Array TypeId} {vals : List Value}
    (hL : LoopIs E l L n t ps.toArray assign body) (hc : St.ev ⟨n0, t0, f0, b0, r0⟩ cal = some (.func (.yield l) #[] #[])) (ha : args.map (St.ev ⟨n0, t0, f0, b0, r0⟩) = vals.map some) (hn : ps.length = vals.length) (hp : ps.all (fun p => Nat.blt p n) = true) (hd : d < n0) (i : Nat) {pe : Option Code} (hi : f0[i]? = some (.loop l L .ready pe))
    (hg : guardOn ops ⟨n0, t0, f0, b0, r0⟩ ⟨some d, .call { callee := .value cal, args := args.toArray, argTypes := ats }, ty, pos, after, gd⟩ = some true)
    (h : VC P (E.inR l) assign (Exit.then (BegP P E l body (InP P E ops Q rest n0 (some d) t0)) NoExit) ⟨n, rndT ps vals t, f0, b0, r0⟩) (hR : E.R = none := by first | assumption | rfl) (hD : E.D = [] := by first | assumption | rfl) :
    VL P E ops Q (⟨some d, .call { callee := .value cal, args := args.toArray, argTypes := ats }, ty, pos, after, gd⟩ :: rest) ⟨n0, t0, f0, b0, r0⟩ := by
  intro a w hin
  refine wpListIn_step fun K hK => ?_
  rw [if_pos (guardOn_wanted hin hg)]
  have h0 := hin.facts _ (List.mem_of_getElem? hi)
  have hev : args.toArray.map a.eval = vals.toArray := by
    rw [List.map_toArray, eval_args hin ha]
  have hy := run_yield (P := P) (args := vals.toArray) h0.2 (by simp [hL.ps, hn])
  have hrun : (execOp a.eval ⟨some d, .call { callee := .value cal, args := args.toArray, argTypes := ats }, ty, pos, after, gd⟩).run P w = (Instr.yield l vals.toArray).run P w := by
    have h2 := hin.ev hc
    simp [execOp, resolve, h2, Deferred.ofValue, invoke, ← hev]
  have hsem : ((⟨some d, .call { callee := .value cal, args := args.toArray, argTypes := ats }, ty, pos, after, gd⟩ : Oper).semAt E.F.round a.eval).run P w = (Instr.yield l vals.toArray).run P w := by
    rw [Oper.semAt_eq _ _ _ (fun c e => by cases e)]
    exact hrun
  refine ⟨fun _ _ => trivial, ?_⟩
  rw [hsem, hy, Oper.uponIn_round]
  refine ⟨fun q => (by cases q), ?_⟩
  simp only [hL.ps, hL.assign, hL.body]
  refine RoundIn.mono (R := InP P E ops Q rest n0 (some d) t0) (roundIn_of_wpIn trivial ?_) ?_
  · have hp' : ∀ p ∈ ps, p < L.tmps.size := fun p hm => by
      rw [hL.size]
      simpa [Nat.blt_eq] using List.all_eq_true.1 hp p hm
    have hrt := rndT_ok ps vals t L.tmps hn hp' hL.tmps
    have hz : (ps.toArray.zip vals.toArray).foldl (fun tmps (t, a) => tmps.setIfInBounds t a) L.tmps = (ps.zip vals).foldl (fun tm (p, v) => tm.setIfInBounds p v) L.tmps := by
      rw [← Array.foldl_toList, Array.toList_zip]
    simp only [hz]
    exact h _ w ⟨hin.below, rfl, hrt.1.trans hL.size, hrt.2, hin.facts, hin.boxes, hin.rows, hin.nodup⟩
  · rintro e w2 ⟨q, f, b, r, n2, t2, a2, rfl, hi2, hv⟩
    exact hK _ _ (hv _ _ ((hin.swap hi2).put hd q))
theorem VN.begin {l : Nat} {L : Loop} {body : Code} {R : Ending → World → Prop} {QE : Exit → Act → World → Prop} (i : Nat) {pe : Option Code} {f2 : List Fact} (hb : E.w0.heap.size ≤ l) (hi : f0[i]? = some (.loop l L .ready pe)) (hn : (f0.eraseIdx i).all Fact.noLoop = true) (hf2 : f0.set i (.loop l L .busy pe) = f2)
    (h : VC P (E.inR l) body (roundPost P l R) ⟨n0, t0, f2, b0, r0⟩) : VN (E.inR l) (Exit.then (BegP P E l body R) QE) ⟨n0, t0, f0, b0, r0⟩ := by
  subst hf2
  intro a w hin
  have h0 := hin.facts _ (List.mem_of_getElem? hi)
  exact ⟨_, run_beginRound (P := P) h0.2 rfl, h _ _ (hin.loopSt (st' := .busy) (pe' := pe) i hb hi hn)⟩
theorem endRound_ok {l : Nat} {L : Loop} {pe : Option Code} (j : Option Code) (i : Nat) (hb : E.w0.heap.size ≤ l) (hi : f1[i]? = some (.loop l L .busy pe)) (hn : (f1.eraseIdx i).all Fact.noLoop = true) (hD : E.D = []) {a : Act} {w : World} (hin : Inv (E.inR l) ⟨n1, t1, f1, b1, r1⟩ a w)
    (h : VL P E ops Q rest ⟨n0, (d, .bool j.isNone) :: t0, f1.set i (.loop l L (if j.isNone then .ready else .done) j), b1, r1⟩) :
    ∃ v w', (Instr.endRound l j).run P w = .ok v w' ∧ InP P E ops Q rest n0 (some d) t0 (.returned v) w' := by
  have h0 := hin.facts _ (List.mem_of_getElem? hi)
  refine ⟨_, _, run_endRound (P := P) j h0.2, .bool j.isNone, _, b1, r1, n1, t1, a, rfl, ?_, h⟩
  exact (hin.loopSt (st' := if j.isNone then .ready else .done) (pe' := j) i hb hi hn).env (E2 := E) rfl rfl (by rw [hin.defers, hD]) rfl
theorem VN.endRound {l : Nat} {L : Loop} {pe : Option Code} (i : Nat) {f2 : List Fact} (hb : E.w0.heap.size ≤ l) (hi : f1[i]? = some (.loop l L .busy pe)) (hn : (f1.eraseIdx i).all Fact.noLoop = true) (hf2 : f1.set i (.loop l L .ready none) = f2)
    (h : VL P E ops Q rest ⟨n0, (d, .bool true) :: t0, f2, b1, r1⟩) (hD : E.D = [] := by first | assumption | rfl) : VN (E.inR l) (roundPost P l (InP P E ops Q rest n0 (some d) t0)) ⟨n1, t1, f1, b1, r1⟩ := by
  subst hf2
  exact fun a w hin => endRound_ok none i hb hi hn hD hin h
theorem VR.endRound {l : Nat} {L : Loop} {pe : Option Code} (i : Nat) {f2 : List Fact} (hb : E.w0.heap.size ≤ l) (hi : f1[i]? = some (.loop l L .busy pe)) (hn : (f1.eraseIdx i).all Fact.noLoop = true) (hf2 : f1.set i (.loop l L .done (some .ret)) = f2)
    (h : VL P E ops Q rest ⟨n0, (d, .bool false) :: t0, f2, b1, r1⟩) (hD : E.D = [] := by first | assumption | rfl) : VR (E.inR l) (roundPost P l (InP P E ops Q rest n0 (some d) t0)) ⟨n1, t1, f1, b1, r1⟩ := by
  subst hf2
  exact fun a w hin => endRound_ok (some .ret) i hb hi hn hD hin h
theorem VX.endRound {l id : Nat} {L : Loop} {pe : Option Code} (i : Nat) {f2 : List Fact} (hb : E.w0.heap.size ≤ l) (hi : f1[i]? = some (.loop l L .busy pe)) (hn : (f1.eraseIdx i).all Fact.noLoop = true) (hf2 : f1.set i (.loop l L .done (some (.exit id))) = f2)
    (h : VL P E ops Q rest ⟨n0, (d, .bool false) :: t0, f2, b1, r1⟩) (hD : E.D = [] := by first | assumption | rfl) : VX (E.inR l) id (roundPost P l (InP P E ops Q rest n0 (some d) t0)) ⟨n1, t1, f1, b1, r1⟩ := by
  subst hf2
  exact fun a w hin => endRound_ok (some (.exit id)) i hb hi hn hD hin h
/-! ### the iterator's end -/
theorem endRF_ok {fn : Func} {l D : Nat} {L : Loop} {st : LoopState} {pe : Option Code} (i : Nat) (h : fn.results = #[]) (hi : f1[i]? = some (.loop l L st pe)) (hn : (f1.eraseIdx i).all Fact.noLoop = true) (hst : st ≠ .busy) (hD : E.D = []) {a : Act} {w : World} (hin : Inv E ⟨n1, t1, f1, b1, r1⟩ a w)
    (hk : EndK P E Q D pe ⟨n0, t0, f1.eraseIdx i, b1, r1⟩) : a.defers = [] ∧ ∃ v, (results fn a.tmps).run P w = .ok v w ∧ EndRF P E Q n0 t0 l D (.returned v) w :=
  ⟨hin.defers.trans hD, _, (Res.nil (P := P) (s := ⟨n1, t1, f1, b1, r1⟩)).all (rs := []) h hin, _, f1, b1, r1, n1, t1, a, L, st, pe, i, rfl, hin, hi, hn, hst, hk⟩
theorem VN.endRF {fn : Func} {l D : Nat} {L : Loop} (i : Nat) {f2 : List Fact} (h : fn.results = #[]) (hi : f1[i]? = some (.loop l L .ready none)) (hn : (f1.eraseIdx i).all Fact.noLoop = true) (hf2 : f1.eraseIdx i = f2) (hk : VN (E.mk_ D) Q ⟨n0, t0, f2, b1, r1⟩) (hD : E.D = [] := by first | assumption | rfl) :
    VN E (bodyPost P fn (EndRF P E Q n0 t0 l D)) ⟨n1, t1, f1, b1, r1⟩ := by
  subst hf2
  exact fun a w hin => endRF_ok i h hi hn (fun e => by cases e) hD hin hk
theorem VR.endRF {fn : Func} {l D : Nat} {L : Loop} (i : Nat) {f2 : List Fact} (h : fn.results = #[]) (hi : f1[i]? = some (.loop l L .ready none)) (hn : (f1.eraseIdx i).all Fact.noLoop = true) (hf2 : f1.eraseIdx i = f2) (hk : VN (E.mk_ D) Q ⟨n0, t0, f2, b1, r1⟩) (hD : E.D = [] := by first | assumption | rfl) :
    VR E (bodyPost P fn (EndRF P E Q n0 t0 l D)) ⟨n1, t1, f1, b1, r1⟩ := by
  subst hf2
  exact fun a w hin => endRF_ok i h hi hn (fun e => by cases e) hD hin hk
theorem VN.endRFj {fn : Func} {l D : Nat} {L : Loop} {c : Code} (i : Nat) {f2 : List Fact} (h : fn.results = #[]) (hi : f1[i]? = some (.loop l L .done (some c))) (hn : (f1.eraseIdx i).all Fact.noLoop = true) (hf2 : f1.eraseIdx i = f2) (hk : VC P (E.mk_ D) c Q ⟨n0, t0, f2, b1, r1⟩) (hD : E.D = [] := by first | assumption | rfl) :
    VN E (bodyPost P fn (EndRF P E Q n0 t0 l D)) ⟨n1, t1, f1, b1, r1⟩ := by
  subst hf2
  exact fun a w hin => endRF_ok i h hi hn (fun e => by cases e) hD hin hk
theorem VR.endRFj {fn : Func} {l D : Nat} {L : Loop} {c : Code} (i : Nat) {f2 : List Fact} (h : fn.results = #[]) (hi : f1[i]? = some (.loop l L .done (some c))) (hn : (f1.eraseIdx i).all Fact.noLoop = true) (hf2 : f1.eraseIdx i = f2) (hk : VC P (E.mk_ D) c Q ⟨n0, t0, f2, b1, r1⟩) (hD : E.D = [] := by first | assumption | rfl) :
    VR E (bodyPost P fn (EndRF P E Q n0 t0 l D)) ⟨n1, t1, f1, b1, r1⟩ := by
  subst hf2
  exact fun a w hin => endRF_ok i h hi hn (fun e => by cases e) hD hin hk
/-! ### the function's end -/
/-- What the body of a function must achieve that holds such a loop. -/
def PostM (P : Program) (fn : Func) (R : Ending → World → Prop) : Exit → Act → World → Prop
  | .normal, a, w | .ret, a, w => LeavesInM Fence.wide 0 P fn a.tmps R a.defers .returning w
  | _, _, _ => False
theorem PostM.body {fn : Func} {R : Ending → World → Prop} {e : Exit} (h : PostM P fn R e a w) : bodyPostM Fence.wide 0 P fn R e a w := by
  cases e with
  | normal => exact h
  | ret => exact h
  | _ => exact h.elim
theorem PostM.plain {fn : Func} {R : Ending → World → Prop} (h : a.defers = [] ∧ ∃ v, (results fn a.tmps).run P w = .ok v w ∧ R (.returned v) w) : LeavesInM Fence.wide 0 P fn a.tmps R a.defers .returning w := by
  obtain ⟨h1, v, h2, h3⟩ := h
  rw [h1]
  exact ⟨v, h2, h3⟩
theorem VCalls.introM {f : FuncId} {fn : Func} {c : Code} {args : List Value} {F : List Fact} {R : Value → List Fact → List ORow → Prop} (hf : P.funcs[f]? = some fn) (hb : fn.body = some c) (hn : args.length ≤ fn.ntmps)
    (h : ∀ E : Env, (∀ k, E.C k → k < E.w0.heap.size) → E.R = none → E.D = [] → (∀ T, ¬ E.U T) → VC P E c (PostM P fn (RetP E.C E.w0 R)) ⟨fn.ntmps, argT 0 args, F, [], []⟩) : VCalls P f args F R := by
  intro C w hC hF
  refine callsIn_wide.1 (callsIn_of_wp_marks (n := 0) hf hb trivial ?_ rfl)
  refine wpIn_mono (h ⟨w, C, none, [], fun _ => False⟩ hC rfl rfl (fun _ h => h) _ _ ⟨Below.refl _ _, rfl, ?_, ?_, ?_, ?_, ?_, ?_⟩) (fun e a w hq => PostM.body hq)
  · simp
    omega
  · intro k v hk
    obtain ⟨_, h2⟩ := argT_lookup args 0 k v hk
    have hlt := (List.getElem?_eq_some_iff.1 h2).1
    simp only [Nat.sub_zero] at h2 hlt
    simp only
    rw [Array.getElem?_append_left (by simpa using hlt)]
    simpa using h2
  · intro x hx
    exact Fact.mono (fun k hk => ⟨⟨.inl hk, hC k hk, by simp [St.blocks]⟩, rfl⟩) (hF x hx)
  · simp
  · simp
  · simp [St.blocks]
theorem VR.m0 {fn : Func} {R : Ending → World → Prop} (h : VR E (bodyPost P fn R) s) : VR E (PostM P fn R) s := fun a w hi => PostM.plain (h a w hi)
theorem VN.m0 {fn : Func} {R : Ending → World → Prop} (h : VN E (bodyPost P fn R) s) : VN E (PostM P fn R) s := fun a w hi => PostM.plain (h a w hi)
theorem postM_mark {fn : Func} {R : Ending → World → Prop} {D : Nat} (i : Nat) (hb : E.w0.heap.size ≤ D) (hi : f0[i]? = some (.dfr D)) (hn : (f0.eraseIdx i).all Fact.noDfr = true) (h : VR ⟨E.w0, E.C, E.R, [], E.U⟩ (bodyPost P fn R) ⟨n0, t0, f0.eraseIdx i, b0, r0⟩) {a : Act} {w : World} (hin : Inv (E.mk_ D) ⟨n0, t0, f0, b0, r0⟩ a w) : LeavesInM Fence.wide 0 P fn a.tmps R a.defers .returning w := by
  have h0 := hin.facts _ (List.mem_of_getElem? hi)
  rw [hin.defers]
  refine ⟨by simp, .inl ⟨D, _, rfl, run_takeDeferred h0.2, ?_⟩⟩
  have h3 := (hin.dfrEnd i hb hi hn).env (E2 := ⟨E.w0, E.C, E.R, [], E.U⟩) (a2 := { a with defers := [] }) rfl rfl rfl rfl
  obtain ⟨_, h4⟩ := h _ _ h3
  exact h4
theorem VR.mark {fn : Func} {R : Ending → World → Prop} {D : Nat} (i : Nat) {f2 : List Fact} (hb : E.w0.heap.size ≤ D) (hi : f0[i]? = some (.dfr D)) (hn : (f0.eraseIdx i).all Fact.noDfr = true) (hf2 : f0.eraseIdx i = f2) (h : VR ⟨E.w0, E.C, E.R, [], E.U⟩ (bodyPost P fn R) ⟨n0, t0, f2, b0, r0⟩) : VR (E.mk_ D) (PostM P fn R) ⟨n0, t0, f0, b0, r0⟩ := by
  subst hf2
  exact fun a w hin => postM_mark i hb hi hn h hin
theorem VN.mark {fn : Func} {R : Ending → World → Prop} {D : Nat} (i : Nat) {f2 : List Fact} (hb : E.w0.heap.size ≤ D) (hi : f0[i]? = some (.dfr D)) (hn : (f0.eraseIdx i).all Fact.noDfr = true) (hf2 : f0.eraseIdx i = f2) (h : VR ⟨E.w0, E.C, E.R, [], E.U⟩ (bodyPost P fn R) ⟨n0, t0, f2, b0, r0⟩) : VN (E.mk_ D) (PostM P fn R) ⟨n0, t0, f0, b0, r0⟩ := by
  subst hf2
  exact fun a w hin => postM_mark i hb hi hn h hin
end
end Go.Proofs.YtipeglbeongfmaaV
