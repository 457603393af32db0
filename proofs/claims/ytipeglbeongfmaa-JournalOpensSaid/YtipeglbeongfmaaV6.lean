/- Where ways meet, rounds, results, and what data come to; no condition of its own. -/
import Derived.Test.YtipeglbeongfmaaV5
import Derived.ChangeArms
import Derived.WideShapes
namespace Go.Proofs.YtipeglbeongfmaaV
open Go Go.RowKit
set_option linter.unusedVariables false

def mn (a b : Int) : Int := if b < a then b else a
def mx (a b : Int) : Int := if a < b then b else a
theorem add_zero_at (g n : Nat) : (⟨g, 0, none⟩ : Addr).add n = ⟨g, n, none⟩ := by rw [add_at, Nat.zero_add]
/-- What is told with few rounds is told with more. -/
def LeO {α : Type} (a b : Option α) : Prop := ∀ r, a = some r → b = some r
theorem LeO.refl {α : Type} (a : Option α) : LeO a a := fun _ h => h
theorem LeO.trans {α : Type} {a b c : Option α} (h : LeO a b) (k : LeO b c) : LeO a c := fun r hr => k r (h r hr)
theorem LeO.ite {α : Type} {c : Prop} [Decidable c] {a b a' b' : Option α} (h : LeO a a') (k : LeO b b') : LeO (if c then a else b) (if c then a' else b') := by
  split
  · exact h
  · exact k
theorem LeO.bind {α β : Type} {a a' : Option α} {f f' : α → Option β} (h : LeO a a') (k : ∀ x, LeO (f x) (f' x)) : LeO (a.bind f) (a'.bind f') := by
  intro r hr
  obtain ⟨x, hx, hf⟩ := Option.bind_eq_some_iff.1 hr
  exact Option.bind_eq_some_iff.2 ⟨x, h x hx, k x r hf⟩
theorem LeO.up {α : Type} {g : Nat → Option α} (h : ∀ k, LeO (g k) (g (k + 1))) {k m : Nat} (hk : k ≤ m) : LeO (g k) (g m) := by
  induction hk with
  | refl => exact LeO.refl _
  | step _ ih => exact ih.trans (h _)
theorem flat_map {α : Type} {enc : α → List Value} {sz : Nat} (h : ∀ a, (enc a).length = sz ∧ ∀ u ∈ enc a, u.oneCell' = true) (xs : List α) : flatOk sz (xs.map enc) := by
  intro ls hls
  obtain ⟨y, _, rfl⟩ := List.mem_map.1 hls
  exact h y
theorem set_get {α : Type} {xs : List α} {j : Nat} {x y : α} (h : xs[j]? = some x) : (xs.set j y)[j]? = some y := by
  have := (List.getElem?_eq_some_iff.1 h).1
  rw [List.getElem?_set_self this]
theorem get_map {α : Type} {enc : α → List Value} {xs : List α} {j : Nat} {x : α} (h : xs[j]? = some x) : (xs.map enc)[j]? = some (enc x) := by rw [List.getElem?_map, h]; rfl
theorem lt_get {α : Type} {xs : List α} {i : Int} {x : α} (h0 : 0 ≤ i) (h : xs[i.toNat]? = some x) : i < (xs.length : Int) := by
  have := (List.getElem?_eq_some_iff.1 h).1
  omega
theorem pos_get {α : Type} {xs : List α} {i : Nat} {x : α} (h : xs[i]? = some x) : 0 < xs.length := by
  have := (List.getElem?_eq_some_iff.1 h).1
  omega
theorem lenm {α β : Type} {f : α → β} {xs : List α} : (xs.map f).length = xs.length := List.length_map _
theorem appm {α β : Type} {f : α → β} {xs ys : List α} : xs.map f ++ ys.map f = (xs ++ ys).map f := List.map_append.symm
theorem cutm {α β : Type} {f : α → β} {xs : List α} {l h : Nat} : ((xs.map f).take h).drop l = ((xs.take h).drop l).map f := by rw [List.map_drop, List.map_take]
theorem setm {α β : Type} {f : α → β} {xs : List α} {j : Nat} {x : α} {y : β} (h : f x = y) : (xs.map f).set j y = (xs.set j x).map f := by rw [List.map_set, h]
theorem bndm {α β : Type} {f : α → β} {xs ys : List α} {b : Nat} (h : (xs.length + ys.length) * b ≤ 140737488355328) : ((xs.map f).length + (ys.map f).length) * b ≤ 140737488355328 := by rw [List.length_map, List.length_map]; exact h
theorem ltn {d n : Nat} (h : Nat.blt d n = true) : d < n := by simpa [Nat.blt_eq] using h
theorem len {d n : Nat} (h : Nat.ble d n = true) : d ≤ n := Nat.le_of_ble_eq_true h

section
variable {P : Program} {E : Env} {w w' : World} {s s' : St} {a : Act} {ops : Array Oper} {rest : List Oper} {Q : Exit → Act → World → Prop} {d : Nat} {v u : Value}

theorem VR.fn {fn : Func} {rs : List ResultVar} {vs : List Value} {R : Value → List Fact → List ORow → Prop} (G : List Fact) (own : List ORow) (is : List Nat) (h : fn.results = rs.toArray) (hr : Res P s rs vs) (hR : R (resVal vs) G own) (hG : SubF s G) (ho : own.map some = pick s.r is) (hn : is.Nodup) (hD : E.D = [] := by first | assumption | rfl) :
    VR E (bodyPost P fn (RetP E.C E.w0 R)) s := fun a w hi => hi.ret G own h hr hR hG.mem (fun x hx => pick_mem ho hx) (fun hnd => pick_nodup ho hn hnd) hD
theorem VN.fn {fn : Func} {rs : List ResultVar} {vs : List Value} {R : Value → List Fact → List ORow → Prop} (G : List Fact) (own : List ORow) (is : List Nat) (h : fn.results = rs.toArray) (hr : Res P s rs vs) (hR : R (resVal vs) G own) (hG : SubF s G) (ho : own.map some = pick s.r is) (hn : is.Nodup) (hD : E.D = [] := by first | assumption | rfl) :
    VN E (bodyPost P fn (RetP E.C E.w0 R)) s := fun a w hi => hi.ret G own h hr hR hG.mem (fun x hx => pick_mem ho hx) (fun hnd => pick_nodup ho hn hnd) hD

/-- A row of nothing. -/
theorem Inv.nilRow (h : Inv E s a w) (e sz : Nat) : Inv E { s with r := (.slice none 0 0, e, sz, []) :: s.r } a w :=
  h.newRow (G := []) (Below.refl _ _) ⟨fun x hx => by simp at hx, World.ownsRow_nil w _ e sz⟩
theorem Inv.nilFact (h : Inv E s a w) (sz : Nat) : Inv E { s with f := .row (.slice none 0 0) sz [] :: s.f } a w := by
  refine h.mem rfl rfl h.below (fun k hk => ⟨hk, rfl⟩) (fun x hx => ?_) (fun x hx => .inl ⟨hx, rfl⟩) (fun x hx => .inl ⟨hx, fun _ _ => rfl⟩) h.nodup
  rcases List.mem_cons.1 hx with rfl | hx
  · exact .inr ⟨fun x hx => by simp at hx, none, 0, rfl, Nat.le_refl _, by simp [maxLen], fun h => absurd h (by simp), fun i ls hi => by simp at hi⟩
  · exact .inl hx
theorem VL.nilRow {l : List Oper} (e sz : Nat) (h : VL P E ops Q l { s with r := (.slice none 0 0, e, sz, []) :: s.r }) : VL P E ops Q l s := fun a w hi => h a w (hi.nilRow e sz)
theorem VL.nilFact {l : List Oper} (sz : Nat) (h : VL P E ops Q l { s with f := .row (.slice none 0 0) sz [] :: s.f }) : VL P E ops Q l s := fun a w hi => h a w (hi.nilFact sz)
theorem VC.nilRow {c : Code} (e sz : Nat) (h : VC P E c Q { s with r := (.slice none 0 0, e, sz, []) :: s.r }) : VC P E c Q s := fun a w hi => h a w (hi.nilRow e sz)
theorem VC.nilFact {c : Code} (sz : Nat) (h : VC P E c Q { s with f := .row (.slice none 0 0) sz [] :: s.f }) : VC P E c Q s := fun a w hi => h a w (hi.nilFact sz)
theorem VN.nilRow (e sz : Nat) (h : VN E Q { s with r := (.slice none 0 0, e, sz, []) :: s.r }) : VN E Q s := fun a w hi => h a w (hi.nilRow e sz)
theorem VN.nilFact (sz : Nat) (h : VN E Q { s with f := .row (.slice none 0 0) sz [] :: s.f }) : VN E Q s := fun a w hi => h a w (hi.nilFact sz)
theorem VN.freezeRow {e sz : Nat} {es : List (List Value)} (i : Nat) (hr : s.r[i]? = some (v, e, sz, es)) (h : VN E Q { s with r := s.r.eraseIdx i, f := .row v sz es :: s.f }) : VN E Q s := fun a w hi => h a w (hi.freezeRow i hr)
theorem VN.freeze {g : Nat} {T : TypeId} {xs : List Value} (i : Nat) (hb : s.b[i]? = some (g, T, xs)) (h : VN E Q { s with b := s.b.eraseIdx i, f := .at_ ⟨g, 0, none⟩ xs :: s.f }) : VN E Q s := fun a w hi => h a w (hi.freeze i hb)
theorem VR.nilRow (e sz : Nat) (h : VR E Q { s with r := (.slice none 0 0, e, sz, []) :: s.r }) : VR E Q s := fun a w hi => h a w (hi.nilRow e sz)
theorem VR.nilFact (sz : Nat) (h : VR E Q { s with f := .row (.slice none 0 0) sz [] :: s.f }) : VR E Q s := fun a w hi => h a w (hi.nilFact sz)
theorem VR.freezeRow {e sz : Nat} {es : List (List Value)} (i : Nat) (hr : s.r[i]? = some (v, e, sz, es)) (h : VR E Q { s with r := s.r.eraseIdx i, f := .row v sz es :: s.f }) : VR E Q s := fun a w hi => h a w (hi.freezeRow i hr)
theorem VR.freeze {g : Nat} {T : TypeId} {xs : List Value} (i : Nat) (hb : s.b[i]? = some (g, T, xs)) (h : VR E Q { s with b := s.b.eraseIdx i, f := .at_ ⟨g, 0, none⟩ xs :: s.f }) : VR E Q s := fun a w hi => h a w (hi.freeze i hb)
theorem VA.open {sS : St} {n : Nat} {listed : Array Bool} {sz m : Nat} {es : List (List Value)} (i : Nat) (hm : es.length = m) (hf : s.f[i]? = some (.row v sz es)) (h0 : 0 < m) (h : ∀ ad c, v = .slice (some ad) m c → VA P E ops Q sS n listed s) : VA P E ops Q sS n listed s := by
  intro a w hi
  subst hm
  obtain ⟨_, A, c, e, _, _, h3, _⟩ := hi.facts _ (List.mem_of_getElem? hf)
  obtain ⟨ad, rfl, _⟩ := h3 h0
  exact h ad c e a w hi
theorem VA.openR {sS : St} {n : Nat} {listed : Array Bool} {e sz m : Nat} {es : List (List Value)} (i : Nat) (hm : es.length = m) (hf : s.r[i]? = some (v, e, sz, es)) (h0 : 0 < m) (h : ∀ g cap, v = .slice (some ⟨g, 0, none⟩) m cap → VA P E ops Q sS n listed s) : VA P E ops Q sS n listed s := by
  intro a w hi
  subst hm
  obtain ⟨g, cap, e⟩ := own_at (hi.rows _ (List.mem_of_getElem? hf)) h0
  exact h g cap e a w hi
theorem VA.nilRow {sS : St} {n : Nat} {listed : Array Bool} (e sz : Nat) (h : VA P E ops Q sS n listed { s with r := (.slice none 0 0, e, sz, []) :: s.r }) : VA P E ops Q sS n listed s := fun a w hi => h a w (hi.nilRow e sz)
theorem VA.nilFact {sS : St} {n : Nat} {listed : Array Bool} (sz : Nat) (h : VA P E ops Q sS n listed { s with f := .row (.slice none 0 0) sz [] :: s.f }) : VA P E ops Q sS n listed s := fun a w hi => h a w (hi.nilFact sz)
theorem VA.freezeRow {sS : St} {n : Nat} {listed : Array Bool} {e sz : Nat} {es : List (List Value)} (i : Nat) (hr : s.r[i]? = some (v, e, sz, es)) (h : VA P E ops Q sS n listed { s with r := s.r.eraseIdx i, f := .row v sz es :: s.f }) : VA P E ops Q sS n listed s := fun a w hi => h a w (hi.freezeRow i hr)
theorem VA.freeze {sS : St} {n : Nat} {listed : Array Bool} {g : Nat} {T : TypeId} {xs : List Value} (i : Nat) (hb : s.b[i]? = some (g, T, xs)) (h : VA P E ops Q sS n listed { s with b := s.b.eraseIdx i, f := .at_ ⟨g, 0, none⟩ xs :: s.f }) : VA P E ops Q sS n listed s := fun a w hi => h a w (hi.freeze i hb)

/-- All that another state knows is known here. -/
structure Le (s s' : St) (bs rs : List Nat) : Prop where
  n : s'.n = s.n
  t : SubT s s'.t
  f : SubF s s'.f
  b : s'.b.map some = pick s.b bs
  bn : bs.Nodup
  r : s'.r.map some = pick s.r rs
  rn : rs.Nodup
theorem Inv.le {bs rs : List Nat} (h : Inv E s a w) (hl : Le s s' bs rs) : Inv E s' a w := h.less bs rs hl.n hl.t hl.f hl.b hl.bn hl.r hl.rn
theorem VC.le {c : Code} (bs rs : List Nat) (s' : St) (hl : Le s s' bs rs) (h : VC P E c Q s') : VC P E c Q s := fun a w hi => h a w (hi.le hl)

theorem VN.again {c : Code} {n : Nat} (bs rs : List Nat) (h : VLp P E c Q n s') (hl : Le s s' bs rs := by refine ⟨rfl, ?_, ?_, rfl, by decide, rfl, by decide⟩ <;> repeat (first | exact trivial | refine ⟨rfl, ?_⟩ | refine ⟨⟨0, rfl⟩, ?_⟩ | refine ⟨⟨1, rfl⟩, ?_⟩ | refine ⟨⟨2, rfl⟩, ?_⟩ | refine ⟨⟨3, rfl⟩, ?_⟩ | refine ⟨⟨4, rfl⟩, ?_⟩ | refine ⟨⟨5, rfl⟩, ?_⟩ | refine ⟨⟨6, rfl⟩, ?_⟩ | refine ⟨⟨7, rfl⟩, ?_⟩ | refine ⟨⟨8, rfl⟩, ?_⟩ | refine ⟨⟨9, rfl⟩, ?_⟩)) : VN E (Exit.then (Code.roundsIn E.F 0 P c Q n) Q) s := fun a w hi => h a w (hi.le hl)
/-- Where a region that draws its order ends: what is known there, whatever the order. -/
theorem VN.to {bs rs : List Nat} (h : VN E Q s') (hl : Le s s' bs rs := by refine ⟨rfl, ?_, ?_, rfl, by decide, rfl, by decide⟩ <;> repeat (first | exact trivial | refine ⟨rfl, ?_⟩ | refine ⟨⟨0, rfl⟩, ?_⟩ | refine ⟨⟨1, rfl⟩, ?_⟩ | refine ⟨⟨2, rfl⟩, ?_⟩ | refine ⟨⟨3, rfl⟩, ?_⟩ | refine ⟨⟨4, rfl⟩, ?_⟩ | refine ⟨⟨5, rfl⟩, ?_⟩ | refine ⟨⟨6, rfl⟩, ?_⟩ | refine ⟨⟨7, rfl⟩, ?_⟩ | refine ⟨⟨8, rfl⟩, ?_⟩ | refine ⟨⟨9, rfl⟩, ?_⟩)) : VN E Q s := fun a w hi => h a w (hi.le hl)
end

theorem bne_of_t {a b : ByteArray} (h : (a == b) = true) : (a != b) = false := by simp [bne, h]
theorem bne_of_f {a b : ByteArray} (h : ¬ (a == b) = true) : (a != b) = true := by simp [bne, h]
theorem not_t {b : Bool} (h : b = true) : (!b) = false := by rw [h]; rfl
theorem not_f {b : Bool} (h : ¬ b = true) : (!b) = true := by cases b <;> simp_all
/-- All of a list. -/
inductive All {α : Type} (R : α → Prop) : List α → Prop where
  | nil : All R []
  | cons {x : α} {l : List α} (h : R x) (k : All R l) : All R (x :: l)
theorem All_of {α : Type} {R : α → Prop} {l : List α} (h : All R l) : ∀ x ∈ l, R x := by
  induction h with
  | nil => simp
  | cons h _ ih =>
    intro x hx
    rcases List.mem_cons.1 hx with rfl | hx
    · exact h
    · exact ih x hx
theorem ei_of {P : Program} {e sz bytes : Nat} {z : Value} (h : (P.info? e).map (fun i => (i.zero, i.size, i.bytes)) = some (some z, sz, bytes)) (hz : z.cells.size = sz) (h1 : 0 < sz) (h2 : 0 < bytes) : EI P e sz bytes := by
  obtain ⟨i, hi, hh⟩ := Option.map_eq_some_iff.1 h
  simp only [Prod.mk.injEq] at hh
  exact ⟨⟨i, z, hi, hh.1, hh.2.1, hh.2.2, hz⟩, h1, h2⟩
section
variable {P : Program} {E : Env} {w : World} {s : St} {Q : Exit → Act → World → Prop} {d : Nat} {v u : Value} {x y : Operand} {ty : TypeId} {pos : String} {after : Array Edge} {gd : Option (Nat × Bool)}
theorem op_call0 {f : FuncId} {args : List Operand} {ats : Array TypeId} {vals : List Value} {F : List Fact} {R : Value → List Fact → List ORow → Prop}
    (hF : FOk P f) (h : VCalls P f vals F R) (hc : s.ev x = some (.func (.func f) #[] #[])) (ha : args.map s.ev = vals.map some) (hn : d < s.n) (hf : ∀ x ∈ F, x ∈ s.f) :
    Op1 P E ⟨some d, .call { callee := .value x, args := args.toArray, argTypes := ats }, ty, pos, after, gd⟩ s (fun s' => ∃ v G own, R v G own ∧ s' = St.put { s with f := G ++ s.f, r := own ++ s.r } d v) :=
  op_call (caps := []) hF (by rw [List.append_nil]; exact h) hc ha hn hf
theorem op_call_b0 {f : FuncId} {args : List Operand} {ats : Array TypeId} {vals : List Value} {F : List Fact} {R : Value → List Fact → List ORow → Prop}
    (hF : FOk P f) (h : VCalls P f vals F R) (hc : s.ev x = some (.func (.func f) #[] #[])) (ha : args.map s.ev = vals.map some) (hn : d < s.n) (hf : ∀ x ∈ F, Lent s x) (hG : ∀ v G own, R v G own → G = []) :
    Op1 P E ⟨some d, .call { callee := .value x, args := args.toArray, argTypes := ats }, ty, pos, after, gd⟩ s (fun s' => ∃ v G own, R v G own ∧ s' = St.put { s with f := G ++ s.f, r := own ++ s.r } d v) :=
  op_call_b (caps := []) hF (by rw [List.append_nil]; exact h) hc ha hn hf hG
theorem op_bin {op : BinOp} {t t' : TypeId} {r : Value} (hx : s.ev x = some u) (hy : s.ev y = some v) (hr : ∀ w, (do eqGuard op t x y u v; binOp op t u v : Sem Value).run P w = .ok r w) (hn : d < s.n := by exact ltn rfl) : OpV P E ⟨some d, .binOp op t x y t', ty, pos, after, gd⟩ s d r :=
  op_val rfl hn (fun a ha w => by
    have h2 := hr w
    simp only [execOp, ha x _ hx, ha y _ hy]
    rw [Sem.run_bind, h2]
    rfl)
end

/-! ### data -/
def allOk {α : Type} (ok : α → Prop) (l : List α) : Prop := l.length ≤ 9223372036854775807 ∧ ∀ x ∈ l, ok x
/-- Whatever can be read as a datum of type t: its cells say D. -/
structure OpD (P : Program) (t : TypeId) (k : Nat) (D : World → List Value → Prop) : Prop where
  open_ : ∀ {H : Type} (enc : TypeId × Value → H) (w : World) (base : Nat) (sp : Nat → Bool) (held : Bool) (fuel : Nat) (cs : List Value) (x : DataW H × List MemPlace), DataW.trod enc P w base sp held fuel t cs = some x → D w cs
  sz : k = P.cellsOf t
section
variable {P : Program}
theorem OpD.int {t : TypeId} {k : IntKind} (ht : P.underlying t = some (.int k)) (hs : 1 = P.cellsOf t) : OpD P t 1 (fun _ cs => ∃ n, cs = [.int k n] ∧ (Lit.int k n).wf = true) :=
  ⟨fun enc w base sp held fuel cs x h => by
    obtain ⟨n, rfl, _, hw⟩ := DataW.trod_int ht h
    exact ⟨n, rfl, hw⟩, hs⟩
theorem OpD.bool {t : TypeId} (ht : P.underlying t = some .bool) (hs : 1 = P.cellsOf t) : OpD P t 1 (fun _ cs => ∃ b, cs = [.bool b]) :=
  ⟨fun enc w base sp held fuel cs x h => by
    obtain ⟨b, rfl, _⟩ := DataW.trod_bool ht h
    exact ⟨b, rfl⟩, hs⟩
theorem OpD.string {t : TypeId} (ht : P.underlying t = some .string) (hs : 1 = P.cellsOf t) : OpD P t 1 (fun _ cs => ∃ s, cs = [.string s] ∧ s.size ≤ 9223372036854775807) :=
  ⟨fun enc w base sp held fuel cs x h => by
    obtain ⟨s, rfl, _, hw⟩ := DataW.trod_string ht h
    exact ⟨s, rfl, hw⟩, hs⟩
theorem choose_list {α : Type} {p : Nat → α → Prop} : ∀ n : Nat, (∀ i, i < n → ∃ a, p i a) → ∃ l : List α, l.length = n ∧ ∀ i a, l[i]? = some a → p i a
  | 0, _ => ⟨[], rfl, fun i a h => by simp at h⟩
  | n + 1, h => by
    obtain ⟨l, hl, hp⟩ := choose_list n (fun i hi => h i (by omega))
    obtain ⟨a, ha⟩ := h n (by omega)
    refine ⟨l ++ [a], by simp [hl], fun i b hb => ?_⟩
    by_cases hi : i < l.length
    · rw [List.getElem?_append_left hi] at hb
      exact hp i b hb
    · rw [List.getElem?_append_right (by omega)] at hb
      have hi0 : i - l.length = 0 := by
        by_cases h0 : i - l.length = 0
        · exact h0
        · rw [List.getElem?_eq_none (by simp; omega)] at hb
          cases hb
      rw [hi0] at hb
      simp at hb
      subst hb
      have : i = n := by omega
      subst this
      exact ha
theorem OpD.slice {t e k : TypeId} {α : Type} {enc : α → List Value} {ok : α → Prop} {D : World → List Value → Prop} (ht : P.underlying t = some (.slice e)) (hs : 1 = P.cellsOf t) (he : OpD P e k D) (hD : ∀ w cs, D w cs → ∃ a : α, cs = enc a ∧ ok a) (hkp : 0 < k) (hk : ∀ a, (enc a).length = k ∧ ∀ u ∈ enc a, u.oneCell' = true) :
    OpD P t 1 (fun w cs => ∃ (l : List α) (A : Option Addr) (c : Nat), cs = [.slice A l.length c] ∧ (Fact.row (.slice A l.length c) k (l.map enc)).holds (fun b => b < w.heap.size) w ∧ allOk ok l) :=
  ⟨fun encH w base sp held fuel cs x h => by
    rcases DataW.trod_slice ht h with ⟨rfl, _⟩ | ⟨a, len, cap, elems, rest, n, _, rfl, _, hb, hl, hm, hlen, hel, _, _⟩
    · exact ⟨[], none, 0, rfl, ⟨fun x hx => by simp at hx, none, 0, rfl, Nat.le_refl _, by simp [maxLen], fun h => absurd h (by simp), fun i ls hi => by simp at hi⟩, by simp, by simp⟩
    · have each : ∀ i, i < len → ∃ y : α, (∀ j u, (enc y)[j]? = some u → w.cell? (a.add (i * k + j)) = some u) ∧ ok y := by
        intro i hi
        have h1 := hel i hi
        rw [List.getElem?_eq_getElem (by omega), Option.bind_eq_some_iff] at h1
        obtain ⟨c, hc, h2⟩ := h1
        obtain ⟨y, rfl, hok⟩ := hD w c (he.open_ encH w base sp held n c _ h2)
        obtain ⟨hcl, hcc⟩ := World.cells?_some hc
        refine ⟨y, fun j u hu => ?_, hok⟩
        have hj : j < (enc y).length := (List.getElem?_eq_some_iff.1 hu).1
        have hz := hcc.2 j (by rw [← hcc.1]; exact hj)
        rw [add_add, ← he.sz, hu] at hz
        exact hz
      obtain ⟨l, hl1, hl2⟩ := choose_list len each
      subst hl1
      refine ⟨l, some a, cap, rfl, ⟨fun ls hls => ?_, some a, cap, by rw [List.length_map], by rw [List.length_map]; exact hl, hm, fun hp => ⟨a, rfl, ?_⟩, fun i ls hi ad hA j u hu => ?_⟩, Nat.le_trans hl hm, fun x hx => ?_⟩
      · obtain ⟨y, _, rfl⟩ := List.mem_map.1 hls
        exact hk y
      · rw [List.length_map] at hp
        have h0 := (hl2 0 l[0] (by simp [hp])).1
        have hz : 0 < (enc l[0]).length := by rw [(hk l[0]).1]; exact hkp
        have h1 := World.block_lt_of_cell? w _ (h0 0 _ (List.getElem?_eq_getElem hz))
        have e : a.add (0 * k + 0) = a := by simp [Addr.add]
        rw [e] at h1
        exact h1
      · obtain rfl := Option.some.inj hA
        rw [List.getElem?_map] at hi
        obtain ⟨y, hy, rfl⟩ := Option.map_eq_some_iff.1 hi
        exact (hl2 i y hy).1 j u hu
      · obtain ⟨i, hi, rfl⟩ := List.mem_iff_getElem.1 hx
        exact (hl2 i _ (List.getElem?_eq_getElem hi)).2, hs⟩
/-- The fields of a struct, from a place on. -/
structure OpDF (P : Program) (fs : List Field) (off k : Nat) (D : World → List Value → Prop) : Prop where
  open_ : ∀ {H : Type} (enc : TypeId × Value → H) (w : World) (base : Nat) (sp : Nat → Bool) (held : Bool) (fuel : Nat) (cs : List Value),
    (∀ f ∈ fs, ∃ x, DataW.trod enc P w base sp held fuel f.type ((cs.drop f.offset).take (P.cellsOf f.type)) = some x) → cs.length = off + k → D w (cs.drop off)
theorem OpDF.one {f : Field} {off k : Nat} {D : World → List Value → Prop} (ho : f.offset = off) (h : OpD P f.type k D) : OpDF P [f] off k D :=
  ⟨fun enc w base sp held fuel cs hf hl => by
    obtain ⟨x, hx⟩ := hf f (by simp)
    rw [ho, ← h.sz, List.take_of_length_le (by rw [List.length_drop]; omega)] at hx
    exact h.open_ enc w base sp held fuel _ x hx⟩
theorem OpDF.cons {f : Field} {fs : List Field} {off k k' : Nat} {D D' : World → List Value → Prop} (ho : f.offset = off) (h : OpD P f.type k D) (h' : OpDF P fs (off + k) k' D') :
    OpDF P (f :: fs) off (k + k') (fun w cs => ∃ c0 c1, cs = c0 ++ c1 ∧ D w c0 ∧ D' w c1) :=
  ⟨fun enc w base sp held fuel cs hf hl => by
    obtain ⟨x, hx⟩ := hf f (by simp)
    rw [ho, ← h.sz] at hx
    refine ⟨_, _, ?_, h.open_ enc w base sp held fuel _ x hx, h'.open_ enc w base sp held fuel cs (fun g hg => hf g (List.mem_cons_of_mem _ hg)) (by omega)⟩
    rw [← List.drop_drop, List.take_append_drop]⟩
theorem OpD.struct {t : TypeId} {fs : Array Field} {k : Nat} {D : World → List Value → Prop} (ht : P.underlying t = some (.struct fs)) (h : OpDF P fs.toList 0 k D) (hs : k = P.cellsOf t) : OpD P t k D :=
  ⟨fun enc w base sp held fuel cs x hx => by
    obtain ⟨xs, n, _, _, hl, hlen, hf⟩ := DataW.trod_struct ht hx
    have := h.open_ enc w base sp held n cs (fun f hfm => by
      obtain ⟨i, hi, rfl⟩ := List.mem_iff_getElem.1 hfm
      have hi' : i < fs.size := by simpa using hi
      have := hf i fs[i] (by simp [hi'])
      rw [List.getElem?_eq_getElem (by omega)] at this
      exact ⟨_, by simpa using this⟩) (by omega)
    simpa using this, hs⟩
end
end Go.Proofs.YtipeglbeongfmaaV
