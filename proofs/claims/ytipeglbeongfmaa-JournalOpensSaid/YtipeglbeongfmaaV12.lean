/- Regions that draw their order, and store into what they have loaded; no condition of its own. -/
import Derived.Test.YtipeglbeongfmaaV11
namespace Go.Proofs.YtipeglbeongfmaaV
open Go Go.RowKit
set_option linter.unusedVariables false
section
variable {P : Program} {E : Env} {s : St} {a : Act} {w : World} {ops : Array Oper} {o : Oper} {Q : Exit → Act → World → Prop} {d : Nat} {v u : Value} {ty : TypeId} {pos : String} {after : Array Edge} {gd : Option (Nat × Bool)} {x y z : Operand}

/-- Have none of these come up? -/
def unl (qs : List Nat) (L : Array Bool) : Bool := qs.all fun q => !L.getD q true
/-- Does each of these wait for i? -/
def waitsAll (ops : Array Oper) (qs : List Nat) (i : Nat) : Bool := qs.all fun q => match ops[q]? with | some o => o.after.any fun e => Region.binds .any e && e.on == i | none => false
/-- What is known of the world: sA always, sB as long as none of qs has come up. -/
def SH (E : Env) (sA : St) (qs : List Nat) (sB : St) (L : Array Bool) (w : World) : Prop := Mem E sA w ∧ (unl qs L = true → Mem E sB w)

def wpAnyP (P : Program) (ops : Array Oper) (Q : Exit → Act → World → Prop) (S : Array Bool → World → Prop) : Nat → Array Bool → Act → World → Prop
  | 0, listed, a, w => Region.ready .any ops listed = [] ∧ Q .normal a w
  | fuel + 1, listed, a, w =>
    (Region.ready .any ops listed = [] → Q .normal a w) ∧
    ∀ i ∈ Region.ready .any ops listed, wpOp P ops Q i (fun a' w' => S (listed.setIfInBounds i true) w' ∧ wpAnyP P ops Q S fuel (listed.setIfInBounds i true) a' w') a w
theorem wpAnyP_held {S : Array Bool → World → Prop} : ∀ (fuel : Nat) (listed : Array Bool) (a : Act) (w : World), wpAnyP P ops Q S fuel listed a w → wpAnyH P .any ops Q (fun _ => True) fuel listed a w
  | 0, _, _, _, h => h
  | fuel + 1, _, _, _, h => ⟨h.1, fun i hi => wpOp_mono (fun a' w' h' => ⟨trivial, wpAnyP_held fuel _ a' w' h'.2⟩) (h.2 i hi)⟩

/-- As the kit's 'wpAnyH_first', with an S that hangs on what has come up. -/
theorem wpAnyP_first {S : Array Bool → World → Prop} {S1 : World → Prop} {J : Array Bool → Prop} {i : Nat} {oi : Oper} (hi : ops[i]? = some oi) (hsel : ∀ (j : Nat) (o : Oper) cs b, ops[j]? = some o → o.op ≠ .select cs b)
    (hQ : ∀ c a w, Q (.panic c) (a.put oi.dst v) w → Q (.panic c) a w) (hsame : ∀ L w, S (L.setIfInBounds i true) w ↔ S L w)
    (hJ : ∀ L j, J L → i ∈ Region.ready .any ops L → j ∈ Region.ready .any ops L → j ≠ i → J (L.setIfInBounds j true)) (hS1 : ∀ L w, J L → S L w → S1 w) :
    ∀ (fuel : Nat) (listed : Array Bool) (a : Act) (w : World),
      (∀ j oj, ops[j]? = some oj → j ≠ i → listed.getD j true = false → (∀ e ∈ oj.after, Region.binds .any e = true → e.on ≠ i) → oi.apart ops oj = true) →
      J listed → i ∈ Region.ready .any ops listed → YieldsIf P ops S1 oi v a → S listed w →
      wpAnyP P ops Q S fuel (listed.setIfInBounds i true) (a.put oi.dst v) w → wpAnyP P ops Q S (fuel + 1) listed a w := by
  intro fuel
  induction fuel with
  | zero =>
    intro listed a w _ hj0 hr hy hS H
    refine ⟨fun h => (by rw [h] at hr; cases hr), fun j hj => ?_⟩
    by_cases hji : j = i
    · subst hji; exact hy.wpOp hi (hS1 _ _ hj0 hS) ⟨(hsame _ _).2 hS, H⟩
    · have := ready_mono hj hji
      rw [H.1] at this
      cases this
  | succ fuel ih =>
    intro listed a w hfree hj0 hr hy hS H
    refine ⟨fun h => (by rw [h] at hr; cases hr), fun j hj => ?_⟩
    by_cases hji : j = i
    · subst hji; exact hy.wpOp hi (hS1 _ _ hj0 hS) ⟨(hsame _ _).2 hS, H⟩
    · have h1 := H.2 j (ready_mono hj hji)
      obtain ⟨hjun, oj, hoj, hall⟩ := mem_ready.1 hj
      have hnot : ∀ e ∈ oj.after, Region.binds .any e = true → e.on ≠ i := fun e he hb heq => by
        have h1 := hall e he hb
        have h0 := (mem_ready.1 hr).1
        rw [heq] at h1
        rcases Nat.lt_or_ge i listed.size with h' | h'
        · simp [h'] at h0 h1; rw [h0] at h1; cases h1
        · simp [Array.getElem?_eq_none h'] at h1
      have h2 := wpOp_putIf hoj (hfree j oj hoj hji hjun hnot) (fun cs b => hsel i oi cs b hi) (fun cs b => hsel j oj cs b hoj) hQ hy h1
      have hfree' : ∀ k ok, ops[k]? = some ok → k ≠ i → (listed.setIfInBounds j true).getD k true = false →
          (∀ e ∈ ok.after, Region.binds .any e = true → e.on ≠ i) → oi.apart ops ok = true := fun k ok hk hki hun hno => by
        refine hfree k ok hk hki ?_ hno
        by_cases hjk : j = k
        · subst hjk; exact hjun
        · rw [getD_set_ne true hjk] at hun; exact hun
      refine wpOp_mono (fun a' w' h3 => ?_) h2
      have hS' : S (listed.setIfInBounds j true) w' := by
        have := h3.2.1
        rw [Array.setIfInBounds_comm _ _ (Ne.symm hji)] at this
        exact (hsame _ _).1 this
      refine ⟨hS', ih (listed.setIfInBounds j true) a' w' hfree' (hJ _ _ hj0 hr hj hji) (ready_mono hr (Ne.symm hji)) h3.1 hS' ?_⟩
      rw [Array.setIfInBounds_comm _ _ hji]
      exact h3.2.2

theorem unl_set {qs : List Nat} {L : Array Bool} {i : Nat} (hi : i ∉ qs) : unl qs (L.setIfInBounds i true) = unl qs L := by
  unfold unl
  induction qs with
  | nil => rfl
  | cons q qs ih =>
    simp only [List.mem_cons, not_or] at hi
    rw [List.all_cons, List.all_cons, getD_set_ne true hi.1, ih hi.2]
theorem SH_set {sA sB : St} {qs : List Nat} {i : Nat} (hi : i ∉ qs) (L : Array Bool) (w : World) : SH E sA qs sB (L.setIfInBounds i true) w ↔ SH E sA qs sB L w := by
  unfold SH
  rw [unl_set hi]

structure PartP (s sA : St) (qs : List Nat) (sB : St) (L : Array Bool) : Prop where
  a : Part s sA
  b : unl qs L = true → Part s sB
theorem PartP.on {sA sB : St} {qs : List Nat} {L : Array Bool} (a : Part s sA) (b : Part s sB) : PartP s sA qs sB L := ⟨a, fun _ => b⟩
theorem PartP.off {sA sB : St} {qs : List Nat} {L : Array Bool} (h : unl qs L = false) (a : Part s sA) : PartP s sA qs sB L := ⟨a, fun e => by rw [h] at e; cases e⟩
theorem PartP.mem {sA sB : St} {qs : List Nat} {L : Array Bool} (h : PartP s sA qs sB L) (hm : Mem E s w) : SH E sA qs sB L w := ⟨h.a.mem hm, fun e => (h.b e).mem hm⟩

def VB (P : Program) (E : Env) (ops : Array Oper) (Q : Exit → Act → World → Prop) (sA : St) (qs : List Nat) (sB : St) (n : Nat) (listed : Array Bool) (s : St) : Prop := ∀ a w, Inv E s a w → wpAnyP P ops Q (SH E sA qs sB) n listed a w
theorem VC.drawB {id : Nat} {l : List Oper} {n : Nat} {listed : Array Bool} (sA : St) (qs : List Nat) (sB : St) (hm : P.follows .mixedOrders = true) (hn : l.toArray.size = n) (hl : Array.replicate n false = listed) (h : VB P E l.toArray Q sA qs sB n listed s) (hW : E.R = none := by first | assumption | rfl) : VC P E (.region id l.toArray true) Q s := by
  intro a w hi
  rw [Env.F_wide hW]
  refine wpIn_wide.2 ?_
  refine wp_region_held (S := fun _ => True) hm (wpAnyP_held _ _ _ _ (S := SH E sA qs sB) ?_)
  rw [hn, hl]
  exact h a _ hi.drew
section
variable {sA sB : St} {qs : List Nat} {n i : Nat} {listed listed' : Array Bool}
theorem VB.take (hnq : i ∉ qs) (ho : ops[i]? = some o) (hv : OpV P E o { sA with t := s.t, n := s.n } d v) (hg : guardOn ops s o = some true) (hs : Region.noSelect ops = true) (hf : Region.free .any ops listed i = true) (hr : (Region.ready .any ops listed).contains i = true) (hl : listed.setIfInBounds i true = listed') (hp : PartP s sA qs sB listed)
    (hQ : ∀ c a w, Q (.panic c) (a.put (some d) v) w → Q (.panic c) a w) (h : VB P E ops Q sA qs sB n listed' (s.put d v)) : VB P E ops Q sA qs sB (n + 1) listed s := by
  intro a w hi
  refine wpAnyP_first (J := fun _ => True) (S1 := Mem E sA) (v := v) ho (Region.noSelect_spec hs) (by rw [hv.dst]; exact hQ) (SH_set hnq) (fun _ _ _ _ _ _ => trivial) (fun _ _ _ h => h.1) n listed a w (Region.free_spec ho hf) trivial (by simpa using hr) (.inl ⟨guardOn_wanted hi hg, fun w' hw' => hv.run a w' (fun x u hx => hi.ev (by cases x <;> exact hx)) ⟨hw'.facts, hw'.boxes, hw'.rows⟩⟩) (hp.mem hi.toMem) ?_
  rw [hl, hv.dst]
  exact h _ _ (hi.put hv.lt v)
/-- What is stored into later, and waits for i. -/
theorem VB.takeB (hw : waitsAll ops qs i = true) (hu : unl qs listed = true) (ho : ops[i]? = some o) (hv : OpV P E o { sB with t := s.t, n := s.n } d v) (hg : guardOn ops s o = some true) (hs : Region.noSelect ops = true) (hf : Region.free .any ops listed i = true) (hr : (Region.ready .any ops listed).contains i = true) (hl : listed.setIfInBounds i true = listed') (hp : PartP s sA qs sB listed)
    (hQ : ∀ c a w, Q (.panic c) (a.put (some d) v) w → Q (.panic c) a w) (h : VB P E ops Q sA qs sB n listed' (s.put d v)) : VB P E ops Q sA qs sB (n + 1) listed s := by
  intro a w hi
  have hwait : ∀ q ∈ qs, ∃ oq, ops[q]? = some oq ∧ ∃ e ∈ oq.after, Region.binds .any e = true ∧ e.on = i := by
    intro q hq
    have := List.all_eq_true.1 hw q hq
    cases hoq : ops[q]? with
    | none => rw [hoq] at this; cases this
    | some oq =>
      rw [hoq] at this
      simp only at this
      obtain ⟨e, he, h2⟩ := Array.any_eq_true'.1 this
      simp only [Bool.and_eq_true, beq_iff_eq] at h2
      exact ⟨oq, rfl, e, he, h2.1, h2.2⟩
  have hnot : ∀ L q, i ∈ Region.ready .any ops L → q ∈ Region.ready .any ops L → q ∉ qs := by
    intro L q hri hrq hq
    obtain ⟨oq, hoq, e, he, hb, hon⟩ := hwait q hq
    obtain ⟨_, oq2, hoq2, hall⟩ := mem_ready.1 hrq
    rw [hoq] at hoq2
    obtain rfl := Option.some.inj hoq2
    have h1 := hall e he hb
    have h0 := (mem_ready.1 hri).1
    rw [hon] at h1
    rcases Nat.lt_or_ge i L.size with h' | h'
    · simp [h'] at h0 h1; rw [h0] at h1; cases h1
    · simp [Array.getElem?_eq_none h'] at h1
  have hri : i ∈ Region.ready .any ops listed := by simpa using hr
  refine wpAnyP_first (J := fun L => unl qs L = true) (S1 := Mem E sB) (v := v) ho (Region.noSelect_spec hs) (by rw [hv.dst]; exact hQ) (SH_set (hnot listed i hri hri)) (fun L j hL hi2 hj2 _ => by rw [unl_set (hnot L j hi2 hj2)]; exact hL) (fun _ _ hL h => h.2 hL) n listed a w (Region.free_spec ho hf) hu hri (.inl ⟨guardOn_wanted hi hg, fun w' hw' => hv.run a w' (fun x u hx => hi.ev (by cases x <;> exact hx)) ⟨hw'.facts, hw'.boxes, hw'.rows⟩⟩) (hp.mem hi.toMem) ?_
  rw [hl, hv.dst]
  exact h _ _ (hi.put hv.lt v)
theorem VB.skip' (hnq : i ∉ qs) (ho : ops[i]? = some o) (hg : guardOn ops s o = some false) (hd : ∀ d, o.dst = some d → s.t.lookup d = none) (hs : Region.noSelect ops = true) (hf : Region.free .any ops listed i = true) (hr : (Region.ready .any ops listed).contains i = true) (hl : listed.setIfInBounds i true = listed') (hp : PartP s sA qs sB listed)
    (hQ : ∀ c a w, Q (.panic c) (a.put o.dst undef) w → Q (.panic c) a w) (h : VB P E ops Q sA qs sB n listed' s) : VB P E ops Q sA qs sB (n + 1) listed s := by
  intro a w hi
  refine wpAnyP_first (J := fun _ => True) (S1 := fun _ => True) (v := undef) ho (Region.noSelect_spec hs) hQ (SH_set hnq) (fun _ _ _ _ _ _ => trivial) (fun _ _ _ _ => trivial) n listed a w (Region.free_spec ho hf) trivial (by simpa using hr) (.inr ⟨guardOn_wanted hi hg, rfl⟩) (hp.mem hi.toMem) ?_
  rw [hl]
  exact h _ _ (hi.undef hd)
theorem VB.skipU' {d : Nat} (hnq : i ∉ qs) (ho : ops[i]? = some o) (hd : o.dst = some d) (hg : guardOn ops s o = some false) (hlt : d < s.n) (hs : Region.noSelect ops = true) (hf : Region.free .any ops listed i = true) (hr : (Region.ready .any ops listed).contains i = true) (hl : listed.setIfInBounds i true = listed') (hp : PartP s sA qs sB listed)
    (hQ : ∀ c a w, Q (.panic c) (a.put (some d) undef) w → Q (.panic c) a w) (h : VB P E ops Q sA qs sB n listed' (s.put d undef)) : VB P E ops Q sA qs sB (n + 1) listed s := by
  intro a w hi
  refine wpAnyP_first (J := fun _ => True) (S1 := fun _ => True) (v := undef) ho (Region.noSelect_spec hs) (by rw [hd]; exact hQ) (SH_set hnq) (fun _ _ _ _ _ _ => trivial) (fun _ _ _ _ => trivial) n listed a w (Region.free_spec ho hf) trivial (by simpa using hr) (.inr ⟨guardOn_wanted hi hg, rfl⟩) (hp.mem hi.toMem) ?_
  rw [hl, hd]
  exact h _ _ (hi.put hlt undef)
theorem wpAnyP_more {S S' : Array Bool → World → Prop} (h : ∀ L w, S' L w → S L w) : ∀ (n : Nat) (listed : Array Bool) (a : Act) (w : World), wpAnyP P ops Q S' n listed a w → wpAnyP P ops Q S n listed a w
  | 0, _, _, _, k => k
  | n + 1, _, _, _, k => ⟨k.1, fun i hi => wpOp_mono (fun a' w' h' => ⟨h _ _ h'.1, wpAnyP_more h n _ a' w' h'.2⟩) (k.2 i hi)⟩
theorem VB.more (sA' : St) (hp : Part sA' sA) (h : VB P E ops Q sA' qs sB n listed s) : VB P E ops Q sA qs sB n listed s := fun a w hi => wpAnyP_more (fun _ _ hm => ⟨hp.mem hm.1, hm.2⟩) n listed a w (h a w hi)
def VBll (P : Program) (E : Env) (ops : Array Oper) (Q : Exit → Act → World → Prop) (sA : St) (qs : List Nat) (sB : St) (n : Nat) (listed : Array Bool) (s : St) : List Nat → Prop
  | [] => True
  | i :: is => (∀ a w, Inv E s a w → wpOp P ops Q i (fun a' w' => SH E sA qs sB (listed.setIfInBounds i true) w' ∧ wpAnyP P ops Q (SH E sA qs sB) n (listed.setIfInBounds i true) a' w') a w) ∧ VBll P E ops Q sA qs sB n listed s is
theorem VBll.at : ∀ {is : List Nat}, VBll P E ops Q sA qs sB n listed s is → ∀ i ∈ is, ∀ a w, Inv E s a w → wpOp P ops Q i (fun a' w' => SH E sA qs sB (listed.setIfInBounds i true) w' ∧ wpAnyP P ops Q (SH E sA qs sB) n (listed.setIfInBounds i true) a' w') a w
  | [], _, i, hi => by cases hi
  | j :: is, h, i, hi => by
    rcases List.mem_cons.1 hi with rfl | hi
    · exact h.1
    · exact VBll.at h.2 i hi
theorem VB.all (rs : List Nat) (hr : Region.ready .any ops listed = rs) (hne : rs ≠ []) (h : VBll P E ops Q sA qs sB n listed s rs) : VB P E ops Q sA qs sB (n + 1) listed s :=
  fun a w hi => ⟨fun h0 => absurd (hr ▸ h0) hne, fun i hm => h.at i (hr ▸ hm) a w hi⟩
theorem VBll.nil : VBll P E ops Q sA qs sB n listed s [] := trivial
theorem VBll.cons {is : List Nat} {R : St → Prop} (ho : ops[i]? = some o) (h1 : Op1 P E o s R) (hg : guardOn ops s o = some true) (hl : listed.setIfInBounds i true = listed') (h : ∀ s', R s' → PartP s' sA qs sB listed' ∧ VB P E ops Q sA qs sB n listed' s') (k : VBll P E ops Q sA qs sB n listed s is) : VBll P E ops Q sA qs sB n listed s (i :: is) := by
  refine ⟨fun a w hi => ?_, k⟩
  unfold wpOp
  simp only [ho]
  rw [if_pos (guardOn_wanted hi hg)]
  refine .inl (h1 a w _ Q hi fun s' a' w' hr hi' => ?_).2
  obtain ⟨hp, hv⟩ := h s' hr
  rw [hl]
  exact ⟨hp.mem hi'.toMem, hv a' w' hi'⟩
theorem VB.done (hr : Region.ready .any ops listed = []) (h : VN E Q s) : VB P E ops Q sA qs sB n listed s := fun a w hi => by
  cases n with
  | zero => exact ⟨hr, h a w hi⟩
  | succ n => exact ⟨fun _ => h a w hi, by rw [hr]; simp⟩
theorem VB.one1 {s' : St} (hr : Region.ready .any ops listed = [i]) (ho : ops[i]? = some o) (h1 : Op1 P E o s (· = s')) (hg : guardOn ops s o = some true) (hl : listed.setIfInBounds i true = listed') (hp : PartP s' sA qs sB listed') (h : VB P E ops Q sA qs sB n listed' s') : VB P E ops Q sA qs sB (n + 1) listed s :=
  VB.all [i] hr (by simp) (VBll.cons ho h1 hg hl (by rintro _ rfl; exact ⟨hp, h⟩) VBll.nil)
theorem VB.oneG {α : Type} {F : α → St} (hr : Region.ready .any ops listed = [i]) (ho : ops[i]? = some o) (h1 : Op1 P E o s (fun s' => ∃ g, s' = F g)) (hg : guardOn ops s o = some true) (hl : listed.setIfInBounds i true = listed') (hp : ∀ g, PartP (F g) sA qs sB listed') (h : ∀ g, VB P E ops Q sA qs sB n listed' (F g)) : VB P E ops Q sA qs sB (n + 1) listed s :=
  VB.all [i] hr (by simp) (VBll.cons ho h1 hg hl (by rintro _ ⟨g, rfl⟩; exact ⟨hp g, h g⟩) VBll.nil)
theorem VB.oneC {F : Value → List Fact → List ORow → St} {R : Value → List Fact → List ORow → Prop} (hr : Region.ready .any ops listed = [i]) (ho : ops[i]? = some o) (h1 : Op1 P E o s (fun s' => ∃ v G own, R v G own ∧ s' = F v G own)) (hg : guardOn ops s o = some true) (hl : listed.setIfInBounds i true = listed') (h : ∀ v G own, R v G own → PartP (F v G own) sA qs sB listed' ∧ VB P E ops Q sA qs sB n listed' (F v G own)) : VB P E ops Q sA qs sB (n + 1) listed s :=
  VB.all [i] hr (by simp) (VBll.cons ho h1 hg hl (by rintro _ ⟨v, G, own, hr, rfl⟩; exact h v G own hr) VBll.nil)
theorem VBll.cons1 {s' : St} {is : List Nat} (ho : ops[i]? = some o) (h1 : Op1 P E o s (· = s')) (hg : guardOn ops s o = some true) (hl : listed.setIfInBounds i true = listed') (hp : PartP s' sA qs sB listed') (h : VB P E ops Q sA qs sB n listed' s') (k : VBll P E ops Q sA qs sB n listed s is) : VBll P E ops Q sA qs sB n listed s (i :: is) :=
  VBll.cons ho h1 hg hl (by rintro _ rfl; exact ⟨hp, h⟩) k
theorem VBll.consG {α : Type} {F : α → St} {is : List Nat} (ho : ops[i]? = some o) (h1 : Op1 P E o s (fun s' => ∃ g, s' = F g)) (hg : guardOn ops s o = some true) (hl : listed.setIfInBounds i true = listed') (hp : ∀ g, PartP (F g) sA qs sB listed') (h : ∀ g, VB P E ops Q sA qs sB n listed' (F g)) (k : VBll P E ops Q sA qs sB n listed s is) : VBll P E ops Q sA qs sB n listed s (i :: is) :=
  VBll.cons ho h1 hg hl (by rintro _ ⟨g, rfl⟩; exact ⟨hp g, h g⟩) k
theorem VBll.consC {F : Value → List Fact → List ORow → St} {R : Value → List Fact → List ORow → Prop} {is : List Nat} (ho : ops[i]? = some o) (h1 : Op1 P E o s (fun s' => ∃ v G own, R v G own ∧ s' = F v G own)) (hg : guardOn ops s o = some true) (hl : listed.setIfInBounds i true = listed') (h : ∀ v G own, R v G own → PartP (F v G own) sA qs sB listed' ∧ VB P E ops Q sA qs sB n listed' (F v G own)) (k : VBll P E ops Q sA qs sB n listed s is) : VBll P E ops Q sA qs sB n listed s (i :: is) :=
  VBll.cons ho h1 hg hl (by rintro _ ⟨v, G, own, hr, rfl⟩; exact h v G own hr) k
theorem VB.memo {s' sA0 : St} {n' : Nat} {L0 : Array Bool} {n0 : Nat} {L : Array Bool} (sA' : St) (h : VB P E ops Q sA' qs sB n' L s') (k : VB P E ops Q sA' qs sB n' L s' → VB P E ops Q sA0 qs sB n0 L0 s) : VB P E ops Q sA0 qs sB n0 L0 s := k h
theorem VB.to {s' : St} {L : Array Bool} {bs rs : List Nat} (h : VB P E ops Q sA qs sB n L s') (hl : Le s s' bs rs) : VB P E ops Q sA qs sB n L s := fun a w hi => h a w (hi.le hl)
variable {n0 : Nat} {t0 : List (Nat × Value)} {f0 f1 : List Fact} {b0 b1 : List (Nat × TypeId × List Value)} {r0 r1 : List (Value × TypeId × Nat × List (List Value))} {n1 : Nat} {t1 : List (Nat × Value)}
theorem VB.va (ho : ops[i]? = some o) (hv : OpV P E o ⟨n0, t0, f1, b1, r1⟩ d v) (hg : guardOn ops ⟨n0, t0, f0, b0, r0⟩ o = some true) (hs : Region.noSelect ops = true) (hf : Region.free .any ops listed i = true) (hr : (Region.ready .any ops listed).contains i = true) (hl : listed.setIfInBounds i true = listed') (hnq : i ∉ qs) (hp : PartP ⟨n0, t0, f0, b0, r0⟩ ⟨n1, t1, f1, b1, r1⟩ qs sB listed)
    (hQ : ∀ c a w, Q (.panic c) (a.put (some d) v) w → Q (.panic c) a w) (h : VB P E ops Q ⟨n1, t1, f1, b1, r1⟩ qs sB n listed' ⟨n0, (d, v) :: t0, f0, b0, r0⟩) : VB P E ops Q ⟨n1, t1, f1, b1, r1⟩ qs sB (n + 1) listed ⟨n0, t0, f0, b0, r0⟩ := VB.take hnq ho hv hg hs hf hr hl hp hQ h
theorem VB.vb (ho : ops[i]? = some o) (hv : OpV P E o ⟨n0, t0, f1, b1, r1⟩ d v) (hg : guardOn ops ⟨n0, t0, f0, b0, r0⟩ o = some true) (hs : Region.noSelect ops = true) (hf : Region.free .any ops listed i = true) (hr : (Region.ready .any ops listed).contains i = true) (hl : listed.setIfInBounds i true = listed') (hw : waitsAll ops qs i = true) (hu : unl qs listed = true) (hp : PartP ⟨n0, t0, f0, b0, r0⟩ sA qs ⟨n1, t1, f1, b1, r1⟩ listed)
    (hQ : ∀ c a w, Q (.panic c) (a.put (some d) v) w → Q (.panic c) a w) (h : VB P E ops Q sA qs ⟨n1, t1, f1, b1, r1⟩ n listed' ⟨n0, (d, v) :: t0, f0, b0, r0⟩) : VB P E ops Q sA qs ⟨n1, t1, f1, b1, r1⟩ (n + 1) listed ⟨n0, t0, f0, b0, r0⟩ := VB.takeB hw hu ho hv hg hs hf hr hl hp hQ h
theorem VB.un {d : Nat} (ho : ops[i]? = some o) (hd : o.dst = some d) (hg : guardOn ops ⟨n0, t0, f0, b0, r0⟩ o = some false) (hlt : d < n0) (hs : Region.noSelect ops = true) (hf : Region.free .any ops listed i = true) (hr : (Region.ready .any ops listed).contains i = true) (hl : listed.setIfInBounds i true = listed') (hnq : i ∉ qs) (hp : PartP ⟨n0, t0, f0, b0, r0⟩ sA qs sB listed)
    (hQ : ∀ c a w, Q (.panic c) (a.put (some d) undef) w → Q (.panic c) a w) (h : VB P E ops Q sA qs sB n listed' ⟨n0, (d, undef) :: t0, f0, b0, r0⟩) : VB P E ops Q sA qs sB (n + 1) listed ⟨n0, t0, f0, b0, r0⟩ := VB.skipU' hnq ho hd hg hlt hs hf hr hl hp hQ h
theorem VB.skip (ho : ops[i]? = some o) (hg : guardOn ops s o = some false) (hd : ∀ d, o.dst = some d → s.t.lookup d = none) (hs : Region.noSelect ops = true) (hf : Region.free .any ops listed i = true) (hr : (Region.ready .any ops listed).contains i = true) (hl : listed.setIfInBounds i true = listed') (hnq : i ∉ qs) (hp : PartP s sA qs sB listed)
    (hQ : ∀ c a w, Q (.panic c) (a.put o.dst undef) w → Q (.panic c) a w) (h : VB P E ops Q sA qs sB n listed' s) : VB P E ops Q sA qs sB (n + 1) listed s := VB.skip' hnq ho hg hd hs hf hr hl hp hQ h
theorem VB.cut {t e sz m : Nat} {agg : Bool} {es es3 : List (List Value)} {lo hi : Option Operand} (ho : ops[i]? = some ⟨some d, .slice t x lo hi none, ty, pos, after, gd⟩) (j l h : Nat) (hm : es.length = m) (h3 : (es.take h).drop l = es3) (ht : P.underlying t = some (.slice e)) (hT : TI P e agg sz) (hx : St.ev ⟨n0, t0, f1, b1, r1⟩ x = some v) (hf : f1[j]? = some (.row v sz es)) (hb : boundsOk ⟨n0, t0, f1, b1, r1⟩ lo hi l h m) (hn : d < n0)
    (hg : guardOn ops ⟨n0, t0, f0, b0, r0⟩ ⟨some d, .slice t x lo hi none, ty, pos, after, gd⟩ = some true) (hs : Region.noSelect ops = true) (hfr : Region.free .any ops listed i = true) (hr : (Region.ready .any ops listed).contains i = true) (hl : listed.setIfInBounds i true = listed') (hnq : i ∉ qs) (hp : PartP ⟨n0, t0, f0, b0, r0⟩ ⟨n1, t1, f1, b1, r1⟩ qs sB listed)
    (hQ : ∀ v' c a w, Q (.panic c) (a.put (some d) v') w → Q (.panic c) a w) (k : ∀ v', VB P E ops Q ⟨n1, t1, f1, b1, r1⟩ qs sB n listed' ⟨n0, (d, v') :: t0, .row v' sz es3 :: f0, b0, r0⟩) : VB P E ops Q ⟨n1, t1, f1, b1, r1⟩ qs sB (n + 1) listed ⟨n0, t0, f0, b0, r0⟩ := by
  subst h3
  subst hm
  intro a w hin
  have hm' := List.mem_of_getElem? hf
  have hin0 := hp.a.f.mem _ hm'
  obtain ⟨_, A, c, rfl, h1, _⟩ := hin.facts _ hin0
  have hb' := hb
  obtain ⟨_, _, hlh, hhn⟩ := hb'
  refine (VB.va (v := cutV A l h c sz) ho (op_cut ht hT hx h1 hb hn) hg hs hfr hr hl hnq hp (hQ _) ?_) a w hin
  intro a' w' hi'
  exact k _ a' w' (hi'.cut hin0 hlh hhn)
theorem VB.open {sz m : Nat} {es : List (List Value)} (i : Nat) (hm : es.length = m) (hf : s.f[i]? = some (.row v sz es)) (h0 : 0 < m) (h : ∀ ad c, v = .slice (some ad) m c → VB P E ops Q sA qs sB n listed s) : VB P E ops Q sA qs sB n listed s := by
  intro a w hi
  subst hm
  obtain ⟨_, A, c, e, _, _, h3, _⟩ := hi.facts _ (List.mem_of_getElem? hf)
  obtain ⟨ad, rfl, _⟩ := h3 h0
  exact h ad c e a w hi
theorem VB.openR {e sz m : Nat} {es : List (List Value)} (i : Nat) (hm : es.length = m) (hf : s.r[i]? = some (v, e, sz, es)) (h0 : 0 < m) (h : ∀ g cap, v = .slice (some ⟨g, 0, none⟩) m cap → VB P E ops Q sA qs sB n listed s) : VB P E ops Q sA qs sB n listed s := by
  intro a w hi
  subst hm
  obtain ⟨g, cap, e⟩ := own_at (hi.rows _ (List.mem_of_getElem? hf)) h0
  exact h g cap e a w hi
theorem VB.freeze' {g : Nat} {T : TypeId} {xs : List Value} (i : Nat) (hb : b0[i]? = some (g, T, xs)) (h : VB P E ops Q sA qs sB n listed ⟨n0, t0, .at_ ⟨g, 0, none⟩ xs :: f0, b0.eraseIdx i, r0⟩) : VB P E ops Q sA qs sB n listed ⟨n0, t0, f0, b0, r0⟩ := fun a w hi => h a w (hi.freeze i hb)
theorem VB.freezeRow' {e sz : Nat} {es : List (List Value)} (i : Nat) (hr : r0[i]? = some (v, e, sz, es)) (h : VB P E ops Q sA qs sB n listed ⟨n0, t0, .row v sz es :: f0, b0, r0.eraseIdx i⟩) : VB P E ops Q sA qs sB n listed ⟨n0, t0, f0, b0, r0⟩ := fun a w hi => h a w (hi.freezeRow i hr)
theorem VB.nilRow' (e sz : Nat) (h : VB P E ops Q sA qs sB n listed ⟨n0, t0, f0, b0, (.slice none 0 0, e, sz, []) :: r0⟩) : VB P E ops Q sA qs sB n listed ⟨n0, t0, f0, b0, r0⟩ := fun a w hi => h a w (hi.nilRow e sz)
theorem VB.nilFact' (sz : Nat) (h : VB P E ops Q sA qs sB n listed ⟨n0, t0, .row (.slice none 0 0) sz [] :: f0, b0, r0⟩) : VB P E ops Q sA qs sB n listed ⟨n0, t0, f0, b0, r0⟩ := fun a w hi => h a w (hi.nilFact sz)
end
end
end Go.Proofs.YtipeglbeongfmaaV
