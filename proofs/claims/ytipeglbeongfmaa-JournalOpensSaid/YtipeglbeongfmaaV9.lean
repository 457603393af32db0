/- A walk's knowledge as one state: regions that draw their order, told shortly. -/
import Derived.Test.YtipeglbeongfmaaV8
namespace Go.Proofs.YtipeglbeongfmaaV
open Go Go.RowKit
set_option linter.unusedVariables false
/-- Which of n operations are done: the bits of m. -/
def LB (n m : Nat) : Array Bool := ((List.range n).map fun i => m.testBit i).toArray
section
variable {P : Program} {E : Env} {s : St} {a : Act} {w : World} {ops : Array Oper} {o : Oper} {Q : Exit → Act → World → Prop} {d : Nat} {v u : Value} {ty : TypeId} {pos : String} {after : Array Edge} {gd : Option (Nat × Bool)} {x y z : Operand}
  {n0 : Nat} {t0 : List (Nat × Value)} {f0 : List Fact} {b0 : List (Nat × TypeId × List Value)} {r0 : List (Value × TypeId × Nat × List (List Value))}
  {n1 : Nat} {t1 : List (Nat × Value)} {f1 : List Fact} {b1 : List (Nat × TypeId × List Value)} {r1 : List (Value × TypeId × Nat × List (List Value))}
theorem VA.one1 {sS s' : St} {n i : Nat} {listed listed' : Array Bool} (hr : Region.ready .any ops listed = [i]) (ho : ops[i]? = some o) (h1 : Op1 P E o s (· = s')) (hg : guardOn ops s o = some true) (hl : listed.setIfInBounds i true = listed') (hp : Part s' sS) (h : VA P E ops Q sS n listed' s') : VA P E ops Q sS (n + 1) listed s :=
  VA.all [i] hr (by simp) (VAll.cons ho h1 hg hl (by rintro _ rfl; exact ⟨hp, h⟩) VAll.nil)
theorem VA.oneG {α : Type} {F : α → St} {sS : St} {n i : Nat} {listed listed' : Array Bool} (hr : Region.ready .any ops listed = [i]) (ho : ops[i]? = some o) (h1 : Op1 P E o s (fun s' => ∃ g, s' = F g)) (hg : guardOn ops s o = some true) (hl : listed.setIfInBounds i true = listed') (hp : ∀ g, Part (F g) sS) (h : ∀ g, VA P E ops Q sS n listed' (F g)) : VA P E ops Q sS (n + 1) listed s :=
  VA.all [i] hr (by simp) (VAll.cons ho h1 hg hl (by rintro _ ⟨g, rfl⟩; exact ⟨hp g, h g⟩) VAll.nil)
theorem VA.oneC {F : Value → List Fact → List ORow → St} {R : Value → List Fact → List ORow → Prop} {sS : St} {n i : Nat} {listed listed' : Array Bool} (hr : Region.ready .any ops listed = [i]) (ho : ops[i]? = some o) (h1 : Op1 P E o s (fun s' => ∃ v G own, R v G own ∧ s' = F v G own)) (hg : guardOn ops s o = some true) (hl : listed.setIfInBounds i true = listed') (h : ∀ v G own, R v G own → Part (F v G own) sS ∧ VA P E ops Q sS n listed' (F v G own)) : VA P E ops Q sS (n + 1) listed s :=
  VA.all [i] hr (by simp) (VAll.cons ho h1 hg hl (by rintro _ ⟨v, G, own, hr, rfl⟩; exact h v G own hr) VAll.nil)
theorem VAll.cons1 {sS s' : St} {n i : Nat} {is : List Nat} {listed listed' : Array Bool} (ho : ops[i]? = some o) (h1 : Op1 P E o s (· = s')) (hg : guardOn ops s o = some true) (hl : listed.setIfInBounds i true = listed') (hp : Part s' sS) (h : VA P E ops Q sS n listed' s') (k : VAll P E ops Q sS n listed s is) : VAll P E ops Q sS n listed s (i :: is) :=
  VAll.cons ho h1 hg hl (by rintro _ rfl; exact ⟨hp, h⟩) k
theorem VAll.consG {α : Type} {F : α → St} {sS : St} {n i : Nat} {is : List Nat} {listed listed' : Array Bool} (ho : ops[i]? = some o) (h1 : Op1 P E o s (fun s' => ∃ g, s' = F g)) (hg : guardOn ops s o = some true) (hl : listed.setIfInBounds i true = listed') (hp : ∀ g, Part (F g) sS) (h : ∀ g, VA P E ops Q sS n listed' (F g)) (k : VAll P E ops Q sS n listed s is) : VAll P E ops Q sS n listed s (i :: is) :=
  VAll.cons ho h1 hg hl (by rintro _ ⟨g, rfl⟩; exact ⟨hp g, h g⟩) k
theorem VAll.consC {F : Value → List Fact → List ORow → St} {R : Value → List Fact → List ORow → Prop} {sS : St} {n i : Nat} {is : List Nat} {listed listed' : Array Bool} (ho : ops[i]? = some o) (h1 : Op1 P E o s (fun s' => ∃ v G own, R v G own ∧ s' = F v G own)) (hg : guardOn ops s o = some true) (hl : listed.setIfInBounds i true = listed') (h : ∀ v G own, R v G own → Part (F v G own) sS ∧ VA P E ops Q sS n listed' (F v G own)) (k : VAll P E ops Q sS n listed s is) : VAll P E ops Q sS n listed s (i :: is) :=
  VAll.cons ho h1 hg hl (by rintro _ ⟨v, G, own, hr, rfl⟩; exact h v G own hr) k
/-- What comes behind a set of operations, whatever their order, is told once. -/
theorem VA.memo {sS0 s' : St} {n n' : Nat} {L L0 : Array Bool} (sS' : St) (h : VA P E ops Q sS' n' L s') (k : VA P E ops Q sS' n' L s' → VA P E ops Q sS0 n L0 s) : VA P E ops Q sS0 n L0 s := k h
theorem VA.to {sS s' : St} {n : Nat} {L : Array Bool} {bs rs : List Nat} (h : VA P E ops Q sS n L s') (hl : Le s s' bs rs) : VA P E ops Q sS n L s := fun a w hi => h a w (hi.le hl)
/-- The value of a cut. -/
def cutV (A : Option Addr) (l h c sz : Nat) : Value := .slice (if c = l then A else A.map (·.add (l * sz))) (h - l) (c - l)
theorem Inv.cut {A : Option Addr} {l h c sz : Nat} {es : List (List Value)} (hi : Inv E s a w) (hf : Fact.row (.slice A es.length c) sz es ∈ s.f) (hlh : l ≤ h) (hhn : h ≤ es.length) : Inv E { s with f := .row (cutV A l h c sz) sz ((es.take h).drop l) :: s.f } a w := by
  obtain ⟨hfl, A', c', e, h1, h2, h3, h4⟩ := hi.facts _ hf
  simp only [Value.slice.injEq, true_and] at e
  obtain ⟨rfl, rfl⟩ := e
  refine hi.mem rfl rfl hi.below (fun k hk => ⟨hk, rfl⟩) (fun x hx => ?_) (fun x hx => .inl ⟨hx, rfl⟩) (fun x hx => .inl ⟨hx, fun _ _ => rfl⟩) hi.nodup
  rcases List.mem_cons.1 hx with rfl | hx
  · right
    have hlen : ((es.take h).drop l).length = h - l := by simp; omega
    refine ⟨fun ls hls => hfl ls (List.mem_of_mem_take (List.mem_of_mem_drop hls)), _, _, by rw [hlen]; rfl, by omega, by omega, fun hp => ?_, fun j ls hj ad hA q u hu => ?_⟩
    · obtain ⟨ad, rfl, hok⟩ := h3 (by omega)
      have hne : c ≠ l := by omega
      rw [if_neg hne]
      refine ⟨_, rfl, ?_⟩
      have hb : (ad.add (l * sz)).block = ad.block := by unfold Addr.add; split <;> rfl
      exact hb ▸ hok
    · have hjl := (List.getElem?_eq_some_iff.1 hj).1
      have hne : c ≠ l := by omega
      rw [if_neg hne] at hA
      obtain ⟨ad0, rfl, rfl⟩ := Option.map_eq_some_iff.1 hA
      rw [List.getElem?_drop, List.getElem?_take] at hj
      split at hj
      · rw [add_add]
        have := h4 _ _ hj ad0 rfl q u hu
        rw [Nat.add_mul, Nat.add_assoc] at this
        exact this
      · cases hj
  · exact .inl hx
theorem op_cut {t e sz c : Nat} {agg : Bool} {es : List (List Value)} {lo hi : Option Operand} {A : Option Addr} {l h : Nat} (ht : P.underlying t = some (.slice e)) (hT : TI P e agg sz) (hx : s.ev x = some (.slice A es.length c)) (hc : es.length ≤ c) (hb : boundsOk s lo hi l h es.length) (hn : d < s.n := by exact ltn rfl) :
    OpV P E ⟨some d, .slice t x lo hi none, ty, pos, after, gd⟩ s d (cutV A l h c sz) :=
  op_val rfl hn (fun a ha w => by
    have hrun := run_bounds (P := P) (w := w) (b := true) hb ha hc
    simp [execOp, ha x _ hx, Instr.sliceAt, Instr.slice, run_underlying ht, hrun, run_size hT w, cutV])
/-- A part of a row that is only read is taken first. -/
theorem VA.cut {t e sz m : Nat} {agg : Bool} {es es3 : List (List Value)} {lo hi : Option Operand} {n i : Nat} {listed listed' : Array Bool} (ho : ops[i]? = some ⟨some d, .slice t x lo hi none, ty, pos, after, gd⟩) (j l h : Nat) (hm : es.length = m) (h3 : (es.take h).drop l = es3) (ht : P.underlying t = some (.slice e)) (hT : TI P e agg sz) (hx : St.ev ⟨n0, t0, f1, b1, r1⟩ x = some v) (hf : f1[j]? = some (.row v sz es)) (hb : boundsOk ⟨n0, t0, f1, b1, r1⟩ lo hi l h m) (hn : d < n0)
    (hg : guardOn ops ⟨n0, t0, f0, b0, r0⟩ ⟨some d, .slice t x lo hi none, ty, pos, after, gd⟩ = some true) (hs : Region.noSelect ops = true) (hfr : Region.free .any ops listed i = true) (hr : (Region.ready .any ops listed).contains i = true) (hl : listed.setIfInBounds i true = listed') (hp : Part ⟨n0, t0, f0, b0, r0⟩ ⟨n1, t1, f1, b1, r1⟩)
    (hQ : ∀ v' c a w, Q (.panic c) (a.put (some d) v') w → Q (.panic c) a w) (k : ∀ v', VA P E ops Q ⟨n1, t1, f1, b1, r1⟩ n listed' ⟨n0, (d, v') :: t0, .row v' sz es3 :: f0, b0, r0⟩) : VA P E ops Q ⟨n1, t1, f1, b1, r1⟩ (n + 1) listed ⟨n0, t0, f0, b0, r0⟩ := by
  subst h3
  subst hm
  intro a w hin
  have hm' := List.mem_of_getElem? hf
  have hin0 := hp.f.mem _ hm'
  obtain ⟨_, A, c, rfl, h1, _⟩ := hin.facts _ hin0
  have hb' := hb
  obtain ⟨_, _, hlh, hhn⟩ := hb'
  refine (VA.va (v := cutV A l h c sz) ho (op_cut ht hT hx h1 hb hn) hg hs hfr hr hl hp (hQ _) ?_) a w hin
  intro a' w' hi'
  exact k _ a' w' (hi'.cut hin0 hlh hhn)
theorem op_buildA {t e sz m : Nat} {agg : Bool} {zs : List Value} {parts : List (Nat × Operand)} {vals : List (Nat × Value)} {vcs : List (Nat × List Value)} {cells : List Value} (ht : P.underlying t = some (.array m e)) (hT : TI P e agg sz) (hz : (P.info? t).bind (·.zero) = some (.agg zs.toArray))
    (hp : parts.map (fun p => (s.ev p.2).map (p.1, ·)) = vals.map some) (hcs : Each (fun p q => p.1 = q.1 ∧ Cells s p.2 q.2) vals vcs) (hf : fillL (fun i => some (i * sz, sz)) zs vcs = some cells) (hn : d < s.n := by exact ltn rfl) :
    OpV P E ⟨some d, .build t parts.toArray, ty, pos, after, gd⟩ s d (.agg cells.toArray) :=
  ⟨rfl, hn, fun a w ha hm => by
    have hff : Instr.fill (fun i => some (i * sz, sz)) zs.toArray vals = some cells.toArray := by
      refine fill_eq ?_ hf
      clear hf hp
      induction hcs with
      | nil => exact .nil
      | cons h k ih => exact .cons ⟨h.1, (h.2.all hm).1⟩ ih
    have hpp : (parts.toArray.map fun (i, x) => (i, a.eval x)).toList = vals := by
      simp only [List.map_toArray]
      clear hf hcs hff
      induction parts generalizing vals with
      | nil => cases vals <;> simp_all
      | cons p ps ih =>
        cases vals with
        | nil => simp at hp
        | cons q qs =>
          simp only [List.map_cons, List.cons.injEq] at hp ⊢
          refine ⟨?_, ih hp.2⟩
          obtain ⟨u, hu, hq⟩ := Option.map_eq_some_iff.1 hp.1
          rw [← hq, ha _ _ hu]
    have hzv : (zeroValue t).run P w = .ok (.agg zs.toArray) w := by
      cases hq : P.info? t with
      | none => rw [hq] at hz; cases hz
      | some i =>
        rw [hq] at hz
        have : i.zero = some (.agg zs.toArray) := by simpa using hz
        simp [zeroValue, typeInfo, hq, this]
    simp only [execOp, Instr.build, Sem.run_bind, hzv, Result.andThen_ok, run_underlying ht, hpp, Value.cells, run_size hT w]
    rw [hff]
    rfl⟩
theorem op_indexA {t e sz m : Nat} {agg : Bool} {k : IntKind} {j : Int} {xs : List Value} (c : Nat) (ht : P.underlying t = some (.array m e)) (hT : TI P e agg sz) (hx : s.ev x = some (.agg xs.toArray)) (hy : s.ev y = some (.int k j)) (hj : j = (c : Int)) (hc : c < m) (hl : ((xs.drop (c * sz)).take sz).length = sz) (h1 : agg = false → sz = 1) (hv : valOf agg ((xs.drop (c * sz)).take sz) = v) (hn : d < s.n := by exact ltn rfl) :
    OpV P E ⟨some d, .index t x y, ty, pos, after, gd⟩ s d v :=
  op_val rfl hn (fun a ha w => by
    subst hv
    subst hj
    have hlt : (c : Int) < (m : Int) := by omega
    have hp := run_part (P := P) (off := c * sz) hT hl h1 w
    simp [execOp, ha x _ hx, ha y _ hy, Instr.index, asIntOf, run_underlying ht, run_size hT w, hc, hp])
def bitsI (op : BinOp) (k : IntKind) (m n : Int) : Option Int := match op with
  | .and => some (Go.bits .and k m n)
  | .or => some (Go.bits .or k m n)
  | .xor => some (Go.bits .xor k m n)
  | .andNot => some (Go.bits .andNot k m n)
  | _ => none
theorem op_bits {op : BinOp} {t t' : TypeId} {k : IntKind} {m n q : Int} (hx : s.ev x = some (.int k m)) (hy : s.ev y = some (.int k n)) (hq : bitsI op k m n = some q) (hn : d < s.n := by exact ltn rfl) : OpV P E ⟨some d, .binOp op t x y t', ty, pos, after, gd⟩ s d (.int k q) :=
  op_val rfl hn (fun a ha w => by
    cases op <;> simp only [bitsI, Option.some.injEq] at hq <;> first | (subst hq; simp [execOp, ha x _ hx, ha y _ hy, eqGuard, binOp, intBits_and, intBits_or, intBits_xor, intBits_andNot]; done) | cases hq)
theorem op_shl {t t' : TypeId} {k yk : IntKind} {m n q : Int} (hx : s.ev x = some (.int k m)) (hy : s.ev y = some (.int yk n)) (h0 : 0 ≤ n) (hq : k.wrap (m * 2 ^ min n.toNat k.bits) = q) (hn : d < s.n := by exact ltn rfl) : OpV P E ⟨some d, .binOp .shl t x y t', ty, pos, after, gd⟩ s d (.int k q) :=
  op_val rfl hn (fun a ha w => by
    subst hq
    have h : ¬ n < 0 := by omega
    simp [execOp, ha x _ hx, ha y _ hy, eqGuard, binOp, Op.shift, h])
theorem op_shr {t t' : TypeId} {k yk : IntKind} {m n q : Int} (hx : s.ev x = some (.int k m)) (hy : s.ev y = some (.int yk n)) (h0 : 0 ≤ n) (hq : m.fdiv (2 ^ min n.toNat k.bits) = q) (hn : d < s.n := by exact ltn rfl) : OpV P E ⟨some d, .binOp .shr t x y t', ty, pos, after, gd⟩ s d (.int k q) :=
  op_val rfl hn (fun a ha w => by
    subst hq
    have h : ¬ n < 0 := by omega
    simp [execOp, ha x _ hx, ha y _ hy, eqGuard, binOp, Op.shift, h])
/-- What the print program's road has shown of a function. -/
theorem VCalls.of {f : FuncId} {args : List Value} {r : Value} (h : ∀ w : World, Calls P f args.toArray w fun e w' => e = .returned r ∧ Below w.heap.size w w') : VCalls P f args [] (fun v G own => v = r ∧ G = [] ∧ own = []) :=
  fun C w _ _ => (h w).mono fun e w' hq => ⟨r, [], [], hq.1, ⟨rfl, rfl, rfl⟩, by simp, by simp, by simp [ownBs], hq.2⟩
end
end Go.Proofs.YtipeglbeongfmaaV
