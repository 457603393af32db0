/- A text's builder (strings.Builder): two blocks, its own and its bytes', as one fact. -/
import Derived.Test.YtipeglbeongfmaaV21
import Derived.Shelf.Strings.BuilderK
namespace Go.Proofs.YtipeglbeongfmaaV
open Go Go.RowKit Go.Shelf
set_option linter.unusedVariables false
set_option linter.unusedSimpArgs false
def isBld (T e : TypeId) (b g : Nat) (bs : List Value) (o o' : Obj) : Prop :=
  ∃ pp v, (pp = .pointer none ∨ pp = .pointer (some ⟨b, 0, none⟩)) ∧ o = .cells #[pp, v] T (0, 0) ∧ v.ownBlock ≠ some b ∧ ((v = .slice none 0 0 ∧ bs = []) ∨ ∃ cap cur fz, v = .slice (some ⟨g, 0, none⟩) bs.length cap ∧ b ≤ g ∧ o' = .cells cur e fz ∧ fz.2 ≤ bs.length ∧ bs.length ≤ cap ∧ cap ≤ maxLen ∧ cur.size = cap ∧ cur.toList.take bs.length = bs)
abbrev Fact.bld (T e : TypeId) (b g : Nat) (x : ByteArray) : Fact := .ob2 b g (isBld T e b g (Lib.strCells x))
theorem isBld.is {T e : TypeId} {b g : Nat} {bs : List Value} {o o' : Obj} {w : World} (h : isBld T e b g bs o o') (h1 : w.heap[b]? = some o) (h2 : w.heap[g]? = some o') : Lib.IsBuilderF T e b b bs w := by
  obtain ⟨pp, v, hp, rfl, hv, hr⟩ := h
  have hA : Lib.BuilderAtF T e b b pp bs w := by
    refine ⟨Nat.le_refl _, v, h1, ⟨by rw [Nat.mul_one], ?_⟩, hv⟩
    rcases hr with ⟨rfl, rfl⟩ | ⟨cap, cur, fz, rfl, hg, rfl, h3, h4, h5, h6, h7⟩
    · exact .inl ⟨rfl, rfl⟩
    · exact .inr ⟨g, cap, cur, fz, rfl, hg, h2, by rw [Nat.mul_one]; exact h3, h4, h5, by rw [Nat.mul_one]; exact h6, by rw [Nat.mul_one]; exact h7⟩
  rcases hp with rfl | rfl
  · exact .inl hA
  · exact .inr hA
theorem isBld.of {T e : TypeId} {b : Nat} {bs : List Value} {w : World} (h : Lib.BuilderAtF T e b b (.pointer (some ⟨b, 0, none⟩)) bs w) : ∃ g o o', b ≤ g ∧ w.heap[b]? = some o ∧ w.heap[g]? = some o' ∧ isBld T e b g bs o o' ∧ ∃ c T z, o' = .cells c T z := by
  obtain ⟨_, v, h1, ⟨h2, h3⟩, h4⟩ := h
  rcases h3 with ⟨rfl, h5⟩ | ⟨g, cap, cur, fz, rfl, hg, h6, h7, h8, h9, h10, h11⟩
  · exact ⟨b, _, _, Nat.le_refl _, h1, h1, ⟨_, _, .inr rfl, rfl, h4, .inl ⟨rfl, List.eq_nil_of_length_eq_zero h5⟩⟩, _, _, _, rfl⟩
  · exact ⟨g, _, _, hg, h1, h6, ⟨_, _, .inr rfl, rfl, h4, .inr ⟨cap, cur, fz, rfl, hg, rfl, by rw [Nat.mul_one] at h7; exact h7, h8, h9, by rw [Nat.mul_one] at h10; exact h10, by rw [Nat.mul_one] at h11; exact h11⟩⟩, _, _, _, rfl⟩
theorem strCells_app (x y : ByteArray) : Lib.strCells x ++ Lib.strCells y = Lib.strCells (x ++ y) := by
  rw [Lib.strCells_eq, Lib.strCells_eq, Lib.strCells_eq, ← Lib.byteCells_append, ByteArray.data_append, Array.toList_append]
/-- A fact over a block that bears no cells. -/
def Fact.firm : Fact → Prop
  | .ob2 k k' p => k = k' ∧ ∀ o o', p o o' → ∀ c T z, o ≠ .cells c T z
  | _ => False
theorem Fact.firm_ch {c cap : Nat} {l : List Value} {cl : Bool} : (Fact.ch c cap l cl).firm := by
  refine ⟨rfl, ?_⟩
  rintro o o' ⟨_, _, rfl⟩ _ _ _ e
  cases e

section
variable {P : Program} {E : Env} {w w' : World} {s s' : St} {a : Act} {o : Oper} {ops : Array Oper} {Q : Exit → Act → World → Prop} {d : Nat} {v u : Value} {x y z : Operand}
variable {m : Nat} {ty : TypeId} {pos : String} {after : Array Edge} {gd : Option (Nat × Bool)}
  {n0 n1 n2 : Nat} {t0 t1 t2 : List (Nat × Value)} {f0 f1 : List Fact} {b0 b1 : List (Nat × TypeId × List Value)} {r0 r1 : List (Value × TypeId × Nat × List (List Value))}

/-- .. where what is told of the world at the call is known throughout. -/
theorem VCalls.introF {f : FuncId} {fn : Func} {c : Code} {args : List Value} {F : List Fact} {R : Value → List Fact → List ORow → Prop} (hf : P.funcs[f]? = some fn) (hb : fn.body = some c) (hn : args.length ≤ fn.ntmps)
    (h : ∀ E : Env, (∀ x ∈ F, x.holds E.C E.w0) → (∀ k, E.C k → k < E.w0.heap.size) → E.R = none → E.D = [] → (∀ T, ¬ E.U T) → VC P E c (bodyPost P fn (RetP E.C E.w0 R)) ⟨fn.ntmps, argT 0 args, F, [], []⟩) : VCalls P f args F R := by
  intro C w hC hF
  refine calls_of_wp hf hb ((wpIn_wide (n := 0)).1 (h ⟨w, C, none, [], fun _ => False⟩ hF hC rfl rfl (fun _ h => h) _ _ ⟨Below.refl _ _, rfl, ?_, ?_, ?_, ?_, ?_, ?_⟩))
  · simp
    omega
  · intro k v hk
    obtain ⟨_, h2⟩ := argT_lookup args 0 k v hk
    have hlt := (List.getElem?_eq_some_iff.1 h2).1
    simp only [Nat.sub_zero] at h2 hlt
    simp only
    rw [Array.getElem?_append_left (by simpa using hlt)]
    simpa using h2
  · intro x hx
    exact Fact.mono (fun k hk => ⟨⟨.inl hk, hC k hk, by simp [St.blocks]⟩, rfl⟩) (hF x hx)
  · simp
  · simp
  · simp [St.blocks]

/-- A new builder's block. -/
theorem VC.toBld {c : Code} {g : Nat} {T e : TypeId} (i : Nat) (hU : ∀ T, ¬ E.U T) (hb : b0[i]? = some (g, T, [.pointer none, .slice none 0 0])) (h : E.w0.heap.size ≤ g → (∀ x ∈ f0, x.offB g) → VC P E c Q ⟨n0, t0, .bld T e g g ⟨#[]⟩ :: f0, b0.eraseIdx i, r0⟩) : VC P E c Q ⟨n0, t0, f0, b0, r0⟩ := by
  intro a w hi
  obtain ⟨h1, h2⟩ := hi.boxes _ (List.mem_of_getElem? hb)
  obtain ⟨z, hz, hh⟩ := h2
  have hz0 : z = (0, 0) := hz.elim id (fun h => absurd h.1 (hU _))
  subst hz0
  have hf := hi.freeze i hb
  have hok := (hf.facts _ (List.mem_cons_self ..)).1
  have hin : g ∈ St.blocks ⟨n0, t0, f0, b0, r0⟩ := List.mem_append_left _ (List.mem_map.2 ⟨_, List.mem_of_getElem? hb, rfl⟩)
  have hoff : ∀ x ∈ f0, x.offB g := by
    intro x hx
    have := hi.facts x hx
    cases x with
    | ob2 k k' p => exact ⟨fun e => this.1.1.2.2 (e ▸ hin), fun e => this.1.2.2.2 (e ▸ hin)⟩
    | loop k L st pe => exact fun e => this.1.2.2 (e ▸ hin)
    | blk k o => exact fun e => this.1.2.2 (e ▸ hin)
    | dfr k => exact fun e => this.1.2.2 (e ▸ hin)
    | _ => trivial
  refine h h1 hoff a w ⟨hf.below, hf.defers, hf.size, hf.tmps, fun x hx => ?_, hf.boxes, hf.rows, hf.nodup⟩
  rcases List.mem_cons.1 hx with rfl | hx
  · exact ⟨⟨hok, hok⟩, _, _, hh, hh, _, _, .inl rfl, rfl, by simp [Value.ownBlock], .inl ⟨rfl, rfl⟩⟩
  · exact hf.facts x (List.mem_cons_of_mem _ hx)

/-- Behind what writes only a builder's blocks. -/
theorem Inv.bldTo {T e : TypeId} {b g : Nat} {xs ys : ByteArray} {fs FE : List Fact} (hi : Inv E ⟨n0, t0, f0, [], []⟩ a w) (hb : E.w0.heap.size ≤ b) (hf : Fact.bld T e b g xs ∈ f0) (hfs : ∀ x ∈ fs, x ∈ f0 ∧ x.firm) (hFE : ∀ x ∈ FE, x.holds E.C E.w0) (hC : ∀ k, E.C k → k < E.w0.heap.size)
    (hA : Lib.BuilderAtF T e b b (.pointer (some ⟨b, 0, none⟩)) (Lib.strCells ys) w') (hB : Below b w w') (hK : Lib.OthersKept e (some b) w w') : ∃ g', (∀ x ∈ fs, x.offB g') ∧ Inv E ⟨n0, t0, .bld T e b g' ys :: (fs ++ FE), [], []⟩ a w' := by
  obtain ⟨hok, o1, o2, h1, h2, h3⟩ := hi.facts _ hf
  obtain ⟨g', p1, p2, hg', q1, q2, q3, c4, T4, z4, q4⟩ := isBld.of hA
  have hbel : Below E.w0.heap.size E.w0 w' := ⟨hB.os.trans hi.below.os, hB.tape.trans hi.below.tape, hB.output.trans hi.below.output, Nat.le_trans hi.below.size hB.size, fun k hk => (hB.block k (by omega)).trans (hi.below.block k hk)⟩
  have keep : ∀ x ∈ fs, x.holds (ok E ⟨n0, t0, .bld T e b g' ys :: (fs ++ FE), [], []⟩ w') w' := by
    intro x hx
    obtain ⟨hx1, hx2⟩ := hfs x hx
    have hx3 := hi.facts x hx1
    cases x with
    | ob2 k k' p =>
      obtain ⟨rfl, hp⟩ := hx2
      obtain ⟨hk, o, o', e1, e2, e3⟩ := hx3
      obtain rfl : o = o' := Option.some.inj (e1.symm.trans e2)
      have hne : some k ≠ some b := by
        intro h
        obtain rfl := Option.some.inj h
        obtain ⟨pp, v, _, rfl, _⟩ := h3
        exact hp _ _ e3 _ _ _ (Option.some.inj (e1.symm.trans h1))
      have e4 := hK k o e1 hne (fun c fz => hp _ _ e3 c e fz)
      have hlt := (Array.getElem?_eq_some_iff.1 e4).1
      exact ⟨⟨⟨hk.1.1, hlt, by simp [St.blocks]⟩, hk.1.1, hlt, by simp [St.blocks]⟩, o, o, e4, e4, e3⟩
    | _ => exact hx2.elim
  refine ⟨g', fun x hx => ?_, hbel, hi.defers, hi.size, hi.tmps, fun x hx => ?_, by simp, by simp, by simp [St.blocks]⟩
  · have hx4 := keep x hx
    obtain ⟨hx1, hx2⟩ := hfs x hx
    cases x with
    | ob2 k k' p =>
      obtain ⟨rfl, hp⟩ := hx2
      obtain ⟨hk, o, o', e1, e2, e3⟩ := hx4
      have hne : k ≠ g' := by
        rintro rfl
        exact hp _ _ e3 _ _ _ ((Option.some.inj (e1.symm.trans q2)).trans q4)
      exact ⟨hne, hne⟩
    | _ => exact hx2.elim
  rcases List.mem_cons.1 hx with rfl | hx
  · exact ⟨⟨⟨.inr hb, (Array.getElem?_eq_some_iff.1 q1).1, by simp [St.blocks]⟩, .inr (Nat.le_trans hb hg'), (Array.getElem?_eq_some_iff.1 q2).1, by simp [St.blocks]⟩, p1, p2, q1, q2, q3⟩
  rcases List.mem_append.1 hx with hx | hx
  · exact keep x hx
  · exact Fact.mono (fun k hk => ⟨⟨.inl hk, Nat.lt_of_lt_of_le (hC k hk) hbel.size, by simp [St.blocks]⟩, hbel.block k (hC k hk)⟩) (hFE x hx)
theorem o_write {ρ : Ren} {T e : TypeId} {f : FuncId} {b g : Nat} {xs ys : ByteArray} {ats : Array TypeId} {cal : Operand} (fs FE : List Fact) (hF : FOk P f) (L : Lays.n166 P ρ) (X : Builder.Extra P ρ) (hf' : ρ.f 166 = f) (hT : ρ.t 72 = T) (he : ρ.t 5 = e) (hb : E.w0.heap.size ≤ b) (hf : Fact.bld T e b g xs ∈ f0) (hfs : ∀ x ∈ fs, x ∈ f0 ∧ x.firm) (hFE : ∀ x ∈ FE, x.holds E.C E.w0) (hC : ∀ k, E.C k → k < E.w0.heap.size)
    (hc : St.ev ⟨n0, t0, f0, [], []⟩ cal = some (.func (.func f) #[] #[])) (hx : St.ev ⟨n0, t0, f0, [], []⟩ x = some (.pointer (some ⟨b, 0, none⟩))) (hy : St.ev ⟨n0, t0, f0, [], []⟩ y = some (.string ys)) (hlen : xs.size + ys.size ≤ 140737488355328) (hn : d < n0 := by exact ltn rfl) :
    Op1 P E ⟨some d, .call { callee := .value cal, args := #[x, y], argTypes := ats }, ty, pos, after, gd⟩ ⟨n0, t0, f0, [], []⟩ (fun s' => ∃ g', (∀ x ∈ fs, x.offB g') ∧ s' = ⟨n0, (d, .tuple #[.int .i64 ys.size, .nilIface]) :: t0, .bld T e b g' (xs ++ ys) :: (fs ++ FE), [], []⟩) := by
  subst hf' hT he
  intro a w K Q hi hk
  obtain ⟨hok, o1, o2, h1, h2, h3⟩ := hi.facts _ hf
  have hrun : (execOp a.eval ⟨some d, .call { callee := .value cal, args := #[x, y], argTypes := ats }, ty, pos, after, gd⟩).run P w = .ok (.enter (ρ.f 166) #[.pointer (some ⟨b, 0, none⟩), .string ys]) w := by
    have h4 := run_call (P := P) (w := w) (caps := #[]) (c := { callee := .value cal, args := #[x, y], argTypes := ats }) (t := ty) (ρ := a.eval) hF rfl (hi.ev hc)
    have h5 : (#[x, y].map a.eval) ++ #[] = #[.pointer (some ⟨b, 0, none⟩), .string ys] := by simp [hi.ev hx, hi.ev hy]
    rw [← h5]
    exact h4
  refine wo_enter hrun ?_
  refine (Any.Builder_WriteString_k L X b b (Lib.strCells xs) ys w (h3.is h1 h2) (by rw [Lib.strCells_length]; exact hlen) (Nat.le_of_lt hok.1.2.1)).mono ?_
  rintro e w2 ⟨rfl, hA, hB, hK⟩
  rw [strCells_app] at hA
  obtain ⟨g', hoff, hi2⟩ := hi.bldTo hb hf hfs hFE hC hA hB hK
  exact hk _ _ _ ⟨g', hoff, rfl⟩ (hi2.put hn _)
theorem o_bstring {ρ : Ren} {T e : TypeId} {f : FuncId} {b g : Nat} {xs : ByteArray} {ats : Array TypeId} {cal : Operand} (hF : FOk P f) (L : Lays.n169 P ρ) (X : Builder.Extra P ρ) (hf' : ρ.f 169 = f) (hT : ρ.t 72 = T) (he : ρ.t 5 = e) (hb : E.w0.heap.size ≤ b) (hf : Fact.bld T e b g xs ∈ f0)
    (hc : St.ev ⟨n0, t0, f0, [], []⟩ cal = some (.func (.func f) #[] #[])) (hx : St.ev ⟨n0, t0, f0, [], []⟩ x = some (.pointer (some ⟨b, 0, none⟩))) (hn : d < n0 := by exact ltn rfl) :
    Op1 P E ⟨some d, .call { callee := .value cal, args := #[x], argTypes := ats }, ty, pos, after, gd⟩ ⟨n0, t0, f0, [], []⟩ (· = ⟨n0, (d, .string xs) :: t0, [], [], []⟩) := by
  subst hf' hT he
  intro a w K Q hi hk
  obtain ⟨hok, o1, o2, h1, h2, h3⟩ := hi.facts _ hf
  have hrun : (execOp a.eval ⟨some d, .call { callee := .value cal, args := #[x], argTypes := ats }, ty, pos, after, gd⟩).run P w = .ok (.enter (ρ.f 169) #[.pointer (some ⟨b, 0, none⟩)]) w := by
    have h4 := run_call (P := P) (w := w) (caps := #[]) (c := { callee := .value cal, args := #[x], argTypes := ats }) (t := ty) (ρ := a.eval) hF rfl (hi.ev hc)
    have h5 : (#[x].map a.eval) ++ #[] = #[.pointer (some ⟨b, 0, none⟩)] := by simp [hi.ev hx]
    rw [← h5]
    exact h4
  refine wo_enter hrun ?_
  have hx5 : (⟨xs.data.toList.toArray⟩ : ByteArray) = xs := by simp
  refine (Any.Builder_String_any_k L X b b xs.data.toList w (h3.is h1 h2) (Nat.le_of_lt hok.1.2.1)).mono ?_
  rintro e w2 ⟨rfl, _, hB, _⟩
  rw [hx5]
  have hbel : Below E.w0.heap.size E.w0 w2 := ⟨hB.os.trans hi.below.os, hB.tape.trans hi.below.tape, hB.output.trans hi.below.output, Nat.le_trans hi.below.size hB.size, fun k hk => (hB.block k (by omega)).trans (hi.below.block k hk)⟩
  have hi2 : Inv E ⟨n0, t0, [], [], []⟩ a w2 := ⟨hbel, hi.defers, hi.size, hi.tmps, by simp, by simp, by simp, by simp [St.blocks]⟩
  exact hk _ _ _ rfl (hi2.put hn _)
end
end Go.Proofs.YtipeglbeongfmaaV
