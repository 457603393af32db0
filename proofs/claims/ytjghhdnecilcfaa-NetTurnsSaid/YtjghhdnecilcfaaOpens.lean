/- What data that can be read come to: of each kind of value (whole numbers, bools, texts, slices, structs, in each other), a Lean value that the cells say; no statement of the program. -/
import Derived.Test.YtjghhdnecilcfaaWWords
import Derived.ChangeArms
import Derived.WideShapes
namespace Go.Proofs.YtjghhdnecilcfaaW.Opens
open Go.RowKit Go.Proofs.YtjghhdnecilcfaaW.PrintWords
set_option linter.unusedVariables false

/-- Whatever can be read as a datum of type t is told by a value of kind d that is ok. -/
structure Opens (P : Program) (t : TypeId) {α : Type} (d : Kd α) (ok : α → Prop) : Prop where
  open_ : ∀ {H : Type} (enc : TypeId × Value → H) (w : World) (base : Nat) (sp : Nat → Bool) (held : Bool) (fuel : Nat) (cs : List Value) (x : DataW H × List MemPlace),
    DataW.trod enc P w base sp held fuel t cs = some x → ∃ a : α, d.K w a cs ∧ ok a
  sz : d.sz = P.cellsOf t

variable {P : Program}

theorem Opens.int {t : TypeId} {k : IntKind} (ht : P.underlying t = some (.int k)) (hs : P.cellsOf t = 1) : Opens P t (Kd.int k) (fun n => (Lit.int k n).wf = true) :=
  ⟨fun enc w base sp held fuel cs x h => by
    obtain ⟨n, rfl, _, hw⟩ := DataW.trod_int ht h
    exact ⟨n, rfl, hw⟩, hs.symm⟩
theorem Opens.bool {t : TypeId} (ht : P.underlying t = some .bool) (hs : P.cellsOf t = 1) : Opens P t Kd.bool (fun _ => True) :=
  ⟨fun enc w base sp held fuel cs x h => by
    obtain ⟨b, rfl, _⟩ := DataW.trod_bool ht h
    exact ⟨b, rfl, trivial⟩, hs.symm⟩
theorem Opens.string {t : TypeId} (ht : P.underlying t = some .string) (hs : P.cellsOf t = 1) : Opens P t Kd.string (fun s => s.size ≤ 9223372036854775807) :=
  ⟨fun enc w base sp held fuel cs x h => by
    obtain ⟨s, rfl, _, hw⟩ := DataW.trod_string ht h
    exact ⟨s, rfl, hw⟩, hs.symm⟩

theorem choose_list {α : Type} {p : Nat → α → Prop} : ∀ n : Nat, (∀ i, i < n → ∃ a, p i a) → ∃ l : List α, l.length = n ∧ ∀ i a, l[i]? = some a → p i a
  | 0, _ => ⟨[], rfl, fun i a h => by simp at h⟩
  | n + 1, h => by
    obtain ⟨l, hl, hp⟩ := choose_list n (fun i hi => h i (by omega))
    obtain ⟨a, ha⟩ := h n (by omega)
    refine ⟨l ++ [a], by simp [hl], fun i b hb => ?_⟩
    by_cases hi : i < l.length
    · rw [List.getElem?_append_left hi] at hb
      exact hp i b hb
    · rw [List.getElem?_append_right (by omega)] at hb
      have hi0 : i - l.length = 0 := by
        by_cases h0 : i - l.length = 0
        · exact h0
        · rw [List.getElem?_eq_none (by simp; omega)] at hb
          cases hb
      rw [hi0] at hb
      simp at hb
      subst hb
      have : i = n := by omega
      subst this
      exact ha

theorem Opens.slice {t e : TypeId} {α : Type} {d : Kd α} {ok : α → Prop} (ht : P.underlying t = some (.slice e)) (hs : P.cellsOf t = 1) (he : Opens P e d ok) :
    Opens P t (Kd.slice e d) (fun l => l.length ≤ 9223372036854775807 ∧ ∀ x ∈ l, ok x) :=
  ⟨fun enc w base sp held fuel cs x h => by
    rcases DataW.trod_slice ht h with ⟨rfl, _⟩ | ⟨a, len, cap, elems, rest, n, _, rfl, _, hb, hl, hm, hlen, hel, _, _⟩
    · exact ⟨[], ⟨none, 0, rfl, Nat.le_refl _, rfl, by simp, fun h => absurd h (Nat.lt_irrefl 0)⟩, by simp, by simp⟩
    · have each : ∀ i, i < len → ∃ y : α, (∃ c : List Value, c.length = d.sz ∧ d.K w y c ∧ ∀ j u, c[j]? = some u → w.cell? (a.add (i * d.sz + j)) = some u) ∧ ok y := by
        intro i hi
        have h1 := hel i hi
        rw [List.getElem?_eq_getElem (by omega), Option.bind_eq_some_iff] at h1
        obtain ⟨c, hc, h2⟩ := h1
        obtain ⟨y, hy, hok⟩ := he.open_ enc w base sp held n c _ h2
        obtain ⟨hcl, hcc⟩ := World.cells?_some hc
        refine ⟨y, ⟨c, d.K_len hy, hy, fun j u hu => ?_⟩, hok⟩
        have hj : j < c.length := (List.getElem?_eq_some_iff.1 hu).1
        have hz := hcc.2 j (by rw [← hcc.1]; exact hj)
        rw [Addr.add_add, ← he.sz, hu] at hz
        exact hz
      obtain ⟨l, hl1, hl2⟩ := choose_list len each
      subst hl1
      refine ⟨l, ⟨some a, cap, rfl, hl, rfl, Nat.le_trans hl hm, fun _ => ⟨a, rfl, fun j p hp => (hl2 j p hp).1⟩⟩, Nat.le_trans hl hm, fun x hx => ?_⟩
      obtain ⟨i, hi, rfl⟩ := List.mem_iff_getElem.1 hx
      exact (hl2 i _ (List.getElem?_eq_getElem hi)).2, hs.symm⟩

/-- The fields of a struct, from a place on. -/
structure OpensF (P : Program) (fs : List Field) (off : Nat) {α : Type} (d : Kd α) (ok : α → Prop) : Prop where
  open_ : ∀ {H : Type} (enc : TypeId × Value → H) (w : World) (base : Nat) (sp : Nat → Bool) (held : Bool) (fuel : Nat) (cs : List Value),
    (∀ f ∈ fs, ∃ x, DataW.trod enc P w base sp held fuel f.type ((cs.drop f.offset).take (P.cellsOf f.type)) = some x) → cs.length = off + d.sz → ∃ a : α, d.K w a (cs.drop off) ∧ ok a

theorem OpensF.one {f : Field} {off : Nat} {α : Type} {d : Kd α} {ok : α → Prop} (ho : f.offset = off) (h : Opens P f.type d ok) : OpensF P [f] off d ok :=
  ⟨fun enc w base sp held fuel cs hf hl => by
    obtain ⟨x, hx⟩ := hf f (by simp)
    rw [ho, ← h.sz, List.take_of_length_le (by rw [List.length_drop]; omega)] at hx
    exact h.open_ enc w base sp held fuel _ x hx⟩
theorem OpensF.cons {f : Field} {fs : List Field} {off : Nat} {α β : Type} {d : Kd α} {d' : Kd β} {ok : α → Prop} {ok' : β → Prop} (ho : f.offset = off) (h : Opens P f.type d ok) (h' : OpensF P fs (off + d.sz) d' ok') :
    OpensF P (f :: fs) off (Kd.pair d d') (fun p => ok p.1 ∧ ok' p.2) :=
  ⟨fun enc w base sp held fuel cs hf hl => by
    have hsz : (Kd.pair d d').sz = d.sz + d'.sz := rfl
    obtain ⟨x, hx⟩ := hf f (by simp)
    rw [ho, ← h.sz] at hx
    obtain ⟨a, ha, hok⟩ := h.open_ enc w base sp held fuel _ x hx
    obtain ⟨b, hb, hok'⟩ := h'.open_ enc w base sp held fuel cs (fun g hg => hf g (List.mem_cons_of_mem _ hg)) (by omega)
    refine ⟨(a, b), ⟨_, _, ?_, ha, hb⟩, hok, hok'⟩
    rw [← List.drop_drop, List.take_append_drop]⟩
theorem Opens.struct {t : TypeId} {fs : Array Field} {α β : Type} {d : Kd α} {ok : α → Prop} (ht : P.underlying t = some (.struct fs)) (h : OpensF P fs.toList 0 d ok) (hs : d.sz = P.cellsOf t) (g : β → α) (hg : ∀ a, ∃ b, g b = a) :
    Opens P t (Kd.iso d g) (fun b => ok (g b)) :=
  ⟨fun enc w base sp held fuel cs x hx => by
    obtain ⟨xs, n, _, _, hl, hlen, hf⟩ := DataW.trod_struct ht hx
    obtain ⟨a, ha, hok⟩ := h.open_ enc w base sp held n cs (fun f hfm => by
      obtain ⟨i, hi, rfl⟩ := List.mem_iff_getElem.1 hfm
      have hi' : i < fs.size := by simpa using hi
      have := hf i fs[i] (by simp [hi'])
      rw [List.getElem?_eq_getElem (by omega)] at this
      exact ⟨_, by simpa using this⟩) (by omega)
    obtain ⟨b, rfl⟩ := hg a
    exact ⟨b, ha, hok⟩, hs⟩
theorem Opens.mono {t : TypeId} {α : Type} {d : Kd α} {ok ok' : α → Prop} (h : Opens P t d ok) (hok : ∀ a, ok a → ok' a) : Opens P t d ok' :=
  ⟨fun enc w base sp held fuel cs x hx => by
    obtain ⟨a, ha, h1⟩ := h.open_ enc w base sp held fuel cs x hx
    exact ⟨a, ha, hok a h1⟩, h.sz⟩
end Go.Proofs.YtjghhdnecilcfaaW.Opens
