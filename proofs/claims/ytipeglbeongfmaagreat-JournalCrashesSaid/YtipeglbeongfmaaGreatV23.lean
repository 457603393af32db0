/- Short names for the steps of a walk: what is settled by computing comes last, and by itself. -/
import Derived.Test.YtipeglbeongfmaaGreatV20
namespace Go.Proofs.YtipeglbeongfmaaGreatV
open Go Go.RowKit
set_option linter.unusedVariables false
section
variable {P : Program} {E : Env} {s : St} {ops : Array Oper} {o : Oper} {rest : List Oper} {Q : Exit → Act → World → Prop} {d : Nat} {v u : Value} {ty : TypeId} {pos : String} {after : Array Edge} {gd : Option (Nat × Bool)} {x y z : Operand} {c1 c2 : Code} {id : Nat} {l : List Oper}
  {n0 : Nat} {t0 : List (Nat × Value)} {f0 f1 : List Fact} {b0 b1 : List (Nat × TypeId × List Value)} {r0 r1 : List (Value × TypeId × Nat × List (List Value))} {n1 : Nat} {t1 : List (Nat × Value)}
theorem sq (h : VC P E c1 (Exit.then (c2.wpIn E.F 0 P Q) Q) s) : VC P E (.seq c1 c2) Q s := VC.seq h
theorem rg (h : VL P E l.toArray Q l s) : VC P E (.region id l.toArray false) Q s := VC.region h
theorem sr (h : VL P E l.toArray (Exit.then (c2.wpIn E.F 0 P Q) Q) l s) : VC P E (.seq (.region id l.toArray false) c2) Q s := VC.seq (VC.region h)
theorem dn (h : VN E Q s) : VL P E ops Q [] s := VL.done h
theorem th (h : VC P E c1 Q s) : VN E (Exit.then (c1.wpIn E.F 0 P Q) Q) s := VN.then h
theorem dt (h : VC P E c1 Q s) : VL P E ops (Exit.then (c1.wpIn E.F 0 P Q) Q) [] s := VL.done (VN.then h)
theorem ds (h : VC P E c1 (Exit.then (c2.wpIn E.F 0 P Q) Q) s) : VL P E ops (Exit.then ((Code.seq c1 c2).wpIn E.F 0 P Q) Q) [] s := VL.done (VN.then (VC.seq h))
theorem dr (h : VL P E l.toArray Q l s) : VL P E ops (Exit.then ((Code.region id l.toArray false).wpIn E.F 0 P Q) Q) [] s := VL.done (VN.then (VC.region h))
theorem nx (h : VL P E l.toArray (Exit.then (c2.wpIn E.F 0 P Q) Q) l s) : VL P E ops (Exit.then ((Code.seq (.region id l.toArray false) c2).wpIn E.F 0 P Q) Q) [] s := VL.done (VN.then (VC.seq (VC.region h)))
theorem ts (h : VC P E c1 (Exit.then (c2.wpIn E.F 0 P Q) Q) s) : VN E (Exit.then ((Code.seq c1 c2).wpIn E.F 0 P Q) Q) s := VN.then (VC.seq h)
theorem tr (h : VL P E l.toArray Q l s) : VN E (Exit.then ((Code.region id l.toArray false).wpIn E.F 0 P Q) Q) s := VN.then (VC.region h)
theorem tx (h : VL P E l.toArray (Exit.then (c2.wpIn E.F 0 P Q) Q) l s) : VN E (Exit.then ((Code.seq (.region id l.toArray false) c2).wpIn E.F 0 P Q) Q) s := VN.then (VC.seq (VC.region h))
theorem sk (h : VC P E c1 Q s) : VC P E .skip (Exit.then (c1.wpIn E.F 0 P Q) Q) s := VC.skip (VN.then h)
theorem ct {c : Operand} (h : VC P E c1 Q s) (hc : s.ev c = some (.bool true) := by rfl) : VC P E (.cond c c1 c2) Q s := VC.cond_t hc h
theorem cf {c : Operand} (h : VC P E c2 Q s) (hc : s.ev c = some (.bool false) := by rfl) : VC P E (.cond c c1 c2) Q s := VC.cond_f hc h
theorem va (h : OpV P E o ⟨n0, t0, f0, b0, r0⟩ d v) (k : VL P E ops Q rest ⟨n0, (d, v) :: t0, f0, b0, r0⟩) (hg : guardOn ops ⟨n0, t0, f0, b0, r0⟩ o = some true := by rfl) : VL P E ops Q (o :: rest) ⟨n0, t0, f0, b0, r0⟩ := VL.va h hg k
theorem vm {t : TypeId} (hx : St.ev ⟨n0, t0, f0, b0, r0⟩ x = some v) (k : VL P E ops Q rest ⟨n0, (d, v) :: t0, f0, b0, r0⟩) (hn : d < n0 := by exact ltn rfl) (hg : guardOn ops ⟨n0, t0, f0, b0, r0⟩ ⟨some d, .move x, t, pos, after, gd⟩ = some true := by rfl) : VL P E ops Q (⟨some d, .move x, t, pos, after, gd⟩ :: rest) ⟨n0, t0, f0, b0, r0⟩ := VL.va (op_move hx hn) hg k
theorem vs {t : TypeId} (hx : St.ev ⟨n0, t0, f0, b0, r0⟩ x = some v) (k : VL P E ops Q rest ⟨n0, (d, v) :: t0, f0, b0, r0⟩) (hn : d < n0 := by exact ltn rfl) (hg : guardOn ops ⟨n0, t0, f0, b0, r0⟩ ⟨some d, .assign x, t, pos, after, gd⟩ = some true := by rfl) : VL P E ops Q (⟨some d, .assign x, t, pos, after, gd⟩ :: rest) ⟨n0, t0, f0, b0, r0⟩ := VL.va (op_assign hx hn) hg k
theorem un {d : Nat} (hd : o.dst = some d) (h : VL P E ops Q rest ⟨n0, (d, undef) :: t0, f0, b0, r0⟩) (hg : guardOn ops ⟨n0, t0, f0, b0, r0⟩ o = some false := by rfl) (hl : d < n0 := by exact ltn rfl) : VL P E ops Q (o :: rest) ⟨n0, t0, f0, b0, r0⟩ := VL.un hd hg hl h
theorem s1 {s' : St} (h1 : Op1 P E o s (· = s')) (h : VL P E ops Q rest s') (hg : guardOn ops s o = some true := by rfl) : VL P E ops Q (o :: rest) s := VL.step1 h1 hg h
theorem sG {α : Type} {F : α → St} (h1 : Op1 P E o s (fun s' => ∃ g, s' = F g)) (h : ∀ g, VL P E ops Q rest (F g)) (hg : guardOn ops s o = some true := by rfl) : VL P E ops Q (o :: rest) s := VL.sG h1 hg h
theorem sC {F : Value → List Fact → List ORow → St} {R : Value → List Fact → List ORow → Prop} (h1 : Op1 P E o s (fun s' => ∃ v G own, R v G own ∧ s' = F v G own)) (h : ∀ v G own, R v G own → VL P E ops Q rest (F v G own)) (hg : guardOn ops s o = some true := by rfl) : VL P E ops Q (o :: rest) s := VL.sC h1 hg h
theorem mv {t : TypeId} (hx : s.ev x = some v) (hn : d < s.n := by exact ltn rfl) : OpV P E ⟨some d, .move x, t, pos, after, gd⟩ s d v := op_move hx hn
theorem ag {t : TypeId} (hx : s.ev x = some v) (hn : d < s.n := by exact ltn rfl) : OpV P E ⟨some d, .assign x, t, pos, after, gd⟩ s d v := op_assign hx hn
theorem mG {α : Type} {l : List α} {x : α} (i : Nat) (h : l[i]? = some x) : x ∈ l := List.mem_of_getElem? h
theorem av {n : Nat} {m N : Nat} {o : Oper} (j m' : Nat) (ho : ops[j]? = some o) (hv : OpV P E o ⟨n0, t0, f1, b1, r1⟩ d v) (h : VA P E ops Q ⟨n1, t1, f1, b1, r1⟩ n (LB N m') ⟨n0, (d, v) :: t0, f0, b0, r0⟩) (hg : guardOn ops ⟨n0, t0, f0, b0, r0⟩ o = some true := by rfl) (hs : Region.noSelect ops = true := by kernel_rfl) (hf : Region.free .any ops (LB N m) j = true := by kernel_rfl) (hr : (Region.ready .any ops (LB N m)).contains j = true := by kernel_rfl) (hl : (LB N m).setIfInBounds j true = LB N m' := by kernel_rfl)
    (hp : Part ⟨n0, t0, f0, b0, r0⟩ ⟨n1, t1, f1, b1, r1⟩ := by refine ⟨?_, ?_, ?_⟩ <;> repeat (first | exact trivial | refine ⟨⟨0, rfl⟩, ?_⟩ | refine ⟨⟨1, rfl⟩, ?_⟩ | refine ⟨⟨2, rfl⟩, ?_⟩ | refine ⟨⟨3, rfl⟩, ?_⟩ | refine ⟨⟨4, rfl⟩, ?_⟩ | refine ⟨⟨5, rfl⟩, ?_⟩ | refine ⟨⟨6, rfl⟩, ?_⟩ | refine ⟨⟨7, rfl⟩, ?_⟩ | refine ⟨⟨8, rfl⟩, ?_⟩ | refine ⟨⟨9, rfl⟩, ?_⟩)) (hQ : ∀ c a w, Q (.panic c) (a.put (some d) v) w → Q (.panic c) a w := by exact fun _ _ _ h => h) : VA P E ops Q ⟨n1, t1, f1, b1, r1⟩ (n + 1) (LB N m) ⟨n0, t0, f0, b0, r0⟩ := VA.va ho hv hg hs hf hr hl hp hQ h
theorem au {n : Nat} {m N : Nat} {sS : St} {o : Oper} {d : Nat} (j m' : Nat) (ho : ops[j]? = some o) (hd : o.dst = some d) (h : VA P E ops Q sS n (LB N m') ⟨n0, (d, undef) :: t0, f0, b0, r0⟩) (hg : guardOn ops ⟨n0, t0, f0, b0, r0⟩ o = some false := by rfl) (hlt : d < n0 := by exact ltn rfl) (hs : Region.noSelect ops = true := by kernel_rfl) (hf : Region.free .any ops (LB N m) j = true := by kernel_rfl) (hr : (Region.ready .any ops (LB N m)).contains j = true := by kernel_rfl) (hl : (LB N m).setIfInBounds j true = LB N m' := by kernel_rfl)
    (hp : Part ⟨n0, t0, f0, b0, r0⟩ sS := by refine ⟨?_, ?_, ?_⟩ <;> repeat (first | exact trivial | refine ⟨⟨0, rfl⟩, ?_⟩ | refine ⟨⟨1, rfl⟩, ?_⟩ | refine ⟨⟨2, rfl⟩, ?_⟩ | refine ⟨⟨3, rfl⟩, ?_⟩ | refine ⟨⟨4, rfl⟩, ?_⟩ | refine ⟨⟨5, rfl⟩, ?_⟩ | refine ⟨⟨6, rfl⟩, ?_⟩ | refine ⟨⟨7, rfl⟩, ?_⟩ | refine ⟨⟨8, rfl⟩, ?_⟩ | refine ⟨⟨9, rfl⟩, ?_⟩)) (hQ : ∀ c a w, Q (.panic c) (a.put (some d) undef) w → Q (.panic c) a w := by exact fun _ _ _ h => h) : VA P E ops Q sS (n + 1) (LB N m) ⟨n0, t0, f0, b0, r0⟩ := VA.un ho hd hg hlt hs hf hr hl hp hQ h
theorem bv {n : Nat} {m N : Nat} {qs : List Nat} {sB : St} {o : Oper} (j m' : Nat) (ho : ops[j]? = some o) (hv : OpV P E o ⟨n0, t0, f1, b1, r1⟩ d v) (h : VB P E ops Q ⟨n1, t1, f1, b1, r1⟩ qs sB n (LB N m') ⟨n0, (d, v) :: t0, f0, b0, r0⟩) (hg : guardOn ops ⟨n0, t0, f0, b0, r0⟩ o = some true := by rfl) (hs : Region.noSelect ops = true := by kernel_rfl) (hf : Region.free .any ops (LB N m) j = true := by kernel_rfl) (hr : (Region.ready .any ops (LB N m)).contains j = true := by kernel_rfl) (hl : (LB N m).setIfInBounds j true = LB N m' := by kernel_rfl) (hnq : j ∉ qs := by decide)
    (hp : PartP ⟨n0, t0, f0, b0, r0⟩ ⟨n1, t1, f1, b1, r1⟩ qs sB (LB N m) := by first | ((refine PartP.on ?_ ?_ <;> refine ⟨?_, ?_, ?_⟩ <;> repeat (first | exact trivial | refine ⟨⟨0, rfl⟩, ?_⟩ | refine ⟨⟨1, rfl⟩, ?_⟩ | refine ⟨⟨2, rfl⟩, ?_⟩ | refine ⟨⟨3, rfl⟩, ?_⟩ | refine ⟨⟨4, rfl⟩, ?_⟩ | refine ⟨⟨5, rfl⟩, ?_⟩ | refine ⟨⟨6, rfl⟩, ?_⟩ | refine ⟨⟨7, rfl⟩, ?_⟩ | refine ⟨⟨8, rfl⟩, ?_⟩ | refine ⟨⟨9, rfl⟩, ?_⟩)); done) | (refine PartP.off (by kernel_rfl) ?_; refine ⟨?_, ?_, ?_⟩ <;> repeat (first | exact trivial | refine ⟨⟨0, rfl⟩, ?_⟩ | refine ⟨⟨1, rfl⟩, ?_⟩ | refine ⟨⟨2, rfl⟩, ?_⟩ | refine ⟨⟨3, rfl⟩, ?_⟩ | refine ⟨⟨4, rfl⟩, ?_⟩ | refine ⟨⟨5, rfl⟩, ?_⟩ | refine ⟨⟨6, rfl⟩, ?_⟩ | refine ⟨⟨7, rfl⟩, ?_⟩ | refine ⟨⟨8, rfl⟩, ?_⟩ | refine ⟨⟨9, rfl⟩, ?_⟩))) (hQ : ∀ c a w, Q (.panic c) (a.put (some d) v) w → Q (.panic c) a w := by exact fun _ _ _ h => h) : VB P E ops Q ⟨n1, t1, f1, b1, r1⟩ qs sB (n + 1) (LB N m) ⟨n0, t0, f0, b0, r0⟩ := VB.va ho hv hg hs hf hr hl hnq hp hQ h
theorem dw (sS : St) (k : Nat) (h : VA P E l.toArray Q sS k (LB k 0) s) (hm : P.follows .mixedOrders = true := by kernel_rfl) (hn : l.toArray.size = k := by rfl) (hl : Array.replicate k false = LB k 0 := by kernel_rfl) (hW : E.R = none := by first | assumption | rfl) : VC P E (.region id l.toArray true) Q s := VC.draw sS hm hn hl h hW
theorem ad {sS : St} {n : Nat} {L : Array Bool} (h : VN E Q s) (hr : Region.ready .any ops L = [] := by kernel_rfl) : VA P E ops Q sS n L s := VA.done hr h
theorem aO {sS s' : St} {n m N : Nat} (j m' : Nat) (ho : ops[j]? = some o) (h1 : Op1 P E o s (· = s')) (h : VA P E ops Q sS n (LB N m') s') (hr : Region.ready .any ops (LB N m) = [j] := by kernel_rfl) (hg : guardOn ops s o = some true := by rfl) (hl : (LB N m).setIfInBounds j true = LB N m' := by kernel_rfl) (hp : Part s' sS := by refine ⟨?_, ?_, ?_⟩ <;> repeat (first | exact trivial | refine ⟨⟨0, rfl⟩, ?_⟩ | refine ⟨⟨1, rfl⟩, ?_⟩ | refine ⟨⟨2, rfl⟩, ?_⟩ | refine ⟨⟨3, rfl⟩, ?_⟩ | refine ⟨⟨4, rfl⟩, ?_⟩ | refine ⟨⟨5, rfl⟩, ?_⟩ | refine ⟨⟨6, rfl⟩, ?_⟩ | refine ⟨⟨7, rfl⟩, ?_⟩ | refine ⟨⟨8, rfl⟩, ?_⟩ | refine ⟨⟨9, rfl⟩, ?_⟩)) : VA P E ops Q sS (n + 1) (LB N m) s := VA.one1 hr ho h1 hg hl hp h
theorem aG {α : Type} {F : α → St} {sS : St} {n m N : Nat} (j m' : Nat) (ho : ops[j]? = some o) (h1 : Op1 P E o s (fun s' => ∃ g, s' = F g)) (h : ∀ g, VA P E ops Q sS n (LB N m') (F g)) (hr : Region.ready .any ops (LB N m) = [j] := by kernel_rfl) (hg : guardOn ops s o = some true := by rfl) (hl : (LB N m).setIfInBounds j true = LB N m' := by kernel_rfl) (hp : ∀ g, Part (F g) sS := by intro _; refine ⟨?_, ?_, ?_⟩ <;> repeat (first | exact trivial | refine ⟨⟨0, rfl⟩, ?_⟩ | refine ⟨⟨1, rfl⟩, ?_⟩ | refine ⟨⟨2, rfl⟩, ?_⟩ | refine ⟨⟨3, rfl⟩, ?_⟩ | refine ⟨⟨4, rfl⟩, ?_⟩ | refine ⟨⟨5, rfl⟩, ?_⟩ | refine ⟨⟨6, rfl⟩, ?_⟩ | refine ⟨⟨7, rfl⟩, ?_⟩ | refine ⟨⟨8, rfl⟩, ?_⟩ | refine ⟨⟨9, rfl⟩, ?_⟩)) : VA P E ops Q sS (n + 1) (LB N m) s := VA.oneG hr ho h1 hg hl hp h
theorem aC {F : Value → List Fact → List ORow → St} {R : Value → List Fact → List ORow → Prop} {sS : St} {n m N : Nat} (j m' : Nat) (ho : ops[j]? = some o) (h1 : Op1 P E o s (fun s' => ∃ v G own, R v G own ∧ s' = F v G own)) (h : ∀ v G own, R v G own → Part (F v G own) sS ∧ VA P E ops Q sS n (LB N m') (F v G own)) (hr : Region.ready .any ops (LB N m) = [j] := by kernel_rfl) (hg : guardOn ops s o = some true := by rfl) (hl : (LB N m).setIfInBounds j true = LB N m' := by kernel_rfl) : VA P E ops Q sS (n + 1) (LB N m) s := VA.oneC hr ho h1 hg hl h
theorem rf {fn : Func} {vs : List Value} {R : Value → List Fact → List ORow → Prop} {G : List Fact} {own : List ORow} (rs : List ResultVar) (is : List Nat) (hr : Res P s rs vs) (hR : R (resVal vs) G own) (h : fn.results = rs.toArray := by rfl) (hG : SubF s G := by repeat (first | exact trivial | refine ⟨⟨0, rfl⟩, ?_⟩ | refine ⟨⟨1, rfl⟩, ?_⟩ | refine ⟨⟨2, rfl⟩, ?_⟩ | refine ⟨⟨3, rfl⟩, ?_⟩ | refine ⟨⟨4, rfl⟩, ?_⟩ | refine ⟨⟨5, rfl⟩, ?_⟩ | refine ⟨⟨6, rfl⟩, ?_⟩ | refine ⟨⟨7, rfl⟩, ?_⟩ | refine ⟨⟨8, rfl⟩, ?_⟩ | refine ⟨⟨9, rfl⟩, ?_⟩)) (ho : own.map some = pick s.r is := by rfl) (hn : is.Nodup := by decide) (hD : E.D = [] := by first | assumption | rfl) :
    VR E (bodyPost P fn (RetP E.C E.w0 R)) s := VR.fn G own is h hr hR hG ho hn hD
theorem rq {fn : Func} {R : Value → List Fact → List ORow → Prop} {v : Value} (p : Nat) (hp : s.ev (.tmp p) = some v) (hR : R v [] []) (h : fn.results = #[.tmp p] := by rfl) (hD : E.D = [] := by first | assumption | rfl) :
    VR E (bodyPost P fn (RetP E.C E.w0 R)) s := VR.fn (rs := [.tmp p]) [] [] [] h (.tmp hp .nil) hR trivial rfl (by decide) hD
abbrev sn : Value := .slice none 0 0
abbrev iv (x : Int) : Value := .int .i64 x
abbrev pt (g o : Nat) : Value := .pointer (some ⟨g, o, none⟩)
end
section
variable {α : Type} {x y : Option α} {r : α} {c : Prop} {_ : Decidable c}
theorem iN (h : (if c then x else none) = some r) : c ∧ x = some r := by
  by_cases hc : c
  · rw [if_pos hc] at h; exact ⟨hc, h⟩
  · rw [if_neg hc] at h; cases h
theorem iC (h : (if c then x else y) = some r) : (c ∧ x = some r) ∨ (¬c ∧ y = some r) := by
  by_cases hc : c
  · rw [if_pos hc] at h; exact .inl ⟨hc, h⟩
  · rw [if_neg hc] at h; exact .inr ⟨hc, h⟩
theorem bd {β : Type} {x : Option β} {f : β → Option α} (h : x.bind f = some r) : ∃ a, x = some a ∧ f a = some r := Option.bind_eq_some_iff.1 h
theorem lT {b : Bool} (hc : c) (h : decide c = b) : b = true := h.symm.trans (decide_eq_true hc)
theorem lF {b : Bool} (hc : ¬c) (h : decide c = b) : b = false := h.symm.trans (decide_eq_false hc)
end
end Go.Proofs.YtipeglbeongfmaaGreatV
