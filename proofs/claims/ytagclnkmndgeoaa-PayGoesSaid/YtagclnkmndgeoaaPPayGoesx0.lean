/- Written by a program of this repo over the kit's print program: what the program's functions do, each as a Lean function, shown of the loaded code; or a statement's row over that; no condition of its own. -/
import Derived.Test.YtagclnkmndgeoaaProg
import Derived.Below
import Derived.Deep.Draws
import Derived.Deep.AppendLies
import Derived.Maps.AppendAt
import Derived.OwnWalk
import Derived.Laws.BytesArg
import Derived.Laws.MakeOwn
import Derived.Laws.OwnMore
import Derived.Deep.OwnRows
import Derived.Tactics
import Derived.Lib.ConvBytes
import Derived.Laws.Slices
import Derived.WalkKit
import Derived.KernelRfl
import Derived.RowKit3
import Derived.Deep.LoopGhost
import Derived.Deep.QuietTactic
import Derived.BigQuiet
import Derived.WideLaws
import Derived.Deep.DeepCutAuto
import Derived.Deep.CutBlock
import Derived.Deep.RegionHeld3
import Derived.Laws.Rows
import Derived.Lib.AppendStr
import Derived.ArgAppend
import Derived.Laws.IdiomCopy
import Derived.OrdersHeld
import Derived.Laws.BitsLemmas
import Derived.RowKit
import Derived.Test.YtagclnkmndgeoaaWWords
import Derived.Test.YtagclnkmndgeoaaWLast
import Derived.Test.YtagclnkmndgeoaaWTab
import Derived.Test.YtagclnkmndgeoaaWFour
import Derived.Test.YtagclnkmndgeoaaWQPut
import Derived.Test.YtagclnkmndgeoaaWApart
import Derived.Test.YtagclnkmndgeoaaWArr
import Derived.Test.YtagclnkmndgeoaaWZeros
import Derived.Test.YtagclnkmndgeoaaWFoot
import Derived.Test.YtagclnkmndgeoaaWKept
import Derived.Test.YtagclnkmndgeoaaWShare
import Derived.Test.YtagclnkmndgeoaaWN
import Derived.Test.YtagclnkmndgeoaaWFootNe
import Derived.Test.YtagclnkmndgeoaaWAt
import Derived.Test.YtagclnkmndgeoaaWEqStruct
import Derived.Test.YtagclnkmndgeoaaWRepsOne
import Derived.Test.YtagclnkmndgeoaaWInv
import Derived.Test.YtagclnkmndgeoaaWInvWords
import Derived.Test.YtagclnkmndgeoaaWGuard
import Derived.Test.YtagclnkmndgeoaaWNEv
import Derived.Test.YtagclnkmndgeoaaWMore
namespace Go.Proofs.Ytagclnkmndgeoaa.PPayGoes
open Go.RowKit Go.Proofs.YtagclnkmndgeoaaW.PrintWords Go.Proofs.YtagclnkmndgeoaaW.PrintLast Go.Proofs.YtagclnkmndgeoaaW.PrintMore
attribute [local go_sem] max2_int min2_int max_two min_two max_three min_three max_four min_four   -- for this text's walks alone
set_option linter.unusedVariables false
set_option linter.unusedSimpArgs false



def errW : Option Int → Value
  | none => .nilIface
  | some c => .iface 0 (.int .i64 c)
theorem errW_none : errW none = .nilIface := rfl
theorem errW_some (c : Int) : errW (some c) = .iface 0 (.int .i64 c) := rfl

-- the values' own types
/-! #### struct type 23 -/
structure S23 where
  f0 : Int
  f1 : Int
  f2 : Int
  f3 : Int
def z23 : S23 := ⟨(0 : Int), (0 : Int), (0 : Int), (0 : Int)⟩
def k23 : Kd S23 := Kd.iso (Kd.pair (Kd.int .i64) (Kd.pair (Kd.int .i64) (Kd.pair (Kd.int .i64) (Kd.int .i64)))) (fun x : S23 => (x.f0, x.f1, x.f2, x.f3))
theorem k23_open {w : World} {x : S23} {cs : List Value} (h : k23.K w x cs) : cs = [.int .i64 x.f0, .int .i64 x.f1, .int .i64 x.f2, .int .i64 x.f3] := by
  obtain ⟨_, _, rfl, rfl, ⟨_, _, rfl, rfl, ⟨_, _, rfl, rfl, rfl⟩⟩⟩ := h
  exact rfl
theorem k23_openM {w : World} {base : Nat} {ok : Nat → Prop} {x : S23} {cs : List Value} (h : k23.M w base ok x cs) : cs = [.int .i64 x.f0, .int .i64 x.f1, .int .i64 x.f2, .int .i64 x.f3] := by
  obtain ⟨_, _, rfl, rfl, ⟨_, _, rfl, rfl, ⟨_, _, rfl, rfl, rfl⟩⟩⟩ := h
  exact rfl
theorem k23_mk (w : World) (x : S23)  : k23.K w x [.int .i64 x.f0, .int .i64 x.f1, .int .i64 x.f2, .int .i64 x.f3] := ⟨[.int .i64 x.f0], [.int .i64 x.f1, .int .i64 x.f2, .int .i64 x.f3], rfl, rfl, ⟨[.int .i64 x.f1], [.int .i64 x.f2, .int .i64 x.f3], rfl, rfl, ⟨[.int .i64 x.f2], [.int .i64 x.f3], rfl, rfl, rfl⟩⟩⟩
theorem k23_mkM (w : World) (base : Nat) (ok : Nat → Prop) (x : S23)  : k23.M w base ok x [.int .i64 x.f0, .int .i64 x.f1, .int .i64 x.f2, .int .i64 x.f3] := ⟨[.int .i64 x.f0], [.int .i64 x.f1, .int .i64 x.f2, .int .i64 x.f3], rfl, rfl, ⟨[.int .i64 x.f1], [.int .i64 x.f2, .int .i64 x.f3], rfl, rfl, ⟨[.int .i64 x.f2], [.int .i64 x.f3], rfl, rfl, rfl⟩⟩⟩
def rd_T23 (xs : List S23) (i : Int) : S23 := xs.getD i.toNat z23
theorem at_T23 {w : World} {A : Option Addr} {n : Nat} {xs : List S23} (h : Kd.C k23 w A n xs) (i : Int) (h0 : 0 ≤ i) (h1 : i < n) : ∃ ad , A = some ad ∧ w.cell? (ad.add (i.toNat * 4)) = some (.int .i64 (rd_T23 xs i).f0) ∧ w.cell? ⟨(ad.add (i.toNat * 4)).block, (ad.add (i.toNat * 4)).off + 1, none⟩ = some (.int .i64 (rd_T23 xs i).f1) ∧ w.cell? ⟨(ad.add (i.toNat * 4)).block, (ad.add (i.toNat * 4)).off + 2, none⟩ = some (.int .i64 (rd_T23 xs i).f2) ∧ w.cell? ⟨(ad.add (i.toNat * 4)).block, (ad.add (i.toNat * 4)).off + 3, none⟩ = some (.int .i64 (rd_T23 xs i).f3) := by
  obtain ⟨ad, c, e, _, hK, hc0⟩ := Kd.C_get h z23 i h0 h1
  have hc : ∀ j u, c[j]? = some u → w.cell? (ad.add (i.toNat * 4 + j)) = some u := hc0
  obtain rfl := k23_open hK
  exact ⟨ad, e, hc 0 _ rfl, by rw [← add_field _ _ 1 (by omega)]; exact hc 1 _ rfl, by rw [← add_field _ _ 2 (by omega)]; exact hc 2 _ rfl, by rw [← add_field _ _ 3 (by omega)]; exact hc 3 _ rfl⟩

/-! short forms of steps that recur -/
theorem kk_ {W0 W : World} {g : Nat} {o : Obj} (h : Aside0 (W0.heap[g]? = some o)) (hp : W0.heap[g]? = some o → W.heap[g]? = some o := by (intro h_; repeat (first | (with_reducible first | exact h_ | refine blk_drewN ?_ _ | refine blk_drew ?_ | refine blk_alloc ?_ _ | refine blk_far ?_ (Aside0.out (by assumption)) _) | exact h_))) : W.heap[g]? = some o := hp h.out
theorem kb_ {W0 W w2 : World} {g : Nat} {o : Obj} (h : Aside0 (W0.heap[g]? = some o)) (hb : Below W.heap.size W w2) (hp : W0.heap[g]? = some o → W.heap[g]? = some o := by (intro h_; repeat (first | (with_reducible first | exact h_ | refine blk_drewN ?_ _ | refine blk_drew ?_ | refine blk_alloc ?_ _ | refine blk_far ?_ (Aside0.out (by assumption)) _) | exact h_))) : Aside0 (w2.heap[g]? = some o) := ⟨blk_below (hp h.out) hb⟩
theorem kn_ {W0 W : World} {g g2 : Nat} {o : Obj} (h : Aside0 (W0.heap[g]? = some o)) (hg : g2 = W.heap.size) (hp : W0.heap[g]? = some o → W.heap[g]? = some o := by (intro h_; repeat (first | (with_reducible first | exact h_ | refine blk_drewN ?_ _ | refine blk_drew ?_ | refine blk_alloc ?_ _ | refine blk_far ?_ (Aside0.out (by assumption)) _) | exact h_))) : Aside0 (g ≠ g2) := ⟨by rw [hg]; exact Nat.ne_of_lt (blk_lt (hp h.out))⟩
theorem kr_ {W0 W : World} {g g2 : Nat} {o : Obj} (h : Aside0 (W0.heap[g]? = some o)) (hg : g2 = W.heap.size) (hp : W0.heap[g]? = some o → W.heap[g]? = some o := by (intro h_; repeat (first | (with_reducible first | exact h_ | refine blk_drewN ?_ _ | refine blk_drew ?_ | refine blk_alloc ?_ _ | refine blk_far ?_ (Aside0.out (by assumption)) _) | exact h_))) : Aside0 (g2 ≠ g) := ⟨by rw [hg]; exact Nat.ne_of_gt (blk_lt (hp h.out))⟩
theorem hs_ {w W0 W w2 : World} (h : Aside0 (Below w.heap.size w W0)) (hb : Below W.heap.size W w2) (hp : Below w.heap.size w W0 → Below w.heap.size w W := by (intro h_; repeat (first | (with_reducible first | exact h_ | apply below_alloc | apply pw_below_drewN | apply below_drew1 | refine below_set ?_ (Aside0.out (by assumption))) | exact h_))) : Aside0 (Below w.heap.size w w2) := ⟨below_step (hp h.out) hb⟩
theorem hz_ {w W0 W : World} {g : Nat} (h : Aside0 (Below w.heap.size w W0)) (hg : g = W.heap.size) (hp : Below w.heap.size w W0 → Below w.heap.size w W := by (intro h_; repeat (first | (with_reducible first | exact h_ | apply below_alloc | apply pw_below_drewN | apply below_drew1 | refine below_set ?_ (Aside0.out (by assumption))) | exact h_))) : Aside0 (w.heap.size ≤ g) := ⟨by rw [hg]; exact below_size (hp h.out)⟩
theorem hh_ {w W0 W : World} (h : Aside0 (Below w.heap.size w W0)) (hp : Below w.heap.size w W0 → Below w.heap.size w W := by (intro h_; repeat (first | (with_reducible first | exact h_ | apply below_alloc | apply pw_below_drewN | apply below_drew1 | refine below_set ?_ (Aside0.out (by assumption))) | exact h_))) : Below w.heap.size w W := hp h.out
theorem cz4_3 {W : World} {g t : Nat} {v0 v1 v2 v3 : Value} (h : W.heap[g]? = some (.cells #[v0, v1, v2, v3] t (0, 0))) : W.cell? ⟨g, 0, none⟩ = some v0 ∧ W.cell? ⟨g, 1, none⟩ = some v1 ∧ W.cell? ⟨g, 2, none⟩ = some v2 ∧ W.cell? ⟨g, 3, none⟩ = some v3 ∧ W.frozen? ⟨g, 0, none⟩ = false ∧ W.frozen? ⟨g, 1, none⟩ = false ∧ W.frozen? ⟨g, 2, none⟩ = false := ⟨(blk_cell h 0).trans rfl, (blk_cell h 1).trans rfl, (blk_cell h 2).trans rfl, (blk_cell h 3).trans rfl, blk_frozen h 0, blk_frozen h 1, blk_frozen h 2⟩
theorem cz4_4 {W : World} {g t : Nat} {v0 v1 v2 v3 : Value} (h : W.heap[g]? = some (.cells #[v0, v1, v2, v3] t (0, 0))) : W.cell? ⟨g, 0, none⟩ = some v0 ∧ W.cell? ⟨g, 1, none⟩ = some v1 ∧ W.cell? ⟨g, 2, none⟩ = some v2 ∧ W.cell? ⟨g, 3, none⟩ = some v3 ∧ W.frozen? ⟨g, 0, none⟩ = false ∧ W.frozen? ⟨g, 1, none⟩ = false ∧ W.frozen? ⟨g, 2, none⟩ = false ∧ W.frozen? ⟨g, 3, none⟩ = false := ⟨(blk_cell h 0).trans rfl, (blk_cell h 1).trans rfl, (blk_cell h 2).trans rfl, (blk_cell h 3).trans rfl, blk_frozen h 0, blk_frozen h 1, blk_frozen h 2, blk_frozen h 3⟩
end Go.Proofs.Ytagclnkmndgeoaa.PPayGoes
