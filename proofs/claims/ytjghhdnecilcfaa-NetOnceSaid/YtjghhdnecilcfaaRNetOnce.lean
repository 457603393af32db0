/- Written by a program of this repo: what the program's functions do, each as a Lean function, shown of the loaded code; or a statement's row over that; no condition of its own. -/
import Derived.Test.YtjghhdnecilcfaaPNetOncex0
namespace Go.Proofs.Ytjghhdnecilcfaa.PNetOnce
open Go Go.RowKit Go.Proofs.YtjghhdnecilcfaaV
set_option linter.unusedVariables false
set_option linter.unusedSimpArgs false

def net_Right.r1 (k : Nat) (a0_1 : Int) (l0_0 : List S25) : List S25 → Option (Bool)
  | [] => (if (l0_0.length : Int) ≤ 64 then (if a0_1 ≥ 0 then (some (decide (a0_1 ≤ 1099511627776))) else (some false)) else (some false))
  | x276 :: xsi204 => ((net_may.f x276.f0 x276.f1 x276.f2 x276.f3 x276.f4 x276.f5).bind fun t286 => (if t286 = true then (if x276.f0 < 1 then (some false) else (if x276.f0 > a0_1 then (some false) else (net_Right.r1 k a0_1 l0_0 xsi204))) else (some false)))
set_option maxHeartbeats 1000000 in
theorem net_Right.r1_eq (k : Nat) (a0_1 : Int) (l0_0 : List S25)  (hs : l0_0.length < 4611686018427387904) : ∀ (m i204 : Nat), l0_0.length < m + i204 → i204 ≤ l0_0.length → net_Right.l1 k a0_1 l0_0 m (i204 : Int) = net_Right.r1 k a0_1 l0_0 (l0_0.drop i204) := by
  intro m
  induction m with
  | zero => intro i204 h hi; omega
  | succ m ih =>
    intro i204 h hi
    by_cases hc : i204 < l0_0.length
    · have hw : wrap64 ((i204 : Int) + 1) = ((i204 + 1 : Nat) : Int) := by unfold wrap64; omega
      have hg : l0_0[(i204 : Int).toNat]? = some l0_0[i204] := by rw [Int.toNat_natCast]; exact List.getElem?_eq_getElem hc
      have ih2 := ih (i204 + 1) (by omega) (by omega)
      rw [List.drop_eq_getElem_cons hc, net_Right.l1, net_Right.r1, if_pos (by omega), if_pos (by omega), hg, Option.bind_some]
      simp only [hw, ih2]
    · rw [List.drop_of_length_le (by omega), net_Right.l1, net_Right.r1, if_neg (by omega)]
def tarrylaw15_NetOnce.r993 (k : Nat) (i42686 : Int) (l42685 : List S25) : List S25 → (List (Int × Int)) → Option (Bool)
  | [], mp42721 => (if (mp42721.all fun z => (tarrylaw15_NetOnce.b997 k z.1 z.2).isSome) = true then ((tarrylaw15_alive.f k).bind fun t42811 => (if t42811 = true then ((net_Right.f k l42685 i42686).bind fun t42814 => (some t42814)) else none)) else none)
  | x42774 :: xsi42720, mp42721 => (tarrylaw15_NetOnce.r993 k i42686 l42685 xsi42720 (mset mp42721 x42774.f0 (wrap64 ((mget mp42721 x42774.f0 0) - 1))))
set_option maxHeartbeats 1000000 in
theorem tarrylaw15_NetOnce.r993_eq (k : Nat) (i42686 : Int) (l42685 : List S25)  (hs : l42685.length < 4611686018427387904) : ∀ (m i42720 : Nat) (mp42721 : List (Int × Int)), l42685.length < m + i42720 → i42720 ≤ l42685.length → tarrylaw15_NetOnce.l993 k i42686 l42685 m (i42720 : Int) mp42721 = tarrylaw15_NetOnce.r993 k i42686 l42685 (l42685.drop i42720) mp42721 := by
  intro m
  induction m with
  | zero => intro i42720 mp42721 h hi; omega
  | succ m ih =>
    intro i42720 mp42721 h hi
    by_cases hc : i42720 < l42685.length
    · have hw : wrap64 ((i42720 : Int) + 1) = ((i42720 + 1 : Nat) : Int) := by unfold wrap64; omega
      have hg : l42685[(i42720 : Int).toNat]? = some l42685[i42720] := by rw [Int.toNat_natCast]; exact List.getElem?_eq_getElem hc
      have ih2 := fun mp42721 => ih (i42720 + 1) mp42721 (by omega) (by omega)
      rw [List.drop_eq_getElem_cons hc, tarrylaw15_NetOnce.l993, tarrylaw15_NetOnce.r993, if_pos (by omega), if_pos (by omega), hg, Option.bind_some]
      simp only [hw, ih2]
    · rw [List.drop_of_length_le (by omega), tarrylaw15_NetOnce.l993, tarrylaw15_NetOnce.r993, if_neg (by omega)]
def tarrylaw15_NetOnce.r989 (k : Nat) (l1 : List Int) (l36917 : List S25) : List Int → Nat → (List S25) → Int → (List (Int × Int)) → Option (Bool)
  | [], i41895, l41898, i41899, mp41900 => (tarrylaw15_NetOnce.j988 k l41898 i41899 mp41900)
  | x42490 :: xsi41895, i41895, l41898, i41899, mp41900 => (if (i41895 : Int) ≥ 40 then ((fun (q42596 : Bool) (q42597 : Bool) (q42598 : Bool) => (if q42598 = true then (tarrylaw15_NetOnce.j988 k l41898 i41899 mp41900) else (if (l41898.length : Int) ≠ 0 then (if 0 ≤ (wrap64 (((IntKind.i64.wrap (x42490.tdiv 3)).tmod (l41898.length : Int)) + (l41898.length : Int))).tmod (l41898.length : Int) then ((l41898[((wrap64 (((IntKind.i64.wrap (x42490.tdiv 3)).tmod (l41898.length : Int)) + (l41898.length : Int))).tmod (l41898.length : Int)).toNat]?).bind fun x42602 => (if ((wrap64 ((x42490.tmod 3) + 3)).tmod 3) = 0 then ((net_Take.f k l41898 i41899 ((wrap64 (((IntKind.i64.wrap (x42490.tdiv 3)).tmod (l41898.length : Int)) + (l41898.length : Int))).tmod (l41898.length : Int))).bind fun ⟨r42607, t42608, t42609, t42610, t42611, t42612, t42613, t42614, t42615⟩ => (if t42615 = 0 then (if x42602.f0 < 1 then none else (if x42602.f0 > (l36917.length : Int) then none else (if 0 ≤ wrap64 (x42602.f0 - 1) then ((l36917[(wrap64 (x42602.f0 - 1)).toNat]?).bind fun x42640 => (if (((t42609 == x42640.f0) && ((t42610 == x42640.f1) && ((t42611 == x42640.f2) && ((t42612 == x42640.f3) && ((t42613 == x42640.f4) && (t42614 == x42640.f5))))))) = true then (if (mget mp41900 x42602.f0 0) < 1 then none else (tarrylaw15_NetOnce.r989 k l1 l36917 xsi41895 (i41895 + 1) r42607 t42608 (mset mp41900 x42602.f0 (wrap64 ((mget mp41900 x42602.f0 0) - 1))))) else none)) else none))) else none)) else (if ((wrap64 ((x42490.tmod 3) + 3)).tmod 3) = 1 then ((net_Twice.f k l41898 i41899 ((wrap64 (((IntKind.i64.wrap (x42490.tdiv 3)).tmod (l41898.length : Int)) + (l41898.length : Int))).tmod (l41898.length : Int))).bind fun ⟨r42647, t42648, t42649⟩ => (if t42649 = 0 then (if t42649 = 0 then (tarrylaw15_NetOnce.r989 k l1 l36917 xsi41895 (i41895 + 1) r42647 t42648 (mset mp41900 x42602.f0 (wrap64 ((mget mp41900 x42602.f0 0) + 1)))) else (tarrylaw15_NetOnce.r989 k l1 l36917 xsi41895 (i41895 + 1) l41898 i41899 mp41900)) else (if t42649 = 7 then (if t42649 = 0 then (tarrylaw15_NetOnce.r989 k l1 l36917 xsi41895 (i41895 + 1) r42647 t42648 (mset mp41900 x42602.f0 (wrap64 ((mget mp41900 x42602.f0 0) + 1)))) else (tarrylaw15_NetOnce.r989 k l1 l36917 xsi41895 (i41895 + 1) l41898 i41899 mp41900)) else none))) else ((net_Last.f k l41898 i41899 ((wrap64 (((IntKind.i64.wrap (x42490.tdiv 3)).tmod (l41898.length : Int)) + (l41898.length : Int))).tmod (l41898.length : Int))).bind fun ⟨r42672, t42673, t42674⟩ => (if t42674 = 0 then (tarrylaw15_NetOnce.r989 k l1 l36917 xsi41895 (i41895 + 1) r42672 t42673 mp41900) else none))))) else none) else none))) true true true) else ((fun (q42596 : Bool) (q42597 : Bool) (q42598 : Bool) => (if q42598 = true then (tarrylaw15_NetOnce.j988 k l41898 i41899 mp41900) else (if (l41898.length : Int) ≠ 0 then (if 0 ≤ (wrap64 (((IntKind.i64.wrap (x42490.tdiv 3)).tmod (l41898.length : Int)) + (l41898.length : Int))).tmod (l41898.length : Int) then ((l41898[((wrap64 (((IntKind.i64.wrap (x42490.tdiv 3)).tmod (l41898.length : Int)) + (l41898.length : Int))).tmod (l41898.length : Int)).toNat]?).bind fun x42602 => (if ((wrap64 ((x42490.tmod 3) + 3)).tmod 3) = 0 then ((net_Take.f k l41898 i41899 ((wrap64 (((IntKind.i64.wrap (x42490.tdiv 3)).tmod (l41898.length : Int)) + (l41898.length : Int))).tmod (l41898.length : Int))).bind fun ⟨r42607, t42608, t42609, t42610, t42611, t42612, t42613, t42614, t42615⟩ => (if t42615 = 0 then (if x42602.f0 < 1 then none else (if x42602.f0 > (l36917.length : Int) then none else (if 0 ≤ wrap64 (x42602.f0 - 1) then ((l36917[(wrap64 (x42602.f0 - 1)).toNat]?).bind fun x42640 => (if (((t42609 == x42640.f0) && ((t42610 == x42640.f1) && ((t42611 == x42640.f2) && ((t42612 == x42640.f3) && ((t42613 == x42640.f4) && (t42614 == x42640.f5))))))) = true then (if (mget mp41900 x42602.f0 0) < 1 then none else (tarrylaw15_NetOnce.r989 k l1 l36917 xsi41895 (i41895 + 1) r42607 t42608 (mset mp41900 x42602.f0 (wrap64 ((mget mp41900 x42602.f0 0) - 1))))) else none)) else none))) else none)) else (if ((wrap64 ((x42490.tmod 3) + 3)).tmod 3) = 1 then ((net_Twice.f k l41898 i41899 ((wrap64 (((IntKind.i64.wrap (x42490.tdiv 3)).tmod (l41898.length : Int)) + (l41898.length : Int))).tmod (l41898.length : Int))).bind fun ⟨r42647, t42648, t42649⟩ => (if t42649 = 0 then (if t42649 = 0 then (tarrylaw15_NetOnce.r989 k l1 l36917 xsi41895 (i41895 + 1) r42647 t42648 (mset mp41900 x42602.f0 (wrap64 ((mget mp41900 x42602.f0 0) + 1)))) else (tarrylaw15_NetOnce.r989 k l1 l36917 xsi41895 (i41895 + 1) l41898 i41899 mp41900)) else (if t42649 = 7 then (if t42649 = 0 then (tarrylaw15_NetOnce.r989 k l1 l36917 xsi41895 (i41895 + 1) r42647 t42648 (mset mp41900 x42602.f0 (wrap64 ((mget mp41900 x42602.f0 0) + 1)))) else (tarrylaw15_NetOnce.r989 k l1 l36917 xsi41895 (i41895 + 1) l41898 i41899 mp41900)) else none))) else ((net_Last.f k l41898 i41899 ((wrap64 (((IntKind.i64.wrap (x42490.tdiv 3)).tmod (l41898.length : Int)) + (l41898.length : Int))).tmod (l41898.length : Int))).bind fun ⟨r42672, t42673, t42674⟩ => (if t42674 = 0 then (tarrylaw15_NetOnce.r989 k l1 l36917 xsi41895 (i41895 + 1) r42672 t42673 mp41900) else none))))) else none) else none))) false false ((l41898.length : Int) == 0)))
set_option maxHeartbeats 1000000 in
theorem tarrylaw15_NetOnce.r989_eq (k : Nat) (l1 : List Int) (l36917 : List S25)  (hs : l1.length < 4611686018427387904) : ∀ (m i41895 : Nat) (l41898 : List S25) (i41899 : Int) (mp41900 : List (Int × Int)), l1.length < m + i41895 → i41895 ≤ l1.length → tarrylaw15_NetOnce.l989 k l1 l36917 m (i41895 : Int) l41898 i41899 mp41900 = tarrylaw15_NetOnce.r989 k l1 l36917 (l1.drop i41895) i41895 l41898 i41899 mp41900 := by
  intro m
  induction m with
  | zero => intro i41895 l41898 i41899 mp41900 h hi; omega
  | succ m ih =>
    intro i41895 l41898 i41899 mp41900 h hi
    by_cases hc : i41895 < l1.length
    · have hw : wrap64 ((i41895 : Int) + 1) = ((i41895 + 1 : Nat) : Int) := by unfold wrap64; omega
      have hg : l1[(i41895 : Int).toNat]? = some l1[i41895] := by rw [Int.toNat_natCast]; exact List.getElem?_eq_getElem hc
      have ih2 := fun l41898 i41899 mp41900 => ih (i41895 + 1) l41898 i41899 mp41900 (by omega) (by omega)
      rw [List.drop_eq_getElem_cons hc, tarrylaw15_NetOnce.l989, tarrylaw15_NetOnce.r989, if_pos (by omega), if_pos (by omega), hg, Option.bind_some]
      simp only [tarrylaw15_NetOnce.j991, hw, ih2]
    · rw [List.drop_of_length_le (by omega), tarrylaw15_NetOnce.l989, tarrylaw15_NetOnce.r989, if_neg (by omega)]
def tarrylaw15_NetOnce.r855 (k : Nat) (l0 : List S25) (l1 : List Int) : List S25 → Nat → (List S25) → (List S25) → Int → (List (Int × Int)) → Option (Bool)
  | [], i36734, l36732, l36737, i36739, mp36740 => (tarrylaw15_NetOnce.j854 k l1 l36732 l36737 i36739 mp36740)
  | x36874 :: xsi36734, i36734, l36732, l36737, i36739, mp36740 => (if (i36734 : Int) ≥ 20 then (tarrylaw15_NetOnce.j854 k l1 l36732 l36737 i36739 mp36740) else ((net_Post.f k l36737 i36739 x36874.f0 x36874.f1 x36874.f2 x36874.f3 x36874.f4 x36874.f5).bind fun ⟨r36882, t36883, t36884, t36885⟩ => (if t36885 = 0 then (if t36884 = (wrap64 ((l36732.length : Int) + 1)) then (if (l36732.length + ([(⟨t36884, x36874.f1, x36874.f2, x36874.f3, x36874.f4, x36874.f5⟩ : S25)] : List S25).length) * 48 ≤ 140737488355328 then (tarrylaw15_NetOnce.r855 k l0 l1 xsi36734 (i36734 + 1) (l36732 ++ ([(⟨t36884, x36874.f1, x36874.f2, x36874.f3, x36874.f4, x36874.f5⟩ : S25)] : List S25)) r36882 t36883 (mset mp36740 t36884 (wrap64 ((mget mp36740 t36884 0) + 1)))) else none) else none) else ((tarrylaw15_may.f x36874.f0 x36874.f1 x36874.f2 x36874.f3 x36874.f4 x36874.f5).bind fun t36912 => (if t36912 = true then none else (tarrylaw15_NetOnce.r855 k l0 l1 xsi36734 (i36734 + 1) l36732 l36737 i36739 mp36740))))))
set_option maxHeartbeats 1000000 in
theorem tarrylaw15_NetOnce.r855_eq (k : Nat) (l0 : List S25) (l1 : List Int)  (hs : l0.length < 4611686018427387904) : ∀ (m i36734 : Nat) (l36732 : List S25) (l36737 : List S25) (i36739 : Int) (mp36740 : List (Int × Int)), l0.length < m + i36734 → i36734 ≤ l0.length → tarrylaw15_NetOnce.l855 k l0 l1 m l36732 (i36734 : Int) l36737 i36739 mp36740 = tarrylaw15_NetOnce.r855 k l0 l1 (l0.drop i36734) i36734 l36732 l36737 i36739 mp36740 := by
  intro m
  induction m with
  | zero => intro i36734 l36732 l36737 i36739 mp36740 h hi; omega
  | succ m ih =>
    intro i36734 l36732 l36737 i36739 mp36740 h hi
    by_cases hc : i36734 < l0.length
    · have hw : wrap64 ((i36734 : Int) + 1) = ((i36734 + 1 : Nat) : Int) := by unfold wrap64; omega
      have hg : l0[(i36734 : Int).toNat]? = some l0[i36734] := by rw [Int.toNat_natCast]; exact List.getElem?_eq_getElem hc
      have ih2 := fun l36732 l36737 i36739 mp36740 => ih (i36734 + 1) l36732 l36737 i36739 mp36740 (by omega) (by omega)
      rw [List.drop_eq_getElem_cons hc, tarrylaw15_NetOnce.l855, tarrylaw15_NetOnce.r855, if_pos (by omega), if_pos (by omega), hg, Option.bind_some]
      simp only [hw, ih2]
    · rw [List.drop_of_length_le (by omega), tarrylaw15_NetOnce.l855, tarrylaw15_NetOnce.r855, if_neg (by omega)]

end Go.Proofs.Ytjghhdnecilcfaa.PNetOnce
