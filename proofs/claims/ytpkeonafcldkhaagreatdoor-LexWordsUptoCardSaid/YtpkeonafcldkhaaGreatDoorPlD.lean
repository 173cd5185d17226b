import Derived.Test.YtpkeonafcldkhaaGreatDoorPlC
/- Plain words of layer 3: durations. -/
set_option linter.unusedVariables false
set_option linter.unusedSimpArgs false
namespace Go.Proofs.YtpkeonafcldkhaaGreatDoor
open Go.RowKit

/-- The letters of the units, the longest unit first. -/
def uLet : Nat → UInt8
  | 0 => 121 | 1 => 119 | 2 => 100 | 3 => 104 | 4 => 109 | _ => 115
/-- The units' milliseconds. -/
def uSize : Nat → Nat
  | 0 => 31536000000 | 1 => 604800000 | 2 => 86400000 | 3 => 3600000 | 4 => 60000 | 5 => 1000 | _ => 1
/-- The unit with this letter; 7: none. -/
def uOf (c : UInt8) : Nat := if c = 121 then 0 else if c = 119 then 1 else if c = 100 then 2 else if c = 104 then 3 else if c = 109 then 4 else if c = 115 then 5 else 7
/-- The unit at a place, and the place behind it. -/
def unitAt (l : List UInt8) (i : Nat) : Nat × Nat :=
  if l.length ≤ i then (7, i)
  else if atB l i = 109 ∧ i + 1 < l.length ∧ atB l (i + 1) = 115 then (6, i + 2)
  else if uOf (atB l i) = 7 then (7, i) else (uOf (atB l i), i + 1)
/-- A run of digits as a number, no more than a little above the greatest duration. -/
def satStep (n : Nat) (c : UInt8) : Nat := min (n * 10 + (c.toNat - 48)) 315360000000001
def satGo (n : Nat) (l : List UInt8) : Nat := l.foldl satStep n
def sat (l : List UInt8) : Nat := satGo 0 l
/-- One part behind the sum. -/
def partSum (n u sum : Nat) : Nat := if 315360000000000 / uSize u < n then 315360000000001 else min (sum + n * uSize u) 315360000000001
/-- The parts of a duration from a place on: the place behind them and their sum. -/
def mGo : Nat → List UInt8 → Nat → Nat → Nat → Nat × Nat
  | 0, _, fin, _, sum => (fin, sum)
  | f + 1, l, fin, next, sum =>
    if spanEnd digit l fin = fin ∨ (unitAt l (spanEnd digit l fin)).1 < next ∨ (unitAt l (spanEnd digit l fin)).1 = 7 then (fin, sum)
    else mGo f l (unitAt l (spanEnd digit l fin)).2 ((unitAt l (spanEnd digit l fin)).1 + 1) (partSum (sat ((l.drop fin).take (spanEnd digit l fin - fin))) (unitAt l (spanEnd digit l fin)).1 sum)
def measure (l : List UInt8) : Nat × Nat := mGo 8 l 0 0 0
def spanPrefix (l : List UInt8) : Nat := (measure l).1
/-- A duration's milliseconds; an error's number. -/
def spanParse (l : List UInt8) : Nat × Nat :=
  if 64 < l.length then (0, 1)
  else if (measure l).1 = 0 ∨ (measure l).1 < l.length then (0, 30)
  else if 315360000000000 < (measure l).2 then (0, 31) else ((measure l).2, 0)
theorem satGo_cons (n : Nat) (c : UInt8) (r : List UInt8) : satGo n (c :: r) = satGo (satStep n c) r := by
  unfold satGo
  exact List.foldl_cons ..
theorem satStep_le (n : Nat) (c : UInt8) : satStep n c ≤ 315360000000001 := by unfold satStep; exact Nat.min_le_right _ _
theorem satGo_le : ∀ (l : List UInt8) (n : Nat), n ≤ 315360000000001 → satGo n l ≤ 315360000000001
  | [], n, h => h
  | c :: r, n, _ => by
    have h := satGo_cons n c r
    rw [h]; exact satGo_le r _ (satStep_le n c)
theorem sat_le (l : List UInt8) : sat l ≤ 315360000000001 := by
  rw [sat]; exact satGo_le l 0 (Nat.zero_le _)
theorem uOf_le (c : UInt8) : uOf c ≤ 5 ∨ uOf c = 7 := by
  unfold uOf
  repeat' split
  all_goals omega
theorem unitAt_ge (l : List UInt8) (i : Nat) : i ≤ (unitAt l i).2 ∧ (i ≤ l.length → (unitAt l i).2 ≤ l.length) ∧ ((unitAt l i).1 ≤ 6 ∨ (unitAt l i).1 = 7) := by
  unfold unitAt
  split
  · exact ⟨Nat.le_refl _, fun h => h, .inr rfl⟩
  · split
    · rename_i h; exact ⟨by simp, fun _ => by simp; omega, .inl (by simp)⟩
    · split
      · exact ⟨Nat.le_refl _, fun h => h, .inr rfl⟩
      · rename_i h; have := uOf_le (atB l i); exact ⟨by simp, fun _ => by simp; omega, .inl (by simp; omega)⟩
theorem mGo_le : ∀ (f : Nat) (l : List UInt8) (fin next sum : Nat), fin ≤ l.length → (mGo f l fin next sum).1 ≤ l.length
  | 0, _, _, _, _, h => h
  | f + 1, l, fin, next, sum, h => by
    rw [mGo]
    split
    · exact h
    · exact mGo_le f l _ _ _ ((unitAt_ge l _).2.1 (spanEnd_le digit l fin h))
theorem spanPrefix_le (l : List UInt8) : spanPrefix l ≤ l.length := mGo_le 8 l 0 0 0 (Nat.zero_le _)
theorem uOf_hit {c : UInt8} {k : Nat} (hk : k < 6) (h : uLet k = c) : uOf c = k := by
  subst h
  match k, hk with
  | 0, _ => rfl | 1, _ => rfl | 2, _ => rfl | 3, _ => rfl | 4, _ => rfl | 5, _ => rfl
theorem uOf_miss {c : UInt8} (h : ∀ k, k < 6 → uLet k ≠ c) : uOf c = 7 := by
  have h0 := h 0 (by omega); have h1 := h 1 (by omega); have h2 := h 2 (by omega); have h3 := h 3 (by omega); have h4 := h 4 (by omega); have h5 := h 5 (by omega)
  simp only [uLet] at *
  unfold uOf
  rw [if_neg (Ne.symm h0), if_neg (Ne.symm h1), if_neg (Ne.symm h2), if_neg (Ne.symm h3), if_neg (Ne.symm h4), if_neg (Ne.symm h5)]
theorem uSize_pos (u : Nat) : 1 ≤ uSize u ∧ uSize u ≤ 31536000000 := by
  unfold uSize; split <;> omega
end Go.Proofs.YtpkeonafcldkhaaGreatDoor
