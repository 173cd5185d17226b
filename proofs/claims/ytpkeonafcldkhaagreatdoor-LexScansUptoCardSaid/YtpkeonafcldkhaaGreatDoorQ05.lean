import Derived.Test.YtpkeonafcldkhaaGreatDoorQ03
import Derived.Lib.Strings
/- Part of the proof of YtpkeonafcldkhaaGreatDoorCardS CardV: PlC PlD. -/
set_option linter.unusedVariables false
set_option linter.unusedSimpArgs false
namespace Go.Proofs.YtpkeonafcldkhaaGreatDoor
open Go.RowKit
theorem digsGoB_some {base : Nat} : ∀ {l : List UInt8} {v r : Nat}, digsGoB base v l = some r → digsGo base v l = some r
 | [], v, r, h => by simpa [digsGoB, digsGo] using h
 |c :: l, v, r, h => by
  simp only [digsGoB] at h
  simp only [digsGo]
  cases hd : digVal c with
  |none => rw [hd] at h; simp at h
  |some d =>
   rw [hd] at h
   simp only at h ⊢
   by_cases hb : d < base ∧ v ≤ 8388607
   ·rw [if_pos hb] at h
    rw [if_pos hb.1]
    exact digsGoB_some h
   ·rw [if_neg hb] at h; simp at h
theorem digsGo_ge {base : Nat} (hb : 1 ≤ base) : ∀ {l : List UInt8} {v r : Nat}, digsGo base v l = some r → v ≤ r
 | [], v, r, h => by simp [digsGo] at h; omega
 |c :: l, v, r, h => by
  simp only [digsGo] at h
  cases hd : digVal c with
  |none => rw [hd] at h; simp at h
  |some d =>
   rw [hd] at h
   simp only at h
   split at h
   ·have := digsGo_ge hb h
    have h2 : v * 1 ≤ v * base := Nat.mul_le_mul_left v hb
    omega
   ·simp at h
theorem digsGo_some {base : Nat} (hb : 1 ≤ base) : ∀ {l : List UInt8} {v r : Nat}, digsGo base v l = some r → r ≤ 8388607 → digsGoB base v l = some r
 | [], v, r, h, _ => by simpa [digsGoB, digsGo] using h
 |c :: l, v, r, h, hr => by
  have hv := digsGo_ge hb h
  simp only [digsGo] at h
  simp only [digsGoB]
  cases hd : digVal c with
  |none => rw [hd] at h; simp at h
  |some d =>
   rw [hd] at h
   simp only at h ⊢
   by_cases hdb : d < base
   ·rw [if_pos hdb] at h
    rw [if_pos ⟨hdb, by omega⟩]
    exact digsGo_some hb h hr
   ·rw [if_neg hdb] at h; simp at h
theorem digsB_eq {l : List UInt8} {n base : Nat} (hb : 1 ≤ base) (hn : ∀ r, digs l n base = some r → r ≤ 8388607) : digsB l n base = digs l n base := by
 unfold digsB
 unfold digs at hn ⊢
 split
 ·rfl
 ·rename_i hl
  rw [if_neg hl] at hn
  cases h : digsGo base 0 (l.take n) with
  |some r => exact digsGo_some hb h (hn r h)
  |none =>
   cases h' : digsGoB base 0 (l.take n) with
   |none => rfl
   |some r => rw [digsGoB_some h'] at h; simp at h
theorem digsGo_lt {base : Nat} : ∀ {l : List UInt8} {v r : Nat}, digsGo base v l = some r → r < (v + 1) * base ^ l.length
 | [], v, r, h => by simp [digsGo] at h; simp; omega
 |c :: l, v, r, h => by
  simp only [digsGo] at h
  cases hd : digVal c with
  |none => rw [hd] at h; simp at h
  |some d =>
   rw [hd] at h
   simp only at h
   split at h
   ·rename_i hdb
    have := digsGo_lt h
    have h2 : v * base + d + 1 ≤ (v + 1) * base := by rw [Nat.add_mul]; omega
    have h3 := Nat.mul_le_mul_right (base ^ l.length) h2
    rw [List.length_cons, Nat.pow_succ, Nat.mul_comm (base ^ l.length) base, ← Nat.mul_assoc]
    omega
   ·simp at h
theorem digs_lt {l : List UInt8} {n base r : Nat} (hb : 1 ≤ base) (h : digs l n base = some r) : r < base ^ n := by
 unfold digs at h
 split at h
 ·simp at h
 ·have := digsGo_lt h
  have h2 : (l.take n).length ≤ n := List.length_take_le n l
  have h3 := Nat.pow_le_pow_right hb h2
  omega
theorem digsB_16_2 (l : List UInt8) : digsB l 2 16 = digs l 2 16 := digsB_eq (by omega) fun r h => by have := digs_lt (by omega) h; omega
theorem digsB_16_4 (l : List UInt8) : digsB l 4 16 = digs l 4 16 := digsB_eq (by omega) fun r h => by have := digs_lt (by omega) h; omega
theorem digsB_8_3 (l : List UInt8) : digsB l 3 8 = digs l 3 8 := digsB_eq (by omega) fun r h => by have := digs_lt (by omega) h; omega
theorem isRuneN_le {n : Nat} (h : isRuneN n = true) : n ≤ 1114111 := by simp [isRuneN] at h; omega
theorem digsB_16_8 (l : List UInt8) (F : Nat → Option (List UInt8 × Nat)) : ((digsB l 8 16).bind fun v => if isRuneN v then F v else none) = ((digs l 8 16).bind fun v => if isRuneN v then F v else none) := by
 unfold digsB digs
 split
 ·rfl
 ·cases h : digsGoB 16 0 (l.take 8) with
  |some r => rw [digsGoB_some h]
  |none =>
   cases h' : digsGo 16 0 (l.take 8) with
   |none => rfl
   |some r =>
    cases hr : isRuneN r
    ·simp [hr]
    ·rw [digsGo_some (by omega) h' (by have := isRuneN_le hr; omega)] at h; simp at h
def escB (q : UInt8) (l : List UInt8) : List UInt8 × Nat := (escOut q l).getD ([], 0)
theorem esc_plain {q c : UInt8} {r : List UInt8} (h : isPlain c = true) : escB q (c :: r) = ([plainB c], 1) := by simp [escB, escOut, h]
theorem esc_self {q c : UInt8} {r : List UInt8} (h : isPlain c = false) (h2 : c = 92 ∨ c = q) : escB q (c :: r) = ([c], 1) := by simp [escB, escOut, h, h2]
theorem esc_x {q c : UInt8} {r : List UInt8} (hc : c = 120) (hq : c ≠ q) : escB q (c :: r) = match digsB r 2 16 with | some v => ([UInt8.ofNat v], 3) | none => ([], 0) := by
  subst hc
  rw [digsB_16_2]
  have h1 : ¬ ((120 : UInt8) = 92 ∨ (120 : UInt8) = q) := by rintro (h | h); · exact absurd h (by decide)
                                                             · exact hq h
  have h0 : isPlain 120 = false := by decide
  unfold escB escOut
  simp only [h0, h1, if_false, if_true, Bool.false_eq_true]
  cases digs r 2 16 <;> rfl
theorem esc_u {q c : UInt8} {r : List UInt8} (hc : c = 117) (hq : c ≠ q) : escB q (c :: r) = match digsB r 4 16 with | some v => if isRuneN v then (formB v, 5) else ([], 0) | none => ([], 0) := by
  subst hc
  rw [digsB_16_4]
  have h1 : ¬ ((117 : UInt8) = 92 ∨ (117 : UInt8) = q) := by rintro (h | h); · exact absurd h (by decide)
                                                             · exact hq h
  have h0 : isPlain 117 = false := by decide
  have h2 : ¬ ((117 : UInt8) = 120) := by decide
  unfold escB escOut
  simp only [h0, h1, h2, if_false, if_true, Bool.false_eq_true]
  cases digs r 4 16 with
  | none => rfl
  | some v => cases h : isRuneN v <;> simp [h]
theorem esc_U {q c : UInt8} {r : List UInt8} (hc : c = 85) (hq : c ≠ q) : escB q (c :: r) = match digsB r 8 16 with | some v => if isRuneN v then (formB v, 9) else ([], 0) | none => ([], 0) := by
  subst hc
  have h1 : ¬ ((85 : UInt8) = 92 ∨ (85 : UInt8) = q) := by rintro (h | h); · exact absurd h (by decide)
                                                           · exact hq h
  have h0 : isPlain 85 = false := by decide
  have h2 : ¬ ((85 : UInt8) = 120) := by decide
  have h3 : ¬ ((85 : UInt8) = 117) := by decide
  unfold escB escOut
  simp only [h0, h1, h2, h3, if_false, if_true, Bool.false_eq_true]
  rw [← digsB_16_8]
  cases digsB r 8 16 with
  | none => rfl
  | some v => cases h : isRuneN v <;> simp [h]
theorem esc_oct {q c : UInt8} {r : List UInt8} (h0 : isPlain c = false) (h1 : c ≠ 92) (hq : c ≠ q) (h2 : c ≠ 120) (h3 : c ≠ 117) (h4 : c ≠ 85) : escB q (c :: r) = match digsB (c :: r) 3 8 with | some v => if v ≤ 255 then ([UInt8.ofNat v], 3) else ([], 0) | none => ([], 0) := by
  rw [digsB_8_3]
  have h5 : ¬ (c = 92 ∨ c = q) := by rintro (h | h); · exact h1 h
                                     · exact hq h
  unfold escB escOut
  simp only [h0, h5, h2, h3, h4, if_false, Bool.false_eq_true]
  cases digs (c :: r) 3 8 with
  | none => rfl
  | some v => by_cases h : v ≤ 255 <;> simp [h]
theorem extract_from (s : ByteArray) (k : Nat) : (s.extract k s.size).data.toList = s.data.toList.drop k := by
 rw [Lib.extract_data, List.take_of_length_le (by simp)]
theorem extract_to (s : ByteArray) (k : Nat) : (s.extract 0 k).data.toList = s.data.toList.take k := by
 rw [Lib.extract_data]; simp
def uLet : Nat → UInt8
 | 0 => 121 | 1 => 119 | 2 => 100 | 3 => 104 | 4 => 109 | _ => 115
def uSize : Nat → Nat
 | 0 => 31536000000 | 1 => 604800000 | 2 => 86400000 | 3 => 3600000 | 4 => 60000 | 5 => 1000 | _ => 1
def uOf (c : UInt8) : Nat := if c = 121 then 0 else if c = 119 then 1 else if c = 100 then 2 else if c = 104 then 3 else if c = 109 then 4 else if c = 115 then 5 else 7
def unitAt (l : List UInt8) (i : Nat) : Nat × Nat :=
 if l.length ≤ i then (7, i)
 else if atB l i = 109 ∧ i + 1 < l.length ∧ atB l (i + 1) = 115 then (6, i + 2)
 else if uOf (atB l i) = 7 then (7, i) else (uOf (atB l i), i + 1)
def satStep (n : Nat) (c : UInt8) : Nat := min (n * 10 + (c.toNat - 48)) 315360000000001
def satGo (n : Nat) (l : List UInt8) : Nat := l.foldl satStep n
def sat (l : List UInt8) : Nat := satGo 0 l
def partSum (n u sum : Nat) : Nat := if 315360000000000 / uSize u < n then 315360000000001 else min (sum + n * uSize u) 315360000000001
def mGo : Nat → List UInt8 → Nat → Nat → Nat → Nat × Nat
 | 0, _, fin, _, sum => (fin, sum)
 |f + 1, l, fin, next, sum =>
  if spanEnd digit l fin = fin ∨ (unitAt l (spanEnd digit l fin)).1 < next ∨ (unitAt l (spanEnd digit l fin)).1 = 7 then (fin, sum)
  else mGo f l (unitAt l (spanEnd digit l fin)).2 ((unitAt l (spanEnd digit l fin)).1 + 1) (partSum (sat ((l.drop fin).take (spanEnd digit l fin - fin))) (unitAt l (spanEnd digit l fin)).1 sum)
def measure (l : List UInt8) : Nat × Nat := mGo 8 l 0 0 0
def spanPrefix (l : List UInt8) : Nat := (measure l).1
def spanParse (l : List UInt8) : Nat × Nat :=
 if 64 < l.length then (0, 1)
 else if (measure l).1 = 0 ∨ (measure l).1 < l.length then (0, 30)
 else if 315360000000000 < (measure l).2 then (0, 31) else ((measure l).2, 0)
theorem satGo_cons (n : Nat) (c : UInt8) (r : List UInt8) : satGo n (c :: r) = satGo (satStep n c) r := by
 unfold satGo
 exact List.foldl_cons ..
theorem satStep_le (n : Nat) (c : UInt8) : satStep n c ≤ 315360000000001 := by unfold satStep; exact Nat.min_le_right _ _
theorem satGo_le : ∀ (l : List UInt8) (n : Nat), n ≤ 315360000000001 → satGo n l ≤ 315360000000001
 | [], n, h => h
 |c :: r, n, _ => by
  have h := satGo_cons n c r
  rw [h]; exact satGo_le r _ (satStep_le n c)
theorem sat_le (l : List UInt8) : sat l ≤ 315360000000001 := by
 rw [sat]; exact satGo_le l 0 (Nat.zero_le _)
theorem uOf_le (c : UInt8) : uOf c ≤ 5 ∨ uOf c = 7 := by
 unfold uOf
 repeat' split
 all_goals omega
theorem unitAt_ge (l : List UInt8) (i : Nat) : i ≤ (unitAt l i).2 ∧ (i ≤ l.length → (unitAt l i).2 ≤ l.length) ∧ ((unitAt l i).1 ≤ 6 ∨ (unitAt l i).1 = 7) := by
 unfold unitAt
 split
 ·exact ⟨Nat.le_refl _, fun h => h, .inr rfl⟩
 ·split
  ·rename_i h; exact ⟨by simp, fun _ => by simp; omega, .inl (by simp)⟩
  ·split
   ·exact ⟨Nat.le_refl _, fun h => h, .inr rfl⟩
   ·rename_i h; have := uOf_le (atB l i); exact ⟨by simp, fun _ => by simp; omega, .inl (by simp; omega)⟩
theorem mGo_le : ∀ (f : Nat) (l : List UInt8) (fin next sum : Nat), fin ≤ l.length → (mGo f l fin next sum).1 ≤ l.length
 | 0, _, _, _, _, h => h
 |f + 1, l, fin, next, sum, h => by
  rw [mGo]
  split
  ·exact h
  ·exact mGo_le f l _ _ _ ((unitAt_ge l _).2.1 (spanEnd_le digit l fin h))
theorem spanPrefix_le (l : List UInt8) : spanPrefix l ≤ l.length := mGo_le 8 l 0 0 0 (Nat.zero_le _)
theorem uOf_hit {c : UInt8} {k : Nat} (hk : k < 6) (h : uLet k = c) : uOf c = k := by
 subst h
 match k, hk with
 | 0, _ => rfl | 1, _ => rfl | 2, _ => rfl | 3, _ => rfl | 4, _ => rfl | 5, _ => rfl
theorem uOf_miss {c : UInt8} (h : ∀ k, k < 6 → uLet k ≠ c) : uOf c = 7 := by
 have h0 := h 0 (by omega); have h1 := h 1 (by omega); have h2 := h 2 (by omega); have h3 := h 3 (by omega); have h4 := h 4 (by omega); have h5 := h 5 (by omega)
 simp only [uLet] at *
 unfold uOf
 rw [if_neg (Ne.symm h0), if_neg (Ne.symm h1), if_neg (Ne.symm h2), if_neg (Ne.symm h3), if_neg (Ne.symm h4), if_neg (Ne.symm h5)]
theorem uSize_pos (u : Nat) : 1 ≤ uSize u ∧ uSize u ≤ 31536000000 := by
 unfold uSize; split <;> omega
end Go.Proofs.YtpkeonafcldkhaaGreatDoor
