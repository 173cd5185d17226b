import Derived.Test.YtpkeonafcldkhaaGreatDoorPlD
/- Plain words of layer 2: numbers' lexemes. -/
set_option linter.unusedVariables false
set_option linter.unusedSimpArgs false
namespace Go.Proofs.YtpkeonafcldkhaaGreatDoor
open Go.RowKit

def hexd (c : UInt8) : Bool := digit c || (97 ≤ c.toNat && c.toNat ≤ 102) || (65 ≤ c.toNat && c.toNat ≤ 70)
def isE (c : UInt8) : Bool := c.toNat == 101 || c.toNat == 69
def isPM (c : UInt8) : Bool := c.toNat == 43 || c.toNat == 45
def isX (c : UInt8) : Bool := c.toNat == 120 || c.toNat == 88
/-- The place behind the sign of an exponent whose letter stands at i. -/
def expAt (l : List UInt8) (i : Nat) : Nat := if i + 1 < l.length ∧ isPM (atB l (i + 1)) = true then i + 2 else i + 1
/-- The place behind an exponent at i. -/
def expEnd (l : List UInt8) (i : Nat) : Nat :=
  if l.length ≤ i ∨ isE (atB l i) = false then i
  else if expAt l i < spanEnd digit l (expAt l i) then spanEnd digit l (expAt l i) else i
/-- Does a hexadecimal lexeme stand at the head? -/
def hexHead (l : List UInt8) : Bool := decide (2 < l.length) && (atB l 0).toNat == 48 && isX (atB l 1) && hexd (atB l 2)
/-- The place behind the digits and the point at the head; 0: none. -/
def decEnd (l : List UInt8) : Nat :=
  if spanEnd digit l 0 < l.length ∧ (atB l (spanEnd digit l 0)).toNat = 46 ∧ 0 < spanEnd digit l 0 then spanEnd digit l (spanEnd digit l 0 + 1)
  else if spanEnd digit l 0 = 0 ∧ 1 < l.length ∧ (atB l 0).toNat = 46 ∧ digit (atB l 1) = true then spanEnd digit l 1
  else spanEnd digit l 0
def numPrefix (l : List UInt8) : Nat :=
  if hexHead l = true then spanEnd hexd l 2 else if decEnd l = 0 then 0 else expEnd l (decEnd l)
theorem expAt_bound (l : List UInt8) (i : Nat) (h : i < l.length) : i + 1 ≤ expAt l i ∧ expAt l i ≤ l.length := by
  unfold expAt; split <;> omega
theorem expEnd_le (l : List UInt8) (i : Nat) (h : i ≤ l.length) : i ≤ expEnd l i ∧ expEnd l i ≤ l.length := by
  unfold expEnd
  split
  · omega
  · have h1 := expAt_bound l i (by omega)
    have h2 := spanEnd_le digit l (expAt l i) h1.2
    split <;> omega
theorem decEnd_le (l : List UInt8) : decEnd l ≤ l.length := by
  unfold decEnd
  have h0 := spanEnd_le digit l 0 (Nat.zero_le _)
  split
  · exact spanEnd_le digit l _ (by omega)
  · split
    · exact spanEnd_le digit l _ (by omega)
    · exact h0
theorem numPrefix_le (l : List UInt8) : numPrefix l ≤ l.length := by
  unfold numPrefix
  split
  · rename_i h
    simp [hexHead] at h
    exact spanEnd_le hexd l 2 (by omega)
  · split
    · omega
    · exact (expEnd_le l _ (decEnd_le l)).2
theorem dec_A {s : ByteArray} {k : Nat} (h : hexHead s.data.toList = false) (hk : spanEnd digit s.data.toList 0 = k) (h1 : k < s.size) (h2 : ((s[k].toNat : Int) == 46) = true) (h3 : 0 < k) : numPrefix s.data.toList = expEnd s.data.toList (spanEnd digit s.data.toList (k + 1)) := by
  have h4 : s[k].toNat = 46 := by have : (s[k].toNat : Int) = 46 := beq_iff_eq.1 h2; omega
  have h5 : decEnd s.data.toList = spanEnd digit s.data.toList (k + 1) := by
    rw [decEnd, hk, if_pos ⟨by rw [len_data]; exact h1, by rw [atB_lt h1]; exact h4, h3⟩]
  have := spanEnd_ge digit s.data.toList (k + 1)
  rw [numPrefix, h, h5, if_neg (by simp), if_neg (by omega)]
theorem dec_C {s : ByteArray} (h : hexHead s.data.toList = false) (hk : spanEnd digit s.data.toList 0 = 0) (h1 : 1 < s.size) (h2 : ((s[0].toNat : Int) == 46) = true) (h3 : digit s[1] = true) : numPrefix s.data.toList = expEnd s.data.toList (spanEnd digit s.data.toList 1) := by
  have h4 : s[0].toNat = 46 := by have : (s[0].toNat : Int) = 46 := beq_iff_eq.1 h2; omega
  have h5 : decEnd s.data.toList = spanEnd digit s.data.toList 1 := by
    rw [decEnd, hk, if_neg (by omega), if_pos ⟨rfl, by rw [len_data]; exact h1, by rw [atB_lt (by omega)]; exact h4, by rw [atB_lt h1]; exact h3⟩]
  have := spanEnd_ge digit s.data.toList 1
  rw [numPrefix, h, h5, if_neg (by simp), if_neg (by omega)]
theorem dec_N {s : ByteArray} {k : Nat} (h : hexHead s.data.toList = false) (hk : spanEnd digit s.data.toList 0 = k) (h0 : k ≠ 0) (h1 : ∀ h : k < s.size, ((s[k].toNat : Int) == 46) = false) : numPrefix s.data.toList = expEnd s.data.toList k := by
  have h5 : decEnd s.data.toList = k := by
    rw [decEnd, hk, if_neg, if_neg (by omega)]
    rintro ⟨ha, hb, _⟩
    rw [len_data] at ha
    rw [atB_lt ha] at hb
    have := beq_eq_false_iff_ne.1 (h1 ha)
    omega
  rw [numPrefix, h, h5, if_neg (by simp), if_neg h0]
theorem dec_0 {s : ByteArray} (h : hexHead s.data.toList = false) (hk : spanEnd digit s.data.toList 0 = 0) (h1 : ∀ h : 1 < s.size, ((s[0].toNat : Int) == 46) = true → digit s[1] = false) : numPrefix s.data.toList = 0 := by
  have h5 : decEnd s.data.toList = 0 := by
    rw [decEnd, hk, if_neg (by omega), if_neg]
    rintro ⟨_, ha, hb, hc⟩
    rw [len_data] at ha
    rw [atB_lt (by omega)] at hb
    rw [atB_lt ha, h1 ha (by rw [beq_iff_eq]; omega)] at hc
    simp at hc
  rw [numPrefix, h, h5, if_neg (by simp), if_pos rfl]
theorem hex_yes {s : ByteArray} (h : hexHead s.data.toList = true) : ∃ h : 2 < s.size, ((s[0].toNat : Int) == 48) = true ∧ hexd s[2] = true ∧ ((((s[1].toNat : Int) == 120) = true) ∨ (((s[1].toNat : Int) == 120) = false ∧ ((s[1].toNat : Int) == 88) = true)) := by
  simp only [hexHead, Bool.and_eq_true, decide_eq_true_eq, len_data] at h
  obtain ⟨⟨⟨h1, h2⟩, h3⟩, h4⟩ := h
  rw [atB_lt (by omega)] at h2 h3
  rw [atB_lt h1] at h4
  refine ⟨h1, by simp at h2 ⊢; omega, h4, ?_⟩
  simp [isX] at h3 ⊢
  omega
theorem hex_no {s : ByteArray} (h : hexHead s.data.toList = false) : ¬ 2 < s.size ∨ ∃ h : 2 < s.size, ((s[0].toNat : Int) == 48) = false ∨ ((s[0].toNat : Int) == 48) = true ∧ ((((s[1].toNat : Int) == 120) = false ∧ ((s[1].toNat : Int) == 88) = false) ∨ ((s[1].toNat : Int) == 120) = true ∧ hexd s[2] = false ∨ ((s[1].toNat : Int) == 120) = false ∧ ((s[1].toNat : Int) == 88) = true ∧ hexd s[2] = false) := by
  by_cases h1 : 2 < s.size
  · refine .inr ⟨h1, ?_⟩
    simp only [hexHead, len_data, decide_eq_true h1, Bool.true_and] at h
    rw [atB_lt (by omega), atB_lt (by omega), atB_lt h1] at h
    cases h2 : ((s[0].toNat : Int) == 48)
    · exact .inl rfl
    · refine .inr ⟨rfl, ?_⟩
      have h2' : (s[0].toNat == 48) = true := by simp at h2 ⊢; omega
      rw [h2', Bool.true_and] at h
      cases h3 : ((s[1].toNat : Int) == 120)
      · cases h4 : ((s[1].toNat : Int) == 88)
        · exact .inl ⟨rfl, rfl⟩
        · have : isX s[1] = true := by simp [isX] at h4 ⊢; omega
          rw [this, Bool.true_and] at h
          exact .inr (.inr ⟨rfl, rfl, h⟩)
      · have : isX s[1] = true := by simp [isX] at h3 ⊢; omega
        rw [this, Bool.true_and] at h
        exact .inr (.inl ⟨rfl, h⟩)
  · exact .inl h1
theorem expEnd_out {s : ByteArray} {i : Nat} (h : (i : Int) = (s.size : Int)) : expEnd s.data.toList i = i := by
  rw [expEnd, if_pos (.inl (by rw [len_data]; omega))]
theorem expEnd_no {s : ByteArray} {i : Nat} (h : i < s.size) (h1 : (s[i].toNat : Int) ≠ 101) (h2 : (s[i].toNat : Int) ≠ 69) : expEnd s.data.toList i = i := by
  rw [expEnd, if_pos (.inr (by rw [atB_lt h, isE]; simp; omega))]
theorem expAt_sg {s : ByteArray} {i : Nat} (h : i + 1 < s.size) (h2 : (s[i+1].toNat : Int) = 43 ∨ (s[i+1].toNat : Int) = 45) : expAt s.data.toList i = i + 2 := by
  rw [expAt, if_pos ⟨by rw [len_data]; exact h, by rw [atB_lt h, isPM]; simp; omega⟩]
theorem expAt_ns {s : ByteArray} {i : Nat} (h2 : ∀ h : i + 1 < s.size, (s[i+1].toNat : Int) ≠ 43 ∧ (s[i+1].toNat : Int) ≠ 45) : expAt s.data.toList i = i + 1 := by
  rw [expAt, if_neg]
  rintro ⟨ha, hb⟩
  rw [len_data] at ha
  rw [atB_lt ha, isPM] at hb
  have := h2 ha
  simp at hb; omega
theorem expEnd_yes {s : ByteArray} {i j k : Nat} (h : i < s.size) (h1 : (s[i].toNat : Int) = 101 ∨ (s[i].toNat : Int) = 69) (hj : expAt s.data.toList i = j) (hk : spanEnd digit s.data.toList j = k) (hlt : j < k) : expEnd s.data.toList i = k := by
  rw [expEnd, hj, hk, if_neg, if_pos hlt]
  rw [len_data, atB_lt h, isE]
  simp; omega
theorem expEnd_sole {s : ByteArray} {i j k : Nat} (hj : expAt s.data.toList i = j) (hk : spanEnd digit s.data.toList j = k) (hlt : ¬ j < k) : expEnd s.data.toList i = i := by
  rw [expEnd, hj, hk, if_neg hlt, ite_self]
end Go.Proofs.YtpkeonafcldkhaaGreatDoor
