import Derived.Test.YtpkeonafcldkhaaGreatDoorPlG
/- Plain words of lex: the whole text. -/
set_option linter.unusedVariables false
set_option linter.unusedSimpArgs false
namespace Go.Proofs.YtpkeonafcldkhaaGreatDoor
open Go.RowKit

/-- A token. -/
structure Tok where
  kind : Nat
  text : List UInt8
  pos : Nat
def isBl (c : UInt8) : Bool := c.toNat == 9 || c.toNat == 10 || c.toNat == 13 || c.toNat == 32
def notNl (c : UInt8) : Bool := c.toNat != 10
/-- How many bytes a remark takes, its line's end too. -/
def remark (l : List UInt8) : Nat := min (spanEnd notNl l 0 + 1) l.length
/-- The tokens of l, which stands at place p; the fault. -/
def scanL : Nat → List UInt8 → Nat → Bool → Bool → List Tok × Option (Nat × Nat)
  | 0, _, _, _, _ => ([], none)
  | f + 1, l, p, br, sq =>
    if l = [] then ([], none)
    else if isBl (atB l 0) = true then scanL f (l.drop 1) (p + 1) br sq
    else if (atB l 0).toNat = 35 then scanL f (l.drop (remark l)) (p + remark l) br sq
    else match tokenR l br sq with
      | .bad e => ([], some (p, e))
      | .tok k n b q => (⟨k, l.take n, p⟩ :: (scanL f (l.drop n) (p + n) b q).1, (scanL f (l.drop n) (p + n) b q).2)
def scanF (l : List UInt8) (p : Nat) (br sq : Bool) : List Tok × Option (Nat × Nat) := scanL l.length l p br sq
theorem nil_len {l : List UInt8} (h : l ≠ []) : 0 < l.length := List.length_pos_iff.2 h
theorem remark_pos {l : List UInt8} (h : l ≠ []) : 1 ≤ remark l ∧ remark l ≤ l.length := by
  have := nil_len h
  unfold remark
  omega
theorem atB_cons {l : List UInt8} (h : l ≠ []) : l = atB l 0 :: l.drop 1 := by
  cases l with
  | nil => exact absurd rfl h
  | cons c r => rfl
theorem spanEnd_first {p : UInt8 → Bool} {l : List UInt8} (h : l ≠ []) (hp : p (atB l 0) = true) : 1 ≤ spanEnd p l 0 := by
  cases l with
  | nil => exact absurd rfl h
  | cons c r =>
    have hp' : p c = true := hp
    simp [spanEnd, List.takeWhile_cons, hp']
theorem numPrefix_digit {l : List UInt8} (h : l ≠ []) (hd : digit (atB l 0) = true ∨ ((atB l 0).toNat = 46 ∧ 1 < l.length ∧ digit (atB l 1) = true)) : 1 ≤ numPrefix l := by
  unfold numPrefix
  split
  · have := spanEnd_ge hexd l 2; omega
  · have h1 : 1 ≤ decEnd l := by
      rcases hd with hd | ⟨h1, h2, h3⟩
      · have hs := spanEnd_first h hd
        unfold decEnd
        split
        · have := spanEnd_ge digit l (spanEnd digit l 0 + 1); omega
        · rw [if_neg (by omega)]; exact hs
      · have h0 : spanEnd digit l 0 = 0 := by
          cases l with
          | nil => exact absurd rfl h
          | cons c r =>
            have : digit c = false := by
              have h1' : c.toNat = 46 := h1
              simp [digit, h1']
            simp [spanEnd, List.takeWhile_cons, this]
        rw [decEnd, h0, if_neg (by omega), if_pos ⟨rfl, h2, h1, h3⟩]
        exact spanEnd_ge digit l 1
    rw [if_neg (by omega)]
    have := expEnd_le l (decEnd l) (decEnd_le l)
    omega
theorem tokenR_pos {l : List UInt8} {br sq b q : Bool} {k n : Nat} (h : l ≠ []) (ht : tokenR l br sq = .tok k n b q) : 1 ≤ n ∧ n ≤ l.length := by
  have hl := nil_len h
  unfold tokenR at ht
  split at ht
  · rename_i h1
    injection ht with _ h2
    subst h2
    exact ⟨spanEnd_first h (nameCh_letter h1), spanEnd_le _ l 0 (Nat.zero_le _)⟩
  · split at ht
    · injection ht with _ h2
      subst h2
      exact ⟨spanEnd_ge _ l 1, spanEnd_le _ l 1 hl⟩
    · split at ht
      · rename_i h1
        have hp := numPrefix_digit h h1
        have hle := numLen_le l
        unfold numberR at ht
        split at ht
        · cases ht
        · split at ht
          · cases ht
          · injection ht with _ h2
            subst h2
            refine ⟨?_, hle⟩
            unfold numLen
            split <;> omega
      · split at ht
        · unfold strR at ht
          split at ht
          · cases ht
          · rename_i m hm
            have := litEnd_le hm
            split at ht
            · injection ht with _ h2
              omega
            · cases ht
        · unfold opR at ht
          split at ht
          · rename_i h2
            simp [op2] at h2
            injection ht with _ h3
            omega
          · repeat' split at ht
            all_goals first
              | (injection ht with _ h3; omega)
              | cases ht
theorem scanL_fuel : ∀ (f g : Nat) (l : List UInt8) (p : Nat) (br sq : Bool), l.length ≤ f → l.length ≤ g → scanL f l p br sq = scanL g l p br sq
  | 0, g, l, p, br, sq, hf, _ => by
    have : l = [] := List.eq_nil_of_length_eq_zero (by omega)
    subst this
    cases g <;> simp [scanL]
  | f + 1, 0, l, p, br, sq, _, hg => by
    have : l = [] := List.eq_nil_of_length_eq_zero (by omega)
    subst this
    simp [scanL]
  | f + 1, g + 1, l, p, br, sq, hf, hg => by
    rw [scanL, scanL]
    by_cases h : l = []
    · rw [if_pos h, if_pos h]
    · have hl := nil_len h
      have hr := remark_pos h
      rw [if_neg h, if_neg h, scanL_fuel f g (l.drop 1) _ _ _ (by simp; omega) (by simp; omega), scanL_fuel f g (l.drop (remark l)) _ _ _ (by simp; omega) (by simp; omega)]
      cases ht : tokenR l br sq with
      | bad e => rfl
      | tok k n b q =>
        have hn := tokenR_pos h ht
        dsimp only
        rw [scanL_fuel f g (l.drop n) _ _ _ (by simp; omega) (by simp; omega)]
theorem scanF_nil (p : Nat) (br sq : Bool) : scanF [] p br sq = ([], none) := rfl
theorem scanF_eq {l : List UInt8} (h : l ≠ []) (p : Nat) (br sq : Bool) : scanF l p br sq =
    if isBl (atB l 0) = true then scanF (l.drop 1) (p + 1) br sq
    else if (atB l 0).toNat = 35 then scanF (l.drop (remark l)) (p + remark l) br sq
    else match tokenR l br sq with
      | .bad e => ([], some (p, e))
      | .tok k n b q => (⟨k, l.take n, p⟩ :: (scanF (l.drop n) (p + n) b q).1, (scanF (l.drop n) (p + n) b q).2) := by
  have hl := nil_len h
  have hr := remark_pos h
  obtain ⟨f, hf⟩ : ∃ f, l.length = f + 1 := ⟨l.length - 1, by omega⟩
  unfold scanF
  rw [hf, scanL, if_neg h, scanL_fuel f (l.drop 1).length (l.drop 1) _ _ _ (by simp; omega) (Nat.le_refl _), scanL_fuel f (l.drop (remark l)).length (l.drop (remark l)) _ _ _ (by simp; omega) (Nat.le_refl _)]
  cases ht : tokenR l br sq with
  | bad e => rfl
  | tok k n b q =>
    have hn := tokenR_pos h ht
    dsimp only
    rw [scanL_fuel f (l.drop n).length (l.drop n) _ _ _ (by simp; omega) (Nat.le_refl _)]
theorem scanF_blank {l : List UInt8} (h : l ≠ []) (hb : isBl (atB l 0) = true) (p : Nat) (br sq : Bool) : scanF l p br sq = scanF (l.drop 1) (p + 1) br sq := by
  rw [scanF_eq h, if_pos hb]
theorem bl35 {c : UInt8} (h : c.toNat = 35) : isBl c = false := by simp [isBl, h]
theorem scanF_remark {l : List UInt8} (h : l ≠ []) (hc : (atB l 0).toNat = 35) (p : Nat) (br sq : Bool) : scanF l p br sq = scanF (l.drop (remark l)) (p + remark l) br sq := by
  rw [scanF_eq h, bl35 hc, if_neg (by simp), if_pos hc]
theorem scanF_bad {l : List UInt8} (h : l ≠ []) {br sq : Bool} {e : Nat} (hb : isBl (atB l 0) = false) (hc : (atB l 0).toNat ≠ 35) (ht : tokenR l br sq = .bad e) (p : Nat) : scanF l p br sq = ([], some (p, e)) := by
  rw [scanF_eq h, hb, if_neg (by simp), if_neg hc, ht]
theorem scanF_tok {l : List UInt8} (h : l ≠ []) {br sq b q : Bool} {k n : Nat} (hb : isBl (atB l 0) = false) (hc : (atB l 0).toNat ≠ 35) (ht : tokenR l br sq = .tok k n b q) (p : Nat) :
    scanF l p br sq = (⟨k, l.take n, p⟩ :: (scanF (l.drop n) (p + n) b q).1, (scanF (l.drop n) (p + n) b q).2) := by
  rw [scanF_eq h, hb, if_neg (by simp), if_neg hc, ht]
end Go.Proofs.YtpkeonafcldkhaaGreatDoor
