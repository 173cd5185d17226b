import Derived.Test.YtpkeonafcldkhaaGreatDoorPlF
/- Plain words of lex: one token. -/
set_option linter.unusedVariables false
set_option linter.unusedSimpArgs false
namespace Go.Proofs.YtpkeonafcldkhaaGreatDoor
open Go.RowKit

/-- A string's token at the head. -/
def strR (l : List UInt8) (br sq : Bool) : TokR :=
  match litEnd l 0 with
  | none => .bad 111
  | some n => if (unquote (l.take n)).1 = 0 then .tok 5 n br sq else .bad 111
/-- The token at the head of l. -/
def tokenR (l : List UInt8) (br sq : Bool) : TokR :=
  if letter (atB l 0) = true then .tok (nameTok br (l.take (spanEnd (nameCh (!br && !sq)) l 0))) (spanEnd (nameCh (!br && !sq)) l 0) br sq
  else if (atB l 0).toNat = 58 ∧ (!br && !sq) = true then .tok 2 (spanEnd (nameCh true) l 1) br sq
  else if digit (atB l 0) = true ∨ ((atB l 0).toNat = 46 ∧ 1 < l.length ∧ digit (atB l 1) = true) then numberR l br sq
  else if isQuote (atB l 0) = true then strR l br sq
  else opR l br sq
theorem litGo_le (q : UInt8) : ∀ (l : List UInt8) (n : Nat), litGo q l = some n → 1 ≤ n ∧ n ≤ l.length
  | [], n, h => by simp [litGo] at h
  | [c], n, h => by
    simp only [litGo] at h
    split at h
    · simp at h; subst h; simp
    · simp at h
  | c :: d :: r, n, h => by
    simp only [litGo] at h
    split at h
    · simp at h; subst h; simp
    · split at h
      · obtain ⟨m, hm, rfl⟩ := Option.map_eq_some_iff.1 h
        have := litGo_le q (d :: r) m hm
        simp at *; omega
      · split at h
        · simp at h
        · split at h
          · split at h
            · simp at h
            · obtain ⟨m, hm, rfl⟩ := Option.map_eq_some_iff.1 h
              have := litGo_le q r m hm
              simp at *; omega
          · obtain ⟨m, hm, rfl⟩ := Option.map_eq_some_iff.1 h
            have := litGo_le q (d :: r) m hm
            simp at *; omega
theorem litEnd_le {l : List UInt8} {i n : Nat} (h : litEnd l i = some n) : i + 2 ≤ n ∧ n ≤ l.length := by
  unfold litEnd at h
  split at h
  · obtain ⟨m, hm, rfl⟩ := Option.map_eq_some_iff.1 h
    have := litGo_le _ _ m hm
    simp at this
    omega
  · simp at h
theorem atB_drop (l : List UInt8) (i j : Nat) : atB (l.drop i) j = atB l (i + j) := by
  simp [atB, List.getD_eq_getElem?_getD]
theorem litEnd_drop (l : List UInt8) (i : Nat) : litEnd l i = (litEnd (l.drop i) 0).map (· + i) := by
  rw [litEnd, litEnd, atB_drop, List.drop_drop, List.length_drop]
  by_cases h : i < l.length ∧ isQuote (atB l i) = true
  · rw [if_pos h, if_pos ⟨by omega, h.2⟩]
    cases litGo (atB l i) (l.drop (i + 1))
    · rfl
    · simp; omega
  · rw [if_neg h, if_neg (by intro h2; exact h ⟨by omega, h2.2⟩)]
    rfl
end Go.Proofs.YtpkeonafcldkhaaGreatDoor
