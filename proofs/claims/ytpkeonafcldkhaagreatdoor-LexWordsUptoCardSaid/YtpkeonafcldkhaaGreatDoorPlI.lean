import Derived.Test.YtpkeonafcldkhaaGreatDoorPlH
/- Plain words of lex: what a lexeme hangs on: the shorter text, when the longer one's lexeme lies in it. -/
set_option linter.unusedVariables false
set_option linter.unusedSimpArgs false
namespace Go.Proofs.YtpkeonafcldkhaaGreatDoor
open Go.RowKit

theorem atB_app {x y : List UInt8} {i : Nat} (h : i < x.length) : atB (x ++ y) i = atB x i := by
  simp [atB, List.getD_eq_getElem?_getD, List.getElem?_append_left h]
theorem spanEnd_app {p : UInt8 → Bool} {x y : List UInt8} {i : Nat} (hi : i ≤ x.length) (h : spanEnd p (x ++ y) i ≤ x.length) : spanEnd p x i = spanEnd p (x ++ y) i := by
  have e : (x ++ y).drop i = x.drop i ++ y := List.drop_append_of_le_length hi
  unfold spanEnd at h ⊢
  rw [e] at h ⊢
  obtain ⟨z, hz⟩ : ∃ z, z = x.drop i := ⟨_, rfl⟩
  have hzl : z.length = x.length - i := by rw [hz]; simp
  rw [← hz] at h ⊢
  clear hz e
  have h2 : ((z ++ y).takeWhile p).length ≤ z.length := by omega
  have h3 : ∀ z : List UInt8, ((z ++ y).takeWhile p).length ≤ z.length → (z.takeWhile p).length = ((z ++ y).takeWhile p).length := by
    intro z
    induction z with
    | nil => intro h; exact (Nat.le_zero.1 h).symm
    | cons c r ih =>
      intro h
      simp only [List.cons_append, List.takeWhile_cons] at *
      split
      · rename_i hp
        rw [if_pos hp] at h
        simp at h
        simp [ih h]
      · rfl
  rw [h3 z h2]
/-- A run that stops at the shorter text's end or ahead of it. -/
theorem spanEnd_sep {p : UInt8 → Bool} {x y : List UInt8} {c : UInt8} {i : Nat} (hi : i ≤ x.length) (hc : p c = false) : spanEnd p (x ++ c :: y) i = spanEnd p x i := by
  refine (spanEnd_app hi ?_).symm
  unfold spanEnd
  rw [List.drop_append_of_le_length hi]
  have h3 : ∀ z : List UInt8, ((z ++ c :: y).takeWhile p).length ≤ z.length := by
    intro z
    induction z with
    | nil => simp [List.takeWhile_cons, hc]
    | cons d r ih =>
      simp only [List.cons_append, List.takeWhile_cons]
      split
      · simp; omega
      · simp
  have := h3 (x.drop i)
  simp at this ⊢
  omega
theorem spanEnd_at {p : UInt8 → Bool} : ∀ {l : List UInt8} {i : Nat}, spanEnd p l i < l.length → p (atB l (spanEnd p l i)) = false := by
  intro l i
  unfold spanEnd
  obtain ⟨z, hz⟩ : ∃ z, z = l.drop i := ⟨_, rfl⟩
  intro h
  have h1 : atB l (i + (z.takeWhile p).length) = atB z (z.takeWhile p).length := by rw [hz, atB_drop]
  rw [← hz] at h ⊢
  rw [h1]
  have hl : (z.takeWhile p).length < z.length := by rw [hz] at h ⊢; simp at h ⊢; omega
  clear h h1 hz
  induction z with
  | nil => simp at hl
  | cons c r ih =>
    simp only [List.takeWhile_cons] at *
    split
    · rename_i hp
      rw [if_pos hp] at hl
      simp only [List.length_cons, Nat.add_lt_add_iff_right] at hl
      exact ih hl
    · rename_i hp
      simpa [atB] using hp
theorem spanEnd_self {p : UInt8 → Bool} {l : List UInt8} {i : Nat} (h : i < l.length) (hp : p (atB l i) = false) : spanEnd p l i = i := by
  refine spanEnd_stop h ?_
  rw [← hp, atB, List.getD_eq_getElem?_getD, List.getElem?_eq_getElem h]; rfl
theorem hexHead_app {x y : List UInt8} (h : 2 < x.length) : hexHead (x ++ y) = hexHead x := by
  unfold hexHead
  rw [atB_app (by omega), atB_app (by omega), atB_app h, decide_eq_true h, decide_eq_true (by simp; omega)]
theorem decEnd_app {x y : List UInt8} (h : decEnd (x ++ y) ≤ x.length) : decEnd x = decEnd (x ++ y) := by
  have h0 : spanEnd digit (x ++ y) 0 ≤ decEnd (x ++ y) := by
    unfold decEnd
    split
    · have := spanEnd_ge digit (x ++ y) (spanEnd digit (x ++ y) 0 + 1); omega
    · split
      · omega
      · omega
  have h1 := spanEnd_app (p := digit) (x := x) (y := y) (Nat.zero_le _) (by omega)
  unfold decEnd at *
  rw [h1]
  generalize spanEnd digit (x ++ y) 0 = k at *
  by_cases c1 : k < (x ++ y).length ∧ (atB (x ++ y) k).toNat = 46 ∧ 0 < k
  · rw [if_pos c1] at h ⊢
    have h2 := spanEnd_ge digit (x ++ y) (k + 1)
    have hk : k < x.length := by omega
    rw [atB_app hk] at c1
    rw [if_pos ⟨hk, c1.2⟩]
    exact spanEnd_app (by omega) h
  · rw [if_neg c1] at h ⊢
    rw [if_neg (by rintro ⟨a, b, c⟩; exact c1 ⟨by simp; omega, by rw [atB_app a]; exact b, c⟩)]
    by_cases c2 : k = 0 ∧ 1 < (x ++ y).length ∧ (atB (x ++ y) 0).toNat = 46 ∧ digit (atB (x ++ y) 1) = true
    · rw [if_pos c2] at h ⊢
      have h2 : 2 ≤ spanEnd digit (x ++ y) 1 := by
        have := spanEnd_step (p := digit) (l := x ++ y) (i := 1) c2.2.1 (by
          have := c2.2.2.2
          rw [atB, List.getD_eq_getElem?_getD, List.getElem?_eq_getElem c2.2.1] at this
          exact this)
        rw [← this]
        exact spanEnd_ge digit _ 2
      rw [atB_app (by omega), atB_app (by omega)] at c2
      rw [if_pos ⟨c2.1, by omega, c2.2.2⟩]
      exact spanEnd_app (by omega) h
    · rw [if_neg c2]
      rw [if_neg (by rintro ⟨a, b, c, d⟩; exact c2 ⟨a, by simp; omega, by rw [atB_app (by omega)]; exact c, by rw [atB_app b]; exact d⟩)]
theorem expEnd_app {x y : List UInt8} {i : Nat} (hi : i ≤ x.length) (h : expEnd (x ++ y) i ≤ x.length) : expEnd x i = expEnd (x ++ y) i := by
  by_cases hx : x.length ≤ i
  · have h1 : expEnd x i = i := by rw [expEnd, if_pos (.inl hx)]
    have h2 := expEnd_le (x ++ y) i (by simp; omega)
    omega
  · have ha : atB (x ++ y) i = atB x i := atB_app (by omega)
    unfold expEnd at h ⊢
    rw [ha] at h ⊢
    cases he : isE (atB x i)
    · rw [if_pos (.inr rfl), if_pos (.inr rfl)]
    · rw [he] at h
      have n1 : ¬ ((x ++ y).length ≤ i ∨ true = false) := by simp; omega
      have n2 : ¬ (x.length ≤ i ∨ true = false) := by simp; omega
      rw [if_neg n1] at h
      rw [if_neg n1, if_neg n2]
      -- the sign
      by_cases hs : i + 1 < x.length
      · have hj : expAt (x ++ y) i = expAt x i := by
          unfold expAt
          rw [atB_app hs]
          by_cases hp : isPM (atB x (i + 1)) = true
          · rw [if_pos ⟨by simp; omega, hp⟩, if_pos ⟨hs, hp⟩]
          · rw [if_neg (by intro h; exact hp h.2), if_neg (by intro h; exact hp h.2)]
        have hb := expAt_bound x i (by omega)
        rw [hj] at h ⊢
        by_cases hd : spanEnd digit (x ++ y) (expAt x i) ≤ x.length
        · rw [spanEnd_app hb.2 hd]
        · have hge : expAt x i < spanEnd digit (x ++ y) (expAt x i) := by omega
          rw [if_pos hge] at h
          omega
      · -- the letter ends the shorter text
        have hj : expAt x i = i + 1 := by rw [expAt, if_neg (by intro h; exact hs h.1)]
        rw [hj, spanEnd_end (by omega), if_neg (by omega)]
        have hb := expAt_bound (x ++ y) i (by simp; omega)
        by_cases hd : expAt (x ++ y) i < spanEnd digit (x ++ y) (expAt (x ++ y) i)
        · rw [if_pos hd] at h
          omega
        · rw [if_neg hd]
theorem numPrefix_app {x y : List UInt8} (h : numPrefix (x ++ y) ≤ x.length) : numPrefix x = numPrefix (x ++ y) := by
  by_cases h2 : 2 < x.length
  · unfold numPrefix at h ⊢
    rw [hexHead_app h2] at h ⊢
    cases hh : hexHead x
    · rw [hh] at h
      simp only [Bool.false_eq_true, if_false] at h ⊢
      have hle : decEnd (x ++ y) ≤ x.length := by
        by_cases h0 : decEnd (x ++ y) = 0
        · omega
        · rw [if_neg h0] at h
          have := expEnd_le (x ++ y) _ (decEnd_le (x ++ y))
          omega
      rw [decEnd_app hle]
      by_cases h0 : decEnd (x ++ y) = 0
      · rw [if_pos h0, if_pos h0]
      · rw [if_neg h0] at h
        rw [if_neg h0, if_neg h0]
        exact expEnd_app hle h
    · rw [hh] at h
      simp only [if_true] at h ⊢
      exact spanEnd_app (by omega) h
  · have hn : hexHead x = false := by simp [hexHead]; omega
    have hn2 : hexHead (x ++ y) = false := by
      cases hh : hexHead (x ++ y)
      · rfl
      · have h3 : 3 ≤ numPrefix (x ++ y) := by
          have hh' := hh
          simp only [hexHead, Bool.and_eq_true, decide_eq_true_eq] at hh'
          rw [numPrefix, hh, if_pos rfl]
          have := spanEnd_step (p := hexd) (l := x ++ y) (i := 2) hh'.1.1.1 (by
            have := hh'.2
            rw [atB, List.getD_eq_getElem?_getD, List.getElem?_eq_getElem hh'.1.1.1] at this
            exact this)
          rw [← this]
          exact spanEnd_ge hexd _ 3
        omega
    unfold numPrefix at h ⊢
    rw [hn2] at h
    rw [hn, hn2]
    simp only [Bool.false_eq_true, if_false] at h ⊢
    have hle : decEnd (x ++ y) ≤ x.length := by
      by_cases h0 : decEnd (x ++ y) = 0
      · omega
      · rw [if_neg h0] at h
        have := expEnd_le (x ++ y) _ (decEnd_le (x ++ y))
        omega
    rw [decEnd_app hle]
    by_cases h0 : decEnd (x ++ y) = 0
    · rw [if_pos h0, if_pos h0]
    · rw [if_neg h0] at h
      rw [if_neg h0, if_neg h0]
      exact expEnd_app hle h
/-- The unit at a place of the longer text, where it lies in the shorter one or none is there. -/
theorem mGo_ge : ∀ (f : Nat) (l : List UInt8) (fin next sum : Nat), fin ≤ (mGo f l fin next sum).1
  | 0, _, _, _, _ => Nat.le_refl _
  | f + 1, l, fin, next, sum => by
    rw [mGo]
    split
    · exact Nat.le_refl _
    · have h1 := mGo_ge f l (unitAt l (spanEnd digit l fin)).2 ((unitAt l (spanEnd digit l fin)).1 + 1) (partSum (sat ((l.drop fin).take (spanEnd digit l fin - fin))) (unitAt l (spanEnd digit l fin)).1 sum)
      have h2 := (unitAt_ge l (spanEnd digit l fin)).1
      have h3 := spanEnd_ge digit l fin
      omega
theorem unitAt_end {l : List UInt8} {i : Nat} (h : l.length ≤ i) : unitAt l i = (7, i) := by rw [unitAt, if_pos h]
theorem unitAt_app {x y : List UInt8} {i : Nat} (hi : i < x.length) (h : (unitAt (x ++ y) i).2 ≤ x.length) : unitAt x i = unitAt (x ++ y) i := by
  have h1 : ¬ (x ++ y).length ≤ i := by simp; omega
  unfold unitAt at h ⊢
  rw [if_neg h1] at h
  rw [if_neg h1, if_neg (by omega)]
  rw [atB_app hi] at h ⊢
  by_cases hm : atB x i = 109 ∧ i + 1 < (x ++ y).length ∧ atB (x ++ y) (i + 1) = 115
  · rw [if_pos hm] at h
    simp only at h
    rw [if_pos hm, if_pos ⟨hm.1, by omega, by rw [← atB_app (y := y) (by omega)]; exact hm.2.2⟩]
  · rw [if_neg hm, if_neg (by rintro ⟨a, b, c⟩; exact hm ⟨a, by simp; omega, by rw [atB_app b]; exact c⟩)]
/-- A unit that lies over the shorter text's end is ms of the longer text, m of the shorter. -/
theorem unitAt_over {x y : List UInt8} {i : Nat} (hi : i < x.length) (h : x.length < (unitAt (x ++ y) i).2) : (unitAt x i).1 = 4 ∧ (unitAt (x ++ y) i).1 = 6 := by
  have h1 : ¬ (x ++ y).length ≤ i := by simp; omega
  unfold unitAt at h ⊢
  rw [if_neg h1] at h
  rw [if_neg h1, if_neg (by omega)]
  rw [atB_app hi] at h ⊢
  by_cases hm : atB x i = 109 ∧ i + 1 < (x ++ y).length ∧ atB (x ++ y) (i + 1) = 115
  · rw [if_pos hm] at h
    simp only at h
    rw [if_pos hm, if_neg (by omega), hm.1]
    exact ⟨by rw [if_neg (by decide)]; show uOf 109 = 4; decide, rfl⟩
  · rw [if_neg hm] at h
    split at h <;> (simp only at h; omega)
theorem take_drop_app {x y : List UInt8} {i n : Nat} (h : i + n ≤ x.length) : ((x ++ y).drop i).take n = (x.drop i).take n := by
  rw [List.drop_append_of_le_length (by omega), List.take_append_of_le_length (by simp; omega)]
theorem mGo_app {x y : List UInt8} : ∀ (f fin next sum : Nat), fin ≤ x.length → next ≤ 7 → (mGo f (x ++ y) fin next sum).1 ≤ x.length → mGo f x fin next sum = mGo f (x ++ y) fin next sum
  | 0, _, _, _, _, _, _ => rfl
  | f + 1, fin, next, sum, hf, hn, h => by
    rw [mGo] at h
    rw [mGo, mGo]
    have hge := spanEnd_ge digit (x ++ y) fin
    by_cases hk : spanEnd digit (x ++ y) fin ≤ x.length
    · have hke := spanEnd_app hf hk
      rw [hke]
      rcases Nat.lt_or_ge (spanEnd digit (x ++ y) fin) x.length with hlt | hge2
      · generalize spanEnd digit (x ++ y) fin = k at *
        by_cases hu : (unitAt (x ++ y) k).2 ≤ x.length
        · rw [unitAt_app hlt hu]
          by_cases hc : k = fin ∨ (unitAt (x ++ y) k).1 < next ∨ (unitAt (x ++ y) k).1 = 7
          · rw [if_pos hc, if_pos hc]
          · rw [if_neg hc] at h
            rw [if_neg hc, if_neg hc, take_drop_app (by omega)]
            have hu7 := (unitAt_ge (x ++ y) k).2.2
            rw [take_drop_app (by omega)] at h
            exact mGo_app f _ _ _ hu (by omega) h
        · obtain ⟨h4, h6⟩ := unitAt_over (x := x) (y := y) hlt (by omega)
          by_cases hc : k = fin ∨ (unitAt (x ++ y) k).1 < next ∨ (unitAt (x ++ y) k).1 = 7
          · rw [if_pos hc, if_pos (by rw [h4]; omega)]
          · rw [if_neg hc] at h
            have := mGo_ge f (x ++ y) (unitAt (x ++ y) k).2 ((unitAt (x ++ y) k).1 + 1) (partSum (sat (((x ++ y).drop fin).take (k - fin))) (unitAt (x ++ y) k).1 sum)
            omega
      · have hke2 : spanEnd digit (x ++ y) fin = x.length := by omega
        rw [hke2] at h ⊢
        rw [unitAt_end (Nat.le_refl _), if_pos (.inr (.inr rfl))]
        by_cases hc : x.length = fin ∨ (unitAt (x ++ y) x.length).1 < next ∨ (unitAt (x ++ y) x.length).1 = 7
        · rw [if_pos hc]
        · rw [if_neg hc] at h
          have h1 := mGo_ge f (x ++ y) (unitAt (x ++ y) x.length).2 ((unitAt (x ++ y) x.length).1 + 1) (partSum (sat (((x ++ y).drop fin).take (x.length - fin))) (unitAt (x ++ y) x.length).1 sum)
          have h2 : x.length < (unitAt (x ++ y) x.length).2 := by
            unfold unitAt at hc ⊢
            split
            · rename_i h3; rw [if_pos h3] at hc; simp at hc
            · rename_i h3
              rw [if_neg h3] at hc
              split
              · simp
              · rename_i h4
                rw [if_neg h4] at hc
                split
                · rename_i h5; rw [if_pos h5] at hc; simp at hc
                · simp
          omega
    · -- the digits go over the end
      have hx : spanEnd digit x fin = x.length := by
        have h1 := spanEnd_le digit x fin hf
        rcases Nat.lt_or_ge (spanEnd digit x fin) x.length with hlt | hge2
        · exfalso
          have h2 := spanEnd_at hlt
          have h3 : spanEnd digit (x ++ y) fin = spanEnd digit x fin := by
            obtain ⟨c, r, hcr⟩ : ∃ c r, x.drop (spanEnd digit x fin) = c :: r := by
              cases hd : x.drop (spanEnd digit x fin) with
              | nil => have := congrArg List.length hd; simp at this; omega
              | cons c r => exact ⟨c, r, rfl⟩
            have hc : c = atB x (spanEnd digit x fin) := by
              have := atB_drop x (spanEnd digit x fin) 0
              rw [hcr] at this
              simpa [atB] using this
            have hx : x ++ y = x.take (spanEnd digit x fin) ++ c :: (r ++ y) := by
              conv => lhs; rw [← List.take_append_drop (spanEnd digit x fin) x, hcr]
              simp
            have hx2 : x = x.take (spanEnd digit x fin) ++ c :: r := by
              conv => lhs; rw [← List.take_append_drop (spanEnd digit x fin) x, hcr]
            have hfl : fin ≤ (x.take (spanEnd digit x fin)).length := by
              have := spanEnd_ge digit x fin
              simp; omega
            have hd : digit c = false := by rw [hc]; exact h2
            have e1 := spanEnd_sep (p := digit) (y := r ++ y) hfl hd
            have e2 := spanEnd_sep (p := digit) (y := r) hfl hd
            rw [← hx] at e1
            rw [← hx2] at e2
            rw [e1, ← e2]
          omega
        · omega
      rw [hx, unitAt_end (Nat.le_refl _), if_pos (.inr (.inr rfl))]
      by_cases hc : spanEnd digit (x ++ y) fin = fin ∨ (unitAt (x ++ y) (spanEnd digit (x ++ y) fin)).1 < next ∨ (unitAt (x ++ y) (spanEnd digit (x ++ y) fin)).1 = 7
      · rw [if_pos hc]
      · rw [if_neg hc] at h
        have h1 := mGo_ge f (x ++ y) (unitAt (x ++ y) (spanEnd digit (x ++ y) fin)).2 ((unitAt (x ++ y) (spanEnd digit (x ++ y) fin)).1 + 1) (partSum (sat (((x ++ y).drop fin).take (spanEnd digit (x ++ y) fin - fin))) (unitAt (x ++ y) (spanEnd digit (x ++ y) fin)).1 sum)
        have h2 := (unitAt_ge (x ++ y) (spanEnd digit (x ++ y) fin)).1
        omega
theorem spanPrefix_app {x y : List UInt8} (h : spanPrefix (x ++ y) ≤ x.length) : spanPrefix x = spanPrefix (x ++ y) := by
  unfold spanPrefix measure at *
  rw [mGo_app 8 0 0 0 (Nat.zero_le _) (by omega) h]
end Go.Proofs.YtpkeonafcldkhaaGreatDoor
