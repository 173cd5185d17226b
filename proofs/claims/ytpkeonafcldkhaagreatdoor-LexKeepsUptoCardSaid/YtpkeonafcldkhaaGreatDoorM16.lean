import Derived.Test.YtpkeonafcldkhaaGreatDoorM05
import Derived.Test.YtpkeonafcldkhaaGreatDoorM12
import Derived.Test.YtpkeonafcldkhaaGreatDoorM13
import Derived.Test.YtpkeonafcldkhaaGreatDoorM14
import Derived.Test.YtpkeonafcldkhaaGreatDoorM15
import Derived.WalkMore
import Derived.ScopeJumps
import Derived.OwnWalk
import Derived.Test.YtpkeonafcldkhaaGreatDoorM06
import Derived.Test.YtpkeonafcldkhaaGreatDoorM01
/- Plain words of lex: what a lexeme hangs on: the shorter text, when the longer one's lexeme lies in it. -/
set_option linter.unusedVariables false
set_option linter.unusedSimpArgs false
namespace Go.Proofs.YtpkeonafcldkhaaGreatDoor
open Go.RowKit

theorem atB_app {x y : List UInt8} {i : Nat} (h : i < x.length) : atB (x ++ y) i = atB x i := by
  simp [atB, List.getD_eq_getElem?_getD, List.getElem?_append_left h]
theorem spanEnd_app {p : UInt8 → Bool} {x y : List UInt8} {i : Nat} (hi : i ≤ x.length) (h : spanEnd p (x ++ y) i ≤ x.length) : spanEnd p x i = spanEnd p (x ++ y) i := by
  have e : (x ++ y).drop i = x.drop i ++ y := List.drop_append_of_le_length hi
  unfold spanEnd at h ⊢
  rw [e] at h ⊢
  obtain ⟨z, hz⟩ : ∃ z, z = x.drop i := ⟨_, rfl⟩
  have hzl : z.length = x.length - i := by rw [hz]; simp
  rw [← hz] at h ⊢
  clear hz e
  have h2 : ((z ++ y).takeWhile p).length ≤ z.length := by omega
  have h3 : ∀ z : List UInt8, ((z ++ y).takeWhile p).length ≤ z.length → (z.takeWhile p).length = ((z ++ y).takeWhile p).length := by
    intro z
    induction z with
    | nil => intro h; exact (Nat.le_zero.1 h).symm
    | cons c r ih =>
      intro h
      simp only [List.cons_append, List.takeWhile_cons] at *
      split
      · rename_i hp
        rw [if_pos hp] at h
        simp at h
        simp [ih h]
      · rfl
  rw [h3 z h2]
/-- A run that stops at the shorter text's end or ahead of it. -/
theorem spanEnd_sep {p : UInt8 → Bool} {x y : List UInt8} {c : UInt8} {i : Nat} (hi : i ≤ x.length) (hc : p c = false) : spanEnd p (x ++ c :: y) i = spanEnd p x i := by
  refine (spanEnd_app hi ?_).symm
  unfold spanEnd
  rw [List.drop_append_of_le_length hi]
  have h3 : ∀ z : List UInt8, ((z ++ c :: y).takeWhile p).length ≤ z.length := by
    intro z
    induction z with
    | nil => simp [List.takeWhile_cons, hc]
    | cons d r ih =>
      simp only [List.cons_append, List.takeWhile_cons]
      split
      · simp; omega
      · simp
  have := h3 (x.drop i)
  simp at this ⊢
  omega
theorem spanEnd_at {p : UInt8 → Bool} : ∀ {l : List UInt8} {i : Nat}, spanEnd p l i < l.length → p (atB l (spanEnd p l i)) = false := by
  intro l i
  unfold spanEnd
  obtain ⟨z, hz⟩ : ∃ z, z = l.drop i := ⟨_, rfl⟩
  intro h
  have h1 : atB l (i + (z.takeWhile p).length) = atB z (z.takeWhile p).length := by rw [hz, atB_drop]
  rw [← hz] at h ⊢
  rw [h1]
  have hl : (z.takeWhile p).length < z.length := by rw [hz] at h ⊢; simp at h ⊢; omega
  clear h h1 hz
  induction z with
  | nil => simp at hl
  | cons c r ih =>
    simp only [List.takeWhile_cons] at *
    split
    · rename_i hp
      rw [if_pos hp] at hl
      simp only [List.length_cons, Nat.add_lt_add_iff_right] at hl
      exact ih hl
    · rename_i hp
      simpa [atB] using hp
theorem spanEnd_self {p : UInt8 → Bool} {l : List UInt8} {i : Nat} (h : i < l.length) (hp : p (atB l i) = false) : spanEnd p l i = i := by
  refine spanEnd_stop h ?_
  rw [← hp, atB, List.getD_eq_getElem?_getD, List.getElem?_eq_getElem h]; rfl
theorem hexHead_app {x y : List UInt8} (h : 2 < x.length) : hexHead (x ++ y) = hexHead x := by
  unfold hexHead
  rw [atB_app (by omega), atB_app (by omega), atB_app h, decide_eq_true h, decide_eq_true (by simp; omega)]
theorem decEnd_app {x y : List UInt8} (h : decEnd (x ++ y) ≤ x.length) : decEnd x = decEnd (x ++ y) := by
  have h0 : spanEnd digit (x ++ y) 0 ≤ decEnd (x ++ y) := by
    unfold decEnd
    split
    · have := spanEnd_ge digit (x ++ y) (spanEnd digit (x ++ y) 0 + 1); omega
    · split
      · omega
      · omega
  have h1 := spanEnd_app (p := digit) (x := x) (y := y) (Nat.zero_le _) (by omega)
  unfold decEnd at *
  rw [h1]
  generalize spanEnd digit (x ++ y) 0 = k at *
  by_cases c1 : k < (x ++ y).length ∧ (atB (x ++ y) k).toNat = 46 ∧ 0 < k
  · rw [if_pos c1] at h ⊢
    have h2 := spanEnd_ge digit (x ++ y) (k + 1)
    have hk : k < x.length := by omega
    rw [atB_app hk] at c1
    rw [if_pos ⟨hk, c1.2⟩]
    exact spanEnd_app (by omega) h
  · rw [if_neg c1] at h ⊢
    rw [if_neg (by rintro ⟨a, b, c⟩; exact c1 ⟨by simp; omega, by rw [atB_app a]; exact b, c⟩)]
    by_cases c2 : k = 0 ∧ 1 < (x ++ y).length ∧ (atB (x ++ y) 0).toNat = 46 ∧ digit (atB (x ++ y) 1) = true
    · rw [if_pos c2] at h ⊢
      have h2 : 2 ≤ spanEnd digit (x ++ y) 1 := by
        have := spanEnd_step (p := digit) (l := x ++ y) (i := 1) c2.2.1 (by
          have := c2.2.2.2
          rw [atB, List.getD_eq_getElem?_getD, List.getElem?_eq_getElem c2.2.1] at this
          exact this)
        rw [← this]
        exact spanEnd_ge digit _ 2
      rw [atB_app (by omega), atB_app (by omega)] at c2
      rw [if_pos ⟨c2.1, by omega, c2.2.2⟩]
      exact spanEnd_app (by omega) h
    · rw [if_neg c2]
      rw [if_neg (by rintro ⟨a, b, c, d⟩; exact c2 ⟨a, by simp; omega, by rw [atB_app (by omega)]; exact c, by rw [atB_app b]; exact d⟩)]
theorem expEnd_app {x y : List UInt8} {i : Nat} (hi : i ≤ x.length) (h : expEnd (x ++ y) i ≤ x.length) : expEnd x i = expEnd (x ++ y) i := by
  by_cases hx : x.length ≤ i
  · have h1 : expEnd x i = i := by rw [expEnd, if_pos (.inl hx)]
    have h2 := expEnd_le (x ++ y) i (by simp; omega)
    omega
  · have ha : atB (x ++ y) i = atB x i := atB_app (by omega)
    unfold expEnd at h ⊢
    rw [ha] at h ⊢
    cases he : isE (atB x i)
    · rw [if_pos (.inr rfl), if_pos (.inr rfl)]
    · rw [he] at h
      have n1 : ¬ ((x ++ y).length ≤ i ∨ true = false) := by simp; omega
      have n2 : ¬ (x.length ≤ i ∨ true = false) := by simp; omega
      rw [if_neg n1] at h
      rw [if_neg n1, if_neg n2]
      -- the sign
      by_cases hs : i + 1 < x.length
      · have hj : expAt (x ++ y) i = expAt x i := by
          unfold expAt
          rw [atB_app hs]
          by_cases hp : isPM (atB x (i + 1)) = true
          · rw [if_pos ⟨by simp; omega, hp⟩, if_pos ⟨hs, hp⟩]
          · rw [if_neg (by intro h; exact hp h.2), if_neg (by intro h; exact hp h.2)]
        have hb := expAt_bound x i (by omega)
        rw [hj] at h ⊢
        by_cases hd : spanEnd digit (x ++ y) (expAt x i) ≤ x.length
        · rw [spanEnd_app hb.2 hd]
        · have hge : expAt x i < spanEnd digit (x ++ y) (expAt x i) := by omega
          rw [if_pos hge] at h
          omega
      · -- the letter ends the shorter text
        have hj : expAt x i = i + 1 := by rw [expAt, if_neg (by intro h; exact hs h.1)]
        rw [hj, spanEnd_end (by omega), if_neg (by omega)]
        have hb := expAt_bound (x ++ y) i (by simp; omega)
        by_cases hd : expAt (x ++ y) i < spanEnd digit (x ++ y) (expAt (x ++ y) i)
        · rw [if_pos hd] at h
          omega
        · rw [if_neg hd]
theorem numPrefix_app {x y : List UInt8} (h : numPrefix (x ++ y) ≤ x.length) : numPrefix x = numPrefix (x ++ y) := by
  by_cases h2 : 2 < x.length
  · unfold numPrefix at h ⊢
    rw [hexHead_app h2] at h ⊢
    cases hh : hexHead x
    · rw [hh] at h
      simp only [Bool.false_eq_true, if_false] at h ⊢
      have hle : decEnd (x ++ y) ≤ x.length := by
        by_cases h0 : decEnd (x ++ y) = 0
        · omega
        · rw [if_neg h0] at h
          have := expEnd_le (x ++ y) _ (decEnd_le (x ++ y))
          omega
      rw [decEnd_app hle]
      by_cases h0 : decEnd (x ++ y) = 0
      · rw [if_pos h0, if_pos h0]
      · rw [if_neg h0] at h
        rw [if_neg h0, if_neg h0]
        exact expEnd_app hle h
    · rw [hh] at h
      simp only [if_true] at h ⊢
      exact spanEnd_app (by omega) h
  · have hn : hexHead x = false := by simp [hexHead]; omega
    have hn2 : hexHead (x ++ y) = false := by
      cases hh : hexHead (x ++ y)
      · rfl
      · have h3 : 3 ≤ numPrefix (x ++ y) := by
          have hh' := hh
          simp only [hexHead, Bool.and_eq_true, decide_eq_true_eq] at hh'
          rw [numPrefix, hh, if_pos rfl]
          have := spanEnd_step (p := hexd) (l := x ++ y) (i := 2) hh'.1.1.1 (by
            have := hh'.2
            rw [atB, List.getD_eq_getElem?_getD, List.getElem?_eq_getElem hh'.1.1.1] at this
            exact this)
          rw [← this]
          exact spanEnd_ge hexd _ 3
        omega
    unfold numPrefix at h ⊢
    rw [hn2] at h
    rw [hn, hn2]
    simp only [Bool.false_eq_true, if_false] at h ⊢
    have hle : decEnd (x ++ y) ≤ x.length := by
      by_cases h0 : decEnd (x ++ y) = 0
      · omega
      · rw [if_neg h0] at h
        have := expEnd_le (x ++ y) _ (decEnd_le (x ++ y))
        omega
    rw [decEnd_app hle]
    by_cases h0 : decEnd (x ++ y) = 0
    · rw [if_pos h0, if_pos h0]
    · rw [if_neg h0] at h
      rw [if_neg h0, if_neg h0]
      exact expEnd_app hle h
/-- The unit at a place of the longer text, where it lies in the shorter one or none is there. -/
theorem mGo_ge : ∀ (f : Nat) (l : List UInt8) (fin next sum : Nat), fin ≤ (mGo f l fin next sum).1
  | 0, _, _, _, _ => Nat.le_refl _
  | f + 1, l, fin, next, sum => by
    rw [mGo]
    split
    · exact Nat.le_refl _
    · have h1 := mGo_ge f l (unitAt l (spanEnd digit l fin)).2 ((unitAt l (spanEnd digit l fin)).1 + 1) (partSum (sat ((l.drop fin).take (spanEnd digit l fin - fin))) (unitAt l (spanEnd digit l fin)).1 sum)
      have h2 := (unitAt_ge l (spanEnd digit l fin)).1
      have h3 := spanEnd_ge digit l fin
      omega
theorem unitAt_end {l : List UInt8} {i : Nat} (h : l.length ≤ i) : unitAt l i = (7, i) := by rw [unitAt, if_pos h]
theorem unitAt_app {x y : List UInt8} {i : Nat} (hi : i < x.length) (h : (unitAt (x ++ y) i).2 ≤ x.length) : unitAt x i = unitAt (x ++ y) i := by
  have h1 : ¬ (x ++ y).length ≤ i := by simp; omega
  unfold unitAt at h ⊢
  rw [if_neg h1] at h
  rw [if_neg h1, if_neg (by omega)]
  rw [atB_app hi] at h ⊢
  by_cases hm : atB x i = 109 ∧ i + 1 < (x ++ y).length ∧ atB (x ++ y) (i + 1) = 115
  · rw [if_pos hm] at h
    simp only at h
    rw [if_pos hm, if_pos ⟨hm.1, by omega, by rw [← atB_app (y := y) (by omega)]; exact hm.2.2⟩]
  · rw [if_neg hm, if_neg (by rintro ⟨a, b, c⟩; exact hm ⟨a, by simp; omega, by rw [atB_app b]; exact c⟩)]
/-- A unit that lies over the shorter text's end is ms of the longer text, m of the shorter. -/
theorem unitAt_over {x y : List UInt8} {i : Nat} (hi : i < x.length) (h : x.length < (unitAt (x ++ y) i).2) : (unitAt x i).1 = 4 ∧ (unitAt (x ++ y) i).1 = 6 := by
  have h1 : ¬ (x ++ y).length ≤ i := by simp; omega
  unfold unitAt at h ⊢
  rw [if_neg h1] at h
  rw [if_neg h1, if_neg (by omega)]
  rw [atB_app hi] at h ⊢
  by_cases hm : atB x i = 109 ∧ i + 1 < (x ++ y).length ∧ atB (x ++ y) (i + 1) = 115
  · rw [if_pos hm] at h
    simp only at h
    rw [if_pos hm, if_neg (by omega), hm.1]
    exact ⟨by rw [if_neg (by decide)]; show uOf 109 = 4; decide, rfl⟩
  · rw [if_neg hm] at h
    split at h <;> (simp only at h; omega)
theorem take_drop_app {x y : List UInt8} {i n : Nat} (h : i + n ≤ x.length) : ((x ++ y).drop i).take n = (x.drop i).take n := by
  rw [List.drop_append_of_le_length (by omega), List.take_append_of_le_length (by simp; omega)]
theorem mGo_app {x y : List UInt8} : ∀ (f fin next sum : Nat), fin ≤ x.length → next ≤ 7 → (mGo f (x ++ y) fin next sum).1 ≤ x.length → mGo f x fin next sum = mGo f (x ++ y) fin next sum
  | 0, _, _, _, _, _, _ => rfl
  | f + 1, fin, next, sum, hf, hn, h => by
    rw [mGo] at h
    rw [mGo, mGo]
    have hge := spanEnd_ge digit (x ++ y) fin
    by_cases hk : spanEnd digit (x ++ y) fin ≤ x.length
    · have hke := spanEnd_app hf hk
      rw [hke]
      rcases Nat.lt_or_ge (spanEnd digit (x ++ y) fin) x.length with hlt | hge2
      · generalize spanEnd digit (x ++ y) fin = k at *
        by_cases hu : (unitAt (x ++ y) k).2 ≤ x.length
        · rw [unitAt_app hlt hu]
          by_cases hc : k = fin ∨ (unitAt (x ++ y) k).1 < next ∨ (unitAt (x ++ y) k).1 = 7
          · rw [if_pos hc, if_pos hc]
          · rw [if_neg hc] at h
            rw [if_neg hc, if_neg hc, take_drop_app (by omega)]
            have hu7 := (unitAt_ge (x ++ y) k).2.2
            rw [take_drop_app (by omega)] at h
            exact mGo_app f _ _ _ hu (by omega) h
        · obtain ⟨h4, h6⟩ := unitAt_over (x := x) (y := y) hlt (by omega)
          by_cases hc : k = fin ∨ (unitAt (x ++ y) k).1 < next ∨ (unitAt (x ++ y) k).1 = 7
          · rw [if_pos hc, if_pos (by rw [h4]; omega)]
          · rw [if_neg hc] at h
            have := mGo_ge f (x ++ y) (unitAt (x ++ y) k).2 ((unitAt (x ++ y) k).1 + 1) (partSum (sat (((x ++ y).drop fin).take (k - fin))) (unitAt (x ++ y) k).1 sum)
            omega
      · have hke2 : spanEnd digit (x ++ y) fin = x.length := by omega
        rw [hke2] at h ⊢
        rw [unitAt_end (Nat.le_refl _), if_pos (.inr (.inr rfl))]
        by_cases hc : x.length = fin ∨ (unitAt (x ++ y) x.length).1 < next ∨ (unitAt (x ++ y) x.length).1 = 7
        · rw [if_pos hc]
        · rw [if_neg hc] at h
          have h1 := mGo_ge f (x ++ y) (unitAt (x ++ y) x.length).2 ((unitAt (x ++ y) x.length).1 + 1) (partSum (sat (((x ++ y).drop fin).take (x.length - fin))) (unitAt (x ++ y) x.length).1 sum)
          have h2 : x.length < (unitAt (x ++ y) x.length).2 := by
            unfold unitAt at hc ⊢
            split
            · rename_i h3; rw [if_pos h3] at hc; simp at hc
            · rename_i h3
              rw [if_neg h3] at hc
              split
              · simp
              · rename_i h4
                rw [if_neg h4] at hc
                split
                · rename_i h5; rw [if_pos h5] at hc; simp at hc
                · simp
          omega
    · -- the digits go over the end
      have hx : spanEnd digit x fin = x.length := by
        have h1 := spanEnd_le digit x fin hf
        rcases Nat.lt_or_ge (spanEnd digit x fin) x.length with hlt | hge2
        · exfalso
          have h2 := spanEnd_at hlt
          have h3 : spanEnd digit (x ++ y) fin = spanEnd digit x fin := by
            obtain ⟨c, r, hcr⟩ : ∃ c r, x.drop (spanEnd digit x fin) = c :: r := by
              cases hd : x.drop (spanEnd digit x fin) with
              | nil => have := congrArg List.length hd; simp at this; omega
              | cons c r => exact ⟨c, r, rfl⟩
            have hc : c = atB x (spanEnd digit x fin) := by
              have := atB_drop x (spanEnd digit x fin) 0
              rw [hcr] at this
              simpa [atB] using this
            have hx : x ++ y = x.take (spanEnd digit x fin) ++ c :: (r ++ y) := by
              conv => lhs; rw [← List.take_append_drop (spanEnd digit x fin) x, hcr]
              simp
            have hx2 : x = x.take (spanEnd digit x fin) ++ c :: r := by
              conv => lhs; rw [← List.take_append_drop (spanEnd digit x fin) x, hcr]
            have hfl : fin ≤ (x.take (spanEnd digit x fin)).length := by
              have := spanEnd_ge digit x fin
              simp; omega
            have hd : digit c = false := by rw [hc]; exact h2
            have e1 := spanEnd_sep (p := digit) (y := r ++ y) hfl hd
            have e2 := spanEnd_sep (p := digit) (y := r) hfl hd
            rw [← hx] at e1
            rw [← hx2] at e2
            rw [e1, ← e2]
          omega
        · omega
      rw [hx, unitAt_end (Nat.le_refl _), if_pos (.inr (.inr rfl))]
      by_cases hc : spanEnd digit (x ++ y) fin = fin ∨ (unitAt (x ++ y) (spanEnd digit (x ++ y) fin)).1 < next ∨ (unitAt (x ++ y) (spanEnd digit (x ++ y) fin)).1 = 7
      · rw [if_pos hc]
      · rw [if_neg hc] at h
        have h1 := mGo_ge f (x ++ y) (unitAt (x ++ y) (spanEnd digit (x ++ y) fin)).2 ((unitAt (x ++ y) (spanEnd digit (x ++ y) fin)).1 + 1) (partSum (sat (((x ++ y).drop fin).take (spanEnd digit (x ++ y) fin - fin))) (unitAt (x ++ y) (spanEnd digit (x ++ y) fin)).1 sum)
        have h2 := (unitAt_ge (x ++ y) (spanEnd digit (x ++ y) fin)).1
        omega
theorem spanPrefix_app {x y : List UInt8} (h : spanPrefix (x ++ y) ≤ x.length) : spanPrefix x = spanPrefix (x ++ y) := by
  unfold spanPrefix measure at *
  rw [mGo_app 8 0 0 0 (Nat.zero_le _) (by omega) h]
end Go.Proofs.YtpkeonafcldkhaaGreatDoor
/- Plain words of lex: a token in a shorter text, and ahead of a blank. -/
set_option linter.unusedVariables false
set_option linter.unusedSimpArgs false
namespace Go.Proofs.YtpkeonafcldkhaaGreatDoor
open Go.RowKit

theorem litGo_ext {q : UInt8} {y : List UInt8} : ∀ {x : List UInt8} {n : Nat}, litGo q x = some n → litGo q (x ++ y) = some n
  | [], n, h => by simp [litGo] at h
  | [c], n, h => by
    simp only [litGo] at h
    split at h
    · rename_i hc
      subst hc
      rw [List.singleton_append, litGo_q]; exact h
    · cases h
  | c :: d :: r, n, h => by
    simp only [List.cons_append, litGo] at h ⊢
    split
    · rename_i hc; rw [if_pos hc] at h; exact h
    · rename_i hc
      rw [if_neg hc] at h
      split
      · rename_i h1
        rw [if_pos h1] at h
        obtain ⟨m, hm, rfl⟩ := Option.map_eq_some_iff.1 h
        have := litGo_ext (y := y) hm
        rw [List.cons_append] at this
        rw [this]; rfl
      · rename_i h1
        rw [if_neg h1] at h
        split
        · rename_i h2; rw [if_pos h2] at h; cases h
        · rename_i h2
          rw [if_neg h2] at h
          split
          · rename_i h3
            rw [if_pos h3] at h
            split
            · rename_i h4; rw [if_pos h4] at h; cases h
            · rename_i h4
              rw [if_neg h4] at h
              obtain ⟨m, hm, rfl⟩ := Option.map_eq_some_iff.1 h
              rw [litGo_ext (y := y) hm]; rfl
          · rename_i h3
            rw [if_neg h3] at h
            obtain ⟨m, hm, rfl⟩ := Option.map_eq_some_iff.1 h
            have := litGo_ext (y := y) hm
            rw [List.cons_append] at this
            rw [this]; rfl
theorem litGo_app {q : UInt8} {y : List UInt8} : ∀ {x : List UInt8} {n : Nat}, litGo q (x ++ y) = some n → n ≤ x.length → litGo q x = some n
  | [], n, h, hn => by have := litGo_le _ _ _ h; simp at hn; omega
  | [c], n, h, hn => by
    have h1 := (litGo_le _ _ _ h).1
    simp only [List.length_singleton] at hn
    cases y with
    | nil => simpa using h
    | cons d r =>
      simp only [List.singleton_append, litGo] at h
      by_cases hc : c = q
      · subst hc; rw [litGo_q, show n = 1 by omega]
      · exfalso
        rw [if_neg hc] at h
        have two : ∀ {o : Option Nat} {a : Nat}, 1 ≤ a → (∀ m, o = some m → 1 ≤ m) → o.map (· + a) = some n → False := by
          intro o a ha ho h
          obtain ⟨m, hm, rfl⟩ := Option.map_eq_some_iff.1 h
          have := ho m hm
          omega
        repeat' split at h
        all_goals first
          | (cases h; done)
          | exact two (by omega) (fun m hm => (litGo_le _ _ _ hm).1) h
  | c :: d :: r, n, h, hn => by
    simp only [List.length_cons] at hn
    simp only [List.cons_append, litGo] at h ⊢
    split
    · rename_i hc; rw [if_pos hc] at h; exact h
    · rename_i hc
      rw [if_neg hc] at h
      split
      · rename_i h1
        rw [if_pos h1] at h
        obtain ⟨m, hm, rfl⟩ := Option.map_eq_some_iff.1 h
        rw [litGo_app (x := d :: r) (y := y) hm (by simp; omega)]; rfl
      · rename_i h1
        rw [if_neg h1] at h
        split
        · rename_i h2; rw [if_pos h2] at h; cases h
        · rename_i h2
          rw [if_neg h2] at h
          split
          · rename_i h3
            rw [if_pos h3] at h
            split
            · rename_i h4; rw [if_pos h4] at h; cases h
            · rename_i h4
              rw [if_neg h4] at h
              obtain ⟨m, hm, rfl⟩ := Option.map_eq_some_iff.1 h
              rw [litGo_app (x := r) (y := y) hm (by omega)]; rfl
          · rename_i h3
            rw [if_neg h3] at h
            obtain ⟨m, hm, rfl⟩ := Option.map_eq_some_iff.1 h
            rw [litGo_app (x := d :: r) (y := y) hm (by simp; omega)]; rfl
theorem litEnd_ext {x y : List UInt8} {n : Nat} (hx : x ≠ []) (h : litEnd x 0 = some n) : litEnd (x ++ y) 0 = some n := by
  have hl := nil_len hx
  unfold litEnd at h ⊢
  rw [atB_app hl]
  split at h
  · rename_i h1
    rw [if_pos ⟨by simp; omega, h1.2⟩]
    obtain ⟨m, hm, rfl⟩ := Option.map_eq_some_iff.1 h
    rw [List.drop_append_of_le_length (by omega), litGo_ext hm]; rfl
  · cases h
theorem litEnd_app {x y : List UInt8} {n : Nat} (hx : x ≠ []) (h : litEnd (x ++ y) 0 = some n) (hn : n ≤ x.length) : litEnd x 0 = some n := by
  have hl := nil_len hx
  unfold litEnd at h ⊢
  rw [atB_app hl] at h
  split at h
  · rename_i h1
    rw [if_pos ⟨by omega, h1.2⟩]
    obtain ⟨m, hm, rfl⟩ := Option.map_eq_some_iff.1 h
    rw [List.drop_append_of_le_length (by omega)] at hm
    rw [litGo_app hm (by simp; omega)]; rfl
  · cases h
theorem numPrefix_dot {l : List UInt8} (h1 : (atB l 0).toNat = 46) (h2 : 1 < l.length) (h3 : digit (atB l 1) = true) : 2 ≤ numPrefix l := by
  have hh : hexHead l = false := by simp [hexHead, h1]
  have h0 : spanEnd digit l 0 = 0 := spanEnd_self (by omega) (by simp [digit, h1])
  have h4 : decEnd l = spanEnd digit l 1 := by rw [decEnd, h0, if_neg (by omega), if_pos ⟨rfl, h2, h1, h3⟩]
  have h5 : 2 ≤ spanEnd digit l 1 := by
    have := spanEnd_step (p := digit) (l := l) (i := 1) h2 (by
      rw [atB, List.getD_eq_getElem?_getD, List.getElem?_eq_getElem h2] at h3
      exact h3)
    rw [← this]
    exact spanEnd_ge digit _ 2
  rw [numPrefix, hh, h4, if_neg (by simp), if_neg (by omega)]
  have := expEnd_le l (spanEnd digit l 1) (spanEnd_le digit l 1 (by omega))
  omega
theorem numLen_ge (l : List UInt8) : numPrefix l ≤ numLen l ∧ spanPrefix l ≤ numLen l := by
  unfold numLen; split <;> omega
theorem numberR_app {x y : List UInt8} {br sq b q : Bool} {k n : Nat} (h : numberR (x ++ y) br sq = .tok k n b q) (hn : n ≤ x.length) : numberR x br sq = .tok k n b q := by
  have hkn : n = numLen (x ++ y) := by
    unfold numberR at h
    repeat' split at h
    all_goals first
      | (cases h; done)
      | (injection h with _ h2; exact h2.symm)
  have hge := numLen_ge (x ++ y)
  have e1 := numPrefix_app (x := x) (y := y) (by omega)
  have e2 := spanPrefix_app (x := x) (y := y) (by omega)
  have e3 : numLen x = numLen (x ++ y) := by unfold numLen; rw [e1, e2]
  have e4 : numKind x = numKind (x ++ y) := by unfold numKind; rw [e1, e2]
  have ht : x.take (numLen (x ++ y)) = (x ++ y).take (numLen (x ++ y)) := (List.take_append_of_le_length (by omega)).symm
  have e5 : numBad x = numBad (x ++ y) := by unfold numBad; rw [e1, e2, e3, ht]
  have e6 : numFault (x ++ y) = false → numFault x = false := by
    unfold numFault
    rw [e3]
    by_cases hlt : numLen (x ++ y) < x.length
    · rw [atB_app hlt, decide_eq_true hlt, decide_eq_true (by simp; omega)]; exact id
    · rw [decide_eq_false hlt]; intro _; rfl
  unfold numberR at h ⊢
  rw [e3, e4, e5]
  cases hf : numFault (x ++ y)
  · rw [hf] at h
    rw [e6 hf]
    exact h
  · rw [hf] at h
    cases h
theorem op2_app {x y : List UInt8} (h : 1 < x.length) : op2 (x ++ y) = op2 x := by
  unfold op2
  rw [List.take_append_of_le_length (by omega), decide_eq_true h, decide_eq_true (by simp; omega)]
theorem opR_n {l : List UInt8} {br sq b q : Bool} {k n : Nat} (h : op2 l = false) (ht : opR l br sq = .tok k n b q) : n = 1 := by
  unfold opR at ht
  rw [h] at ht
  simp only [Bool.false_eq_true, if_false] at ht
  repeat' split at ht
  all_goals first
    | (cases ht; done)
    | (injection ht with _ h2; exact h2.symm)
theorem opR_app {x y : List UInt8} {br sq b q : Bool} {k n : Nat} (hx : x ≠ []) (h : opR (x ++ y) br sq = .tok k n b q) (hn : n ≤ x.length) : opR x br sq = .tok k n b q := by
  have hl := nil_len hx
  by_cases h1 : 1 < x.length
  · unfold opR at h ⊢
    rw [op2_app h1, atB_app hl] at h
    exact h
  · have h2 : op2 x = false := by simp [op2]; omega
    cases h3 : op2 (x ++ y)
    · unfold opR at h ⊢
      rw [h3, atB_app hl] at h
      rw [h2]
      exact h
    · rw [opR, h3, if_pos rfl] at h
      injection h with _ h4
      omega
/-- A token of a longer text that lies in the shorter one is its token too. -/
theorem tokenR_app {x y : List UInt8} {br sq b q : Bool} {k n : Nat} (hx : x ≠ []) (h : tokenR (x ++ y) br sq = .tok k n b q) (hn : n ≤ x.length) : tokenR x br sq = .tok k n b q := by
  have hl := nil_len hx
  unfold tokenR at h ⊢
  rw [atB_app hl] at h
  split at h
  · rename_i h1
    rw [if_pos h1]
    injection h with a1 a2 a3 a4
    rw [a2] at a1
    rw [spanEnd_app (y := y) (Nat.zero_le _) (by omega), a2, ← a1, List.take_append_of_le_length hn, a3, a4]
  · rename_i h1
    rw [if_neg h1]
    split at h
    · rename_i h2
      rw [if_pos h2]
      injection h with a1 a2 a3 a4
      rw [spanEnd_app (y := y) (by omega) (by omega), a1, a2, a3, a4]
    · rename_i h2
      rw [if_neg h2]
      split at h
      · rename_i h3
        have hkn : numPrefix (x ++ y) ≤ n := by
          have hge := numLen_ge (x ++ y)
          have : n = numLen (x ++ y) := by
            unfold numberR at h
            repeat' split at h
            all_goals first
              | (cases h; done)
              | (injection h with _ h2; exact h2.symm)
          omega
        rw [if_pos]
        · exact numberR_app h hn
        · rcases h3 with h3 | ⟨h3, h4, h5⟩
          · exact .inl h3
          · have h6 := numPrefix_dot (by rw [atB_app hl]; exact h3) h4 h5
            exact .inr ⟨h3, by omega, by rw [atB_app (by omega)] at h5; exact h5⟩
      · rename_i h3
        rw [if_neg]
        · split at h
          · rename_i h4
            rw [if_pos h4]
            unfold strR at h ⊢
            split at h
            · cases h
            · rename_i m hm
              split at h
              · rename_i h5
                injection h with a1 a2 a3 a4
                subst a2
                rw [litEnd_app hx hm hn]
                simp only
                rw [List.take_append_of_le_length hn] at h5
                rw [if_pos h5, a1, a3, a4]
              · cases h
          · rename_i h4
            rw [if_neg h4]
            exact opR_app hx h hn
        · rintro (h4 | ⟨h4, h5, h6⟩)
          · exact h3 (.inl h4)
          · exact h3 (.inr ⟨h4, by simp; omega, by rw [atB_app h5]; exact h6⟩)
/-- A blank, a line's end. -/
def sepB (c : UInt8) : Prop := c = 32 ∨ c = 10
theorem atB_sep {x y : List UInt8} {c : UInt8} : atB (x ++ c :: y) x.length = c := by
  simp [atB, List.getD_eq_getElem?_getD]
theorem sep_facts {c : UInt8} (h : sepB c) : digit c = false ∧ letter c = false ∧ hexd c = false ∧ isX c = false ∧ isPM c = false ∧ isE c = false ∧ c.toNat ≠ 46 ∧ uOf c = 7 ∧ c ≠ 115 ∧ c.toNat ≠ 58 ∧ c ≠ 61 ∧ c ≠ 126 := by
  rcases h with rfl | rfl <;> decide
theorem hexHead_sep {x y : List UInt8} {c : UInt8} (h : sepB c) : hexHead (x ++ c :: y) = hexHead x := by
  have f := sep_facts h
  by_cases h2 : 2 < x.length
  · exact hexHead_app h2
  · have hn : hexHead x = false := by simp [hexHead]; omega
    rw [hn]
    by_cases h3 : x.length = 2
    · have : atB (x ++ c :: y) 2 = c := by rw [← h3]; exact atB_sep
      unfold hexHead
      rw [this, f.2.2.1, Bool.and_false]
    · by_cases h4 : x.length = 1
      · have : atB (x ++ c :: y) 1 = c := by rw [← h4]; exact atB_sep
        unfold hexHead
        rw [this, f.2.2.2.1, Bool.and_false, Bool.false_and]
      · have h5 : x.length = 0 := by omega
        have : atB (x ++ c :: y) 0 = c := by rw [← h5]; exact atB_sep
        have hc : (c.toNat == 48) = false := by rcases h with rfl | rfl <;> decide
        unfold hexHead
        rw [this, hc, Bool.and_false, Bool.false_and, Bool.false_and]
theorem expEnd_sep {x y : List UInt8} {c : UInt8} {i : Nat} (h : sepB c) (hi : i ≤ x.length) : expEnd (x ++ c :: y) i = expEnd x i := by
  have f := sep_facts h
  by_cases hx : x.length = i
  · have : atB (x ++ c :: y) i = c := by rw [← hx]; exact atB_sep
    rw [expEnd, this, f.2.2.2.2.2.1, if_pos (.inr rfl), expEnd, if_pos (.inl (by omega))]
  · have hlt : i < x.length := by omega
    have hj : expAt (x ++ c :: y) i = expAt x i := by
      unfold expAt
      by_cases h1 : i + 1 < x.length
      · rw [atB_app h1]
        by_cases hp : isPM (atB x (i + 1)) = true
        · rw [if_pos ⟨by simp; omega, hp⟩, if_pos ⟨h1, hp⟩]
        · rw [if_neg (by intro h; exact hp h.2), if_neg (by intro h; exact hp h.2)]
      · have : atB (x ++ c :: y) (i + 1) = c := by rw [show i + 1 = x.length by omega]; exact atB_sep
        rw [this, f.2.2.2.2.1, if_neg (by simp), if_neg (by intro h; exact h1 h.1)]
    have hb := expAt_bound x i hlt
    unfold expEnd
    rw [hj, atB_app hlt, spanEnd_sep hb.2 f.1]
    cases isE (atB x i)
    · rw [if_pos (.inr rfl), if_pos (.inr rfl)]
    · have n1 : ¬ ((x ++ c :: y).length ≤ i ∨ true = false) := by simp; omega
      have n2 : ¬ (x.length ≤ i ∨ true = false) := by simp; omega
      rw [if_neg n1, if_neg n2]
theorem decEnd_sep {x y : List UInt8} {c : UInt8} (h : sepB c) : decEnd (x ++ c :: y) = decEnd x := by
  have f := sep_facts h
  unfold decEnd
  rw [spanEnd_sep (Nat.zero_le _) f.1]
  have hle := spanEnd_le digit x 0 (Nat.zero_le _)
  generalize spanEnd digit x 0 = k at *
  by_cases c1 : k < x.length ∧ (atB x k).toNat = 46 ∧ 0 < k
  · rw [if_pos c1, if_pos ⟨by simp; omega, by rw [atB_app c1.1]; exact c1.2.1, c1.2.2⟩, spanEnd_sep (by omega) f.1]
  · rw [if_neg c1, if_neg]
    · by_cases c2 : k = 0 ∧ 1 < x.length ∧ (atB x 0).toNat = 46 ∧ digit (atB x 1) = true
      · rw [if_pos c2, if_pos ⟨c2.1, by simp; omega, by rw [atB_app (by omega)]; exact c2.2.2.1, by rw [atB_app c2.2.1]; exact c2.2.2.2⟩, spanEnd_sep (by omega) f.1]
      · rw [if_neg c2, if_neg]
        rintro ⟨a1, a2, a3, a4⟩
        by_cases h1 : 1 < x.length
        · exact c2 ⟨a1, h1, by rw [atB_app (by omega)] at a3; exact a3, by rw [atB_app h1] at a4; exact a4⟩
        · by_cases h2 : x.length = 1
          · have : atB (x ++ c :: y) 1 = c := by rw [← h2]; exact atB_sep
            rw [this, f.1] at a4; cases a4
          · have : atB (x ++ c :: y) 0 = c := by rw [show 0 = x.length by omega]; exact atB_sep
            rw [this] at a3; exact f.2.2.2.2.2.2.1 a3
    · rintro ⟨a1, a2, a3⟩
      by_cases h1 : k < x.length
      · exact c1 ⟨h1, by rw [atB_app h1] at a2; exact a2, a3⟩
      · have : atB (x ++ c :: y) k = c := by rw [show k = x.length by omega]; exact atB_sep
        rw [this] at a2; exact f.2.2.2.2.2.2.1 a2
theorem numPrefix_sep {x y : List UInt8} {c : UInt8} (h : sepB c) : numPrefix (x ++ c :: y) = numPrefix x := by
  have f := sep_facts h
  unfold numPrefix
  rw [hexHead_sep h, decEnd_sep h, expEnd_sep h (decEnd_le x)]
  cases hh : hexHead x
  · rfl
  · simp only [if_true]
    simp [hexHead] at hh
    exact spanEnd_sep (by omega) f.2.2.1
theorem unitAt_sep {x y : List UInt8} {c : UInt8} {i : Nat} (h : sepB c) (hi : i ≤ x.length) : unitAt (x ++ c :: y) i = unitAt x i := by
  have f := sep_facts h
  by_cases hx : x.length = i
  · have : atB (x ++ c :: y) i = c := by rw [← hx]; exact atB_sep
    have n1 : ¬ (x ++ c :: y).length ≤ i := by simp; omega
    rw [unitAt_end (l := x) (by omega), unitAt, if_neg n1, this, f.2.2.2.2.2.2.2.1, if_neg, if_pos rfl]
    rintro ⟨a, _⟩
    rw [a] at f
    exact absurd f.2.2.2.2.2.2.2.1 (by decide)
  · have hlt : i < x.length := by omega
    have n1 : ¬ (x ++ c :: y).length ≤ i := by simp; omega
    have n2 : ¬ x.length ≤ i := by omega
    unfold unitAt
    rw [if_neg n1, if_neg n2, atB_app hlt]
    by_cases h1 : i + 1 < x.length
    · rw [atB_app h1]
      by_cases hm : atB x i = 109 ∧ i + 1 < x.length ∧ atB x (i + 1) = 115
      · rw [if_pos hm, if_pos ⟨hm.1, by simp; omega, hm.2.2⟩]
      · rw [if_neg hm, if_neg (by rintro ⟨a, b, d⟩; exact hm ⟨a, h1, d⟩)]
    · have : atB (x ++ c :: y) (i + 1) = c := by rw [show i + 1 = x.length by omega]; exact atB_sep
      have n3 : ¬ (atB x i = 109 ∧ i + 1 < (x ++ c :: y).length ∧ c = 115) := by rintro ⟨_, _, a⟩; exact f.2.2.2.2.2.2.2.2.1 a
      have n4 : ¬ (atB x i = 109 ∧ i + 1 < x.length ∧ atB x (i + 1) = 115) := by rintro ⟨_, a, _⟩; exact h1 a
      rw [this, if_neg n3, if_neg n4]
theorem mGo_sep {x y : List UInt8} {c : UInt8} (h : sepB c) : ∀ (f fin next sum : Nat), fin ≤ x.length → mGo f (x ++ c :: y) fin next sum = mGo f x fin next sum
  | 0, _, _, _, _ => rfl
  | f + 1, fin, next, sum, hf => by
    have ff := sep_facts h
    have hle := spanEnd_le digit x fin hf
    have hge := spanEnd_ge digit x fin
    rw [mGo, mGo, spanEnd_sep hf ff.1, unitAt_sep h hle, take_drop_app (by omega), mGo_sep h f _ _ _ ((unitAt_ge x _).2.1 hle)]
theorem spanPrefix_sep {x y : List UInt8} {c : UInt8} (h : sepB c) : spanPrefix (x ++ c :: y) = spanPrefix x := by
  unfold spanPrefix measure
  rw [mGo_sep h 8 0 0 0 (Nat.zero_le _)]
theorem numberR_sep {x y : List UInt8} {c : UInt8} {br sq b q : Bool} {k n : Nat} (hc : sepB c) (h : numberR x br sq = .tok k n b q) : numberR (x ++ c :: y) br sq = .tok k n b q := by
  have f := sep_facts hc
  have hle := numLen_le x
  have e1 := numPrefix_sep (x := x) (y := y) hc
  have e2 := spanPrefix_sep (x := x) (y := y) hc
  have e3 : numLen (x ++ c :: y) = numLen x := by unfold numLen; rw [e1, e2]
  have e4 : numKind (x ++ c :: y) = numKind x := by unfold numKind; rw [e1, e2]
  have ht : (x ++ c :: y).take (numLen x) = x.take (numLen x) := List.take_append_of_le_length (by omega)
  have e5 : numBad (x ++ c :: y) = numBad x := by unfold numBad; rw [e1, e2, e3, ht]
  have e6 : numFault (x ++ c :: y) = numFault x := by
    unfold numFault
    rw [e3]
    by_cases hlt : numLen x < x.length
    · rw [atB_app hlt, decide_eq_true hlt, decide_eq_true (by simp; omega)]
    · have : atB (x ++ c :: y) (numLen x) = c := by rw [show numLen x = x.length by omega]; exact atB_sep
      have h46 : (c.toNat == 46) = false := by simpa using f.2.2.2.2.2.2.1
      rw [decide_eq_false hlt, this, f.1, f.2.1, h46]; simp
  unfold numberR at h ⊢
  rw [e3, e4, e5, e6]
  exact h
theorem opR_sep {x y : List UInt8} {c : UInt8} {br sq : Bool} (hx : x ≠ []) (hc : sepB c) : opR (x ++ c :: y) br sq = opR x br sq := by
  have f := sep_facts hc
  have hl := nil_len hx
  have h2 : op2 (x ++ c :: y) = op2 x := by
    by_cases h1 : 1 < x.length
    · exact op2_app h1
    · have h2 : op2 x = false := by simp [op2]; omega
      rw [h2]
      cases x with
      | nil => exact absurd rfl hx
      | cons d r =>
        cases r with
        | cons _ _ => simp at h1
        | nil =>
          have : ((d :: [] : List UInt8) ++ c :: y).take 2 = [d, c] := rfl
          unfold op2
          rw [this]
          have hno : ops2.contains [d, c] = false := by
            simp only [ops2, List.contains_eq_mem, decide_eq_false_iff_not, List.mem_cons, List.not_mem_nil, or_false, List.cons.injEq, and_true]
            rintro (h | h | h | h | h | h)
            all_goals first
              | exact f.2.2.2.2.2.2.2.2.2.2.1 h.2
              | exact f.2.2.2.2.2.2.2.2.2.2.2 h.2
          rw [hno, Bool.and_false]
  unfold opR
  rw [h2, atB_app hl]
/-- A token ahead of a blank or a line's end is what it is alone. -/
theorem tokenR_sep {x y : List UInt8} {c : UInt8} {br sq b q : Bool} {k n : Nat} (hc : sepB c) (hx : x ≠ []) (h : tokenR x br sq = .tok k n b q) : tokenR (x ++ c :: y) br sq = .tok k n b q := by
  have f := sep_facts hc
  have hl := nil_len hx
  have hn := (tokenR_pos hx h).2
  have hnc : ∀ col, nameCh col c = false := by
    intro col
    have h58 : (c.toNat == 58) = false := by simpa using f.2.2.2.2.2.2.2.2.2.1
    simp [nameCh, f.1, f.2.1, h58]
  unfold tokenR at h ⊢
  rw [atB_app hl]
  split at h
  · rename_i h1
    rw [if_pos h1]
    injection h with a1 a2 a3 a4
    rw [a2] at a1
    rw [spanEnd_sep (Nat.zero_le _) (hnc _), a2, List.take_append_of_le_length hn, a1, a3, a4]
  · rename_i h1
    rw [if_neg h1]
    split at h
    · rename_i h2
      rw [if_pos h2]
      injection h with a1 a2 a3 a4
      rw [spanEnd_sep (by omega) (hnc _), a1, a2, a3, a4]
    · rename_i h2
      rw [if_neg h2]
      split at h
      · rename_i h3
        rw [if_pos]
        · exact numberR_sep hc h
        · rcases h3 with h3 | ⟨h3, h4, h5⟩
          · exact .inl h3
          · exact .inr ⟨h3, by simp; omega, by rw [atB_app h4]; exact h5⟩
      · rename_i h3
        rw [if_neg]
        · split at h
          · rename_i h4
            rw [if_pos h4]
            unfold strR at h ⊢
            split at h
            · cases h
            · rename_i m hm
              split at h
              · rename_i h5
                injection h with a1 a2 a3 a4
                subst a2
                rw [litEnd_ext hx hm]
                simp only
                rw [List.take_append_of_le_length hn, if_pos h5, a1, a3, a4]
              · cases h
          · rename_i h4
            rw [if_neg h4, opR_sep hx hc]
            exact h
        · rintro (h4 | ⟨h4, h5, h6⟩)
          · exact h3 (.inl h4)
          · by_cases h7 : 1 < x.length
            · exact h3 (.inr ⟨h4, h7, by rw [atB_app h7] at h6; exact h6⟩)
            · have : atB (x ++ c :: y) 1 = c := by rw [show 1 = x.length by omega]; exact atB_sep
              rw [this, f.1] at h6; cases h6
end Go.Proofs.YtpkeonafcldkhaaGreatDoor
/- Plain laws of lex: moved texts, two texts, texts cut off at a fault, tokens set apart. -/
set_option linter.unusedVariables false
set_option linter.unusedSimpArgs false
namespace Go.Proofs.YtpkeonafcldkhaaGreatDoor
open Go.RowKit

def Tok.move (d : Nat) (t : Tok) : Tok := ⟨t.kind, t.text, t.pos + d⟩
/-- The flags behind a token. -/
def flagStep (f : Bool × Bool) (t : Tok) : Bool × Bool :=
  if t.kind = 6 then (if t.text = [123] then (true, f.2) else if t.text = [125] then (false, f.2) else if t.text = [91] then (f.1, true) else if t.text = [93] then (f.1, false) else f) else f
def flagsOf (f : Bool × Bool) (ts : List Tok) : Bool × Bool := ts.foldl flagStep f
theorem flagStep_no {f : Bool × Bool} {t : Tok} (h : t.kind ≠ 6) : flagStep f t = f := by rw [flagStep, if_neg h]
theorem take_one {l : List UInt8} (h : l ≠ []) : l.take 1 = [atB l 0] := by
  cases l with
  | nil => exact absurd rfl h
  | cons c r => rfl
theorem nameTok_ne (br : Bool) (t : List UInt8) : nameTok br t ≠ 6 := by
  unfold nameTok
  repeat' split
  all_goals omega
theorem tokenR_flags {l : List UInt8} {br sq b q : Bool} {k n : Nat} (p : Nat) (h : l ≠ []) (ht : tokenR l br sq = .tok k n b q) : (b, q) = flagStep (br, sq) ⟨k, l.take n, p⟩ := by
  unfold tokenR at ht
  split at ht
  · injection ht with a1 a2 a3 a4
    subst a3 a4
    rw [flagStep_no]
    rw [← a1]; exact nameTok_ne _ _
  · split at ht
    · injection ht with a1 a2 a3 a4
      subst a3 a4
      rw [flagStep_no]
      show k ≠ 6
      omega
    · split at ht
      · unfold numberR at ht
        repeat' split at ht
        all_goals first
          | (cases ht; done)
          | skip
        injection ht with a1 a2 a3 a4
        subst a3 a4
        rw [flagStep_no]
        show k ≠ 6
        rw [← a1]; unfold numKind; split <;> omega
      · split at ht
        · unfold strR at ht
          repeat' split at ht
          all_goals first
            | (cases ht; done)
            | skip
          injection ht with a1 a2 a3 a4
          subst a3 a4
          rw [flagStep_no]
          show k ≠ 6
          omega
        · unfold opR at ht
          split at ht
          · rename_i h2
            injection ht with a1 a2 a3 a4
            subst a1 a2 a3 a4
            have hlen : (l.take 2).length = 2 := by
              simp [op2] at h2
              simp; omega
            have hne : ∀ c : UInt8, l.take 2 ≠ [c] := by
              intro c hc
              rw [hc] at hlen
              simp at hlen
            simp only [flagStep, hne, if_false, ite_self]
          · have hu : ∀ n, n < 256 → (atB l 0).toNat = n → l.take 1 = [UInt8.ofNat n] := by
              intro n hn hc
              rw [take_one h, (u8_eq hn).2 hc]
            split at ht
            · rename_i h3
              injection ht with a1 a2 a3 a4
              subst a1 a2 a3 a4
              rw [hu 123 (by omega) h3]; rfl
            · split at ht
              · rename_i h3
                injection ht with a1 a2 a3 a4
                subst a1 a2 a3 a4
                rw [hu 125 (by omega) h3]; rfl
              · split at ht
                · rename_i h3
                  injection ht with a1 a2 a3 a4
                  subst a1 a2 a3 a4
                  rw [hu 91 (by omega) h3]; rfl
                · split at ht
                  · rename_i h3
                    injection ht with a1 a2 a3 a4
                    subst a1 a2 a3 a4
                    rw [hu 93 (by omega) h3]; rfl
                  · rename_i g1 g2 g3 g4
                    split at ht
                    · injection ht with a1 a2 a3 a4
                      subst a1 a2 a3 a4
                      have hn : ∀ n, n < 256 → (atB l 0).toNat ≠ n → l.take 1 ≠ [UInt8.ofNat n] := by
                        intro n hn hc hh
                        rw [take_one h] at hh
                        injection hh with hh
                        exact hc ((u8_eq hn).1 hh)
                      have n1 : l.take 1 ≠ [123] := hn 123 (by omega) g1
                      have n2 : l.take 1 ≠ [125] := hn 125 (by omega) g2
                      have n3 : l.take 1 ≠ [91] := hn 91 (by omega) g3
                      have n4 : l.take 1 ≠ [93] := hn 93 (by omega) g4
                      simp only [flagStep]
                      rw [if_pos trivial, if_neg n1, if_neg n2, if_neg n3, if_neg n4]
                    · cases ht
theorem scanF_move (d : Nat) : ∀ (m : Nat) (l : List UInt8) (p : Nat) (br sq : Bool), l.length ≤ m → scanF l (p + d) br sq = ((scanF l p br sq).1.map (Tok.move d), (scanF l p br sq).2.map fun r => (r.1 + d, r.2))
  | m, [], p, br, sq, _ => rfl
  | 0, c :: r, p, br, sq, h => by simp at h
  | m + 1, c :: r, p, br, sq, h => by
    have hne : c :: r ≠ [] := by simp
    rw [scanF_eq hne, scanF_eq hne]
    generalize hl : c :: r = l at *
    have hr := remark_pos hne
    split
    · rw [show p + d + 1 = p + 1 + d by omega]
      exact scanF_move d m _ _ _ _ (by simp; omega)
    · split
      · rw [show p + d + remark l = p + remark l + d by omega]
        exact scanF_move d m _ _ _ _ (by simp; omega)
      · cases ht : tokenR l br sq with
        | bad e => rfl
        | tok k n b q =>
          have hn := tokenR_pos hne ht
          simp only
          rw [show p + d + n = p + n + d by omega, scanF_move d m _ _ _ _ (by simp; omega)]
          rfl
theorem scanF_two {y : List UInt8} : ∀ (m : Nat) (x : List UInt8) (p : Nat) (br sq : Bool) (ts : List Tok), x.length ≤ m → scanF x p br sq = (ts, none) →
    scanF (x ++ 10 :: y) p br sq = (ts ++ (scanF y (p + x.length + 1) (flagsOf (br, sq) ts).1 (flagsOf (br, sq) ts).2).1, (scanF y (p + x.length + 1) (flagsOf (br, sq) ts).1 (flagsOf (br, sq) ts).2).2)
  | m, [], p, br, sq, ts, _, h => by
    rw [scanF_nil] at h
    injection h with h1 h2
    subst h1
    rw [List.nil_append, scanF_blank (l := 10 :: y) (by simp) (show isBl 10 = true by decide)]
    rfl
  | 0, c :: r, p, br, sq, ts, h, _ => by simp at h
  | m + 1, c :: r, p, br, sq, ts, hm, h => by
    have hne : c :: r ≠ [] := by simp
    generalize hl : c :: r = x at *
    have hlen := nil_len hne
    have hne2 : x ++ 10 :: y ≠ [] := by simp
    have ha : atB (x ++ 10 :: y) 0 = atB x 0 := atB_app hlen
    cases hb : isBl (atB x 0)
    · by_cases hc : (atB x 0).toNat = 35
      · rw [scanF_remark hne hc] at h
        rw [scanF_remark hne2 (by rw [ha]; exact hc)]
        have hle := spanEnd_le notNl x 0 (Nat.zero_le _)
        have hs : spanEnd notNl (x ++ 10 :: y) 0 = spanEnd notNl x 0 := spanEnd_sep (Nat.zero_le _) (by decide)
        have hr2 : remark (x ++ 10 :: y) = spanEnd notNl x 0 + 1 := by unfold remark; rw [hs]; simp; omega
        by_cases hk : spanEnd notNl x 0 < x.length
        · have hr1 : remark x = spanEnd notNl x 0 + 1 := by unfold remark; omega
          rw [hr1] at h
          rw [hr2, List.drop_append_of_le_length (by omega), scanF_two m _ _ _ _ _ (by simp; omega) h]
          rw [show p + (spanEnd notNl x 0 + 1) + (x.drop (spanEnd notNl x 0 + 1)).length + 1 = p + x.length + 1 by simp; omega]
        · have hr1 : remark x = x.length := by unfold remark; omega
          rw [hr1, List.drop_length, scanF_nil] at h
          injection h with h1 h2
          subst h1
          have hd : (x ++ 10 :: y).drop (spanEnd notNl x 0 + 1) = y := by
            rw [show spanEnd notNl x 0 + 1 = x.length + 1 by omega, List.drop_append]
            simp
          rw [hr2, hd, show p + (spanEnd notNl x 0 + 1) = p + x.length + 1 by omega]
          rfl
      · cases ht : tokenR x br sq with
        | bad e =>
          rw [scanF_bad hne hb hc ht] at h
          cases h
        | tok k n b q =>
          have hn := tokenR_pos hne ht
          have hf := tokenR_flags p hne ht
          rw [scanF_tok hne hb hc ht] at h
          injection h with h1 h2
          subst h1
          rw [scanF_tok hne2 (by rw [ha]; exact hb) (by rw [ha]; exact hc) (tokenR_sep (.inr rfl) hne ht), List.drop_append_of_le_length hn.2, List.take_append_of_le_length hn.2]
          rw [scanF_two m (x.drop n) _ _ _ (scanF (x.drop n) (p + n) b q).1 (by simp; omega) (by rw [← h2])]
          have e1 : flagsOf (br, sq) (⟨k, x.take n, p⟩ :: (scanF (x.drop n) (p + n) b q).1) = flagsOf (b, q) (scanF (x.drop n) (p + n) b q).1 := by
            rw [flagsOf, List.foldl_cons, ← hf]; rfl
          rw [e1, show p + n + (x.drop n).length + 1 = p + x.length + 1 by simp; omega]
          rfl
    · rw [scanF_blank hne hb] at h
      rw [scanF_blank hne2 (by rw [ha]; exact hb), List.drop_append_of_le_length (by omega), scanF_two m _ _ _ _ _ (by simp; omega) h]
      rw [show p + 1 + (x.drop 1).length + 1 = p + x.length + 1 by simp; omega]
theorem tokenR_err {l : List UInt8} {br sq : Bool} {e : Nat} (h : tokenR l br sq = .bad e) : e = 110 ∨ e = 111 ∨ e = 112 := by
  unfold tokenR numberR strR opR at h
  repeat' split at h
  all_goals first
    | (cases h; done)
    | (injection h with h; omega)
theorem scanF_fault : ∀ (m : Nat) (l : List UInt8) (p : Nat) (br sq : Bool) (ts : List Tok) (a e : Nat), l.length ≤ m → scanF l p br sq = (ts, some (a, e)) →
    p ≤ a ∧ a < p + l.length ∧ (e = 110 ∨ e = 111 ∨ e = 112) ∧ scanF (l.take (a - p)) p br sq = (ts, none)
  | m, [], p, br, sq, ts, a, e, _, h => by rw [scanF_nil] at h; cases h
  | 0, c :: r, p, br, sq, ts, a, e, h, _ => by simp at h
  | m + 1, c :: r, p, br, sq, ts, a, e, hm, h => by
    have hne : c :: r ≠ [] := by simp
    generalize hl : c :: r = x at *
    have hlen := nil_len hne
    have hat : ∀ m, 0 < m → x.take m ≠ [] ∧ atB (x.take m) 0 = atB x 0 := by
      intro m hm
      have h1 : 0 < (x.take m).length := by simp; omega
      refine ⟨List.length_pos_iff.1 h1, ?_⟩
      have h2 := atB_app (x := x.take m) (y := x.drop m) h1
      rw [List.take_append_drop] at h2
      exact h2.symm
    cases hb : isBl (atB x 0)
    · by_cases hc : (atB x 0).toNat = 35
      · rw [scanF_remark hne hc] at h
        have hr := remark_pos hne
        have ih := scanF_fault m _ _ _ _ _ _ _ (by simp; omega) h
        simp only [List.length_drop] at ih
        refine ⟨by omega, by omega, ih.2.2.1, ?_⟩
        have hk : spanEnd notNl x 0 < x.length ∧ remark x = spanEnd notNl x 0 + 1 := by
          have hr2 : remark x < x.length := by omega
          unfold remark at hr2 ⊢
          omega
        obtain ⟨h1, h2⟩ := hat (a - p) (by omega)
        rw [scanF_remark h1 (by rw [h2]; exact hc)]
        have hs : spanEnd notNl (x.take (a - p)) 0 = spanEnd notNl x 0 := by
          have := spanEnd_app (p := notNl) (x := x.take (a - p)) (y := x.drop (a - p)) (i := 0) (Nat.zero_le _) (by rw [List.take_append_drop]; simp; omega)
          rw [List.take_append_drop] at this
          exact this
        have hr3 : remark (x.take (a - p)) = remark x := by
          rw [hk.2]
          unfold remark
          rw [hs]
          simp; omega
        rw [hr3, List.drop_take, show a - p - remark x = a - (p + remark x) by omega]
        exact ih.2.2.2
      · cases ht : tokenR x br sq with
        | bad e' =>
          rw [scanF_bad hne hb hc ht] at h
          injection h with h1 h2
          injection h2 with h2
          injection h2 with h2 h3
          subst h1 h2 h3
          refine ⟨Nat.le_refl _, by omega, tokenR_err ht, ?_⟩
          rw [Nat.sub_self, List.take_zero, scanF_nil]
        | tok k n b q =>
          have hn := tokenR_pos hne ht
          rw [scanF_tok hne hb hc ht] at h
          injection h with h1 h2
          subst h1
          have ih := scanF_fault m (x.drop n) (p + n) b q (scanF (x.drop n) (p + n) b q).1 a e (by simp; omega) (by rw [← h2])
          simp only [List.length_drop] at ih
          refine ⟨by omega, by omega, ih.2.2.1, ?_⟩
          obtain ⟨h3, h4⟩ := hat (a - p) (by omega)
          have ht2 : tokenR (x.take (a - p)) br sq = .tok k n b q := by
            refine tokenR_app (y := x.drop (a - p)) h3 ?_ (by simp; omega)
            rw [List.take_append_drop]; exact ht
          rw [scanF_tok h3 (by rw [h4]; exact hb) (by rw [h4]; exact hc) ht2, List.take_take, List.drop_take, show min n (a - p) = n by omega, show a - p - n = a - (p + n) by omega, ih.2.2.2]
    · rw [scanF_blank hne hb] at h
      have ih := scanF_fault m _ _ _ _ _ _ _ (by simp; omega) h
      simp only [List.length_drop] at ih
      refine ⟨by omega, by omega, ih.2.2.1, ?_⟩
      obtain ⟨h1, h2⟩ := hat (a - p) (by omega)
      rw [scanF_blank h1 (by rw [h2]; exact hb), List.drop_take, show a - p - 1 = a - (p + 1) by omega]
      exact ih.2.2.2
/-- Tokens that follow one another from these flags on. -/
def Chain : Bool → Bool → List Tok → Prop
  | _, _, [] => True
  | br, sq, t :: r => t.text ≠ [] ∧ isBl (atB t.text 0) = false ∧ (atB t.text 0).toNat ≠ 35 ∧ ∃ b q, tokenR t.text br sq = .tok t.kind t.text.length b q ∧ Chain b q r
theorem scanF_chain : ∀ (m : Nat) (l : List UInt8) (p : Nat) (br sq : Bool), l.length ≤ m → Chain br sq (scanF l p br sq).1
  | m, [], p, br, sq, _ => trivial
  | 0, c :: r, p, br, sq, h => by simp at h
  | m + 1, c :: r, p, br, sq, hm => by
    have hne : c :: r ≠ [] := by simp
    generalize hl : c :: r = x at *
    have hlen := nil_len hne
    cases hb : isBl (atB x 0)
    · by_cases hc : (atB x 0).toNat = 35
      · have hr := remark_pos hne
        rw [scanF_remark hne hc]
        exact scanF_chain m _ _ _ _ (by simp; omega)
      · cases ht : tokenR x br sq with
        | bad e' => rw [scanF_bad hne hb hc ht]; trivial
        | tok k n b q =>
          have hn := tokenR_pos hne ht
          rw [scanF_tok hne hb hc ht]
          have h1 : 0 < (x.take n).length := by simp; omega
          have h3 : x.take n ≠ [] := List.length_pos_iff.1 h1
          have h4 : atB (x.take n) 0 = atB x 0 := by
            have h2 := atB_app (x := x.take n) (y := x.drop n) h1
            rw [List.take_append_drop] at h2
            exact h2.symm
          refine ⟨h3, by show isBl (atB (x.take n) 0) = false; rw [h4]; exact hb, by show (atB (x.take n) 0).toNat ≠ 35; rw [h4]; exact hc, b, q, ?_, scanF_chain m _ _ _ _ (by simp; omega)⟩
          have hl : (x.take n).length = n := by simp; omega
          show tokenR (x.take n) br sq = .tok k (x.take n).length b q
          rw [hl]
          refine tokenR_app (y := x.drop n) h3 ?_ (by omega)
          rw [List.take_append_drop]; exact ht
    · rw [scanF_blank hne hb]
      exact scanF_chain m _ _ _ _ (by simp; omega)
theorem takeWhile_all (p : UInt8 → Bool) : ∀ l : List UInt8, (∀ c ∈ l, p c = true) → l.takeWhile p = l
  | [], _ => rfl
  | c :: r, h => by
    rw [List.takeWhile_cons, if_pos (h c (by simp)), takeWhile_all p r fun d hd => h d (by simp [hd])]
/-- Blanks and closed remarks. -/
def Blank (g : List UInt8) : Prop := ∀ (y : List UInt8) (p : Nat) (br sq : Bool), scanF (g ++ y) p br sq = scanF y (p + g.length) br sq
theorem Blank.nil : Blank [] := fun _ _ _ _ => rfl
theorem Blank.cons {c : UInt8} {g : List UInt8} (hc : isBl c = true) (h : Blank g) : Blank (c :: g) := by
  intro y p br sq
  rw [List.cons_append, scanF_blank (l := c :: (g ++ y)) (by simp) (show isBl c = true from hc)]
  show scanF (g ++ y) (p + 1) br sq = _
  rw [h, List.length_cons, show p + 1 + g.length = p + (g.length + 1) by omega]
theorem Blank.app {g h : List UInt8} (h1 : Blank g) (h2 : Blank h) : Blank (g ++ h) := by
  intro y p br sq
  rw [List.append_assoc, h1, h2, List.length_append, Nat.add_assoc]
theorem Blank.remark {g : List UInt8} (h : ∀ c ∈ g, c ≠ 10) : Blank (35 :: g ++ [10]) := by
  intro y p br sq
  have hs : spanEnd notNl (35 :: g ++ 10 :: y) 0 = g.length + 1 := by
    have h1 : spanEnd notNl (35 :: g ++ 10 :: y) 0 = spanEnd notNl (35 :: g) 0 := spanEnd_sep (Nat.zero_le _) (by decide)
    rw [h1]
    have h2 : (35 :: g).takeWhile notNl = 35 :: g := by
      refine takeWhile_all _ _ ?_
      intro c hc
      rcases List.mem_cons.1 hc with rfl | hc
      · decide
      · have := h c hc
        simp only [notNl, bne_iff_ne, ne_eq]
        intro e
        exact this ((u8_eq (n := 10) (by omega)).2 e)
    simp [spanEnd, h2]
  have e : 35 :: g ++ [10] ++ y = 35 :: g ++ 10 :: y := by simp
  rw [e, scanF_remark (by simp) rfl]
  have hr : Go.Proofs.YtpkeonafcldkhaaGreatDoor.remark (35 :: g ++ 10 :: y) = g.length + 2 := by
    unfold Go.Proofs.YtpkeonafcldkhaaGreatDoor.remark
    rw [hs]
    simp
  rw [hr]
  have hd : (35 :: g ++ 10 :: y).drop (g.length + 2) = y := by
    rw [show 35 :: g ++ 10 :: y = (35 :: g ++ [10]) ++ y by simp, List.drop_left' (by simp)]
  rw [hd]
  simp
/-- Texts of tokens with gaps ahead of them and behind the last. -/
def layF (gap : Nat → List UInt8) (fin : List UInt8) : Nat → List Tok → List UInt8
  | _, [] => fin
  | i, t :: r => gap i ++ (t.text ++ layF gap fin (i + 1) r)
def layT (gap : Nat → List UInt8) : Nat → Nat → List Tok → List Tok
  | _, _, [] => []
  | i, p, t :: r => ⟨t.kind, t.text, p + (gap i).length⟩ :: layT gap (i + 1) (p + (gap i).length + t.text.length) r
def Begins (g : List UInt8) : Prop := ∃ c z, g = c :: z ∧ sepB c
theorem scanF_lay {gap : Nat → List UInt8} {fin : List UInt8} (h1 : ∀ i, Blank (gap i)) (h2 : ∀ i, Begins (gap (i + 1))) (h3 : fin = [] ∨ Blank fin ∧ Begins fin) :
    ∀ (ts : List Tok) (i p : Nat) (br sq : Bool), Chain br sq ts → scanF (layF gap fin i ts) p br sq = (layT gap i p ts, none)
  | [], i, p, br, sq, _ => by
    rw [layF, layT]
    rcases h3 with rfl | ⟨hb, _⟩
    · rfl
    · have := hb [] p br sq
      rw [List.append_nil] at this
      rw [this, scanF_nil]
  | t :: r, i, p, br, sq, h => by
    obtain ⟨h4, h5, h6, b, q, h7, h8⟩ := h
    have hlen := nil_len h4
    rw [layF, layT, h1]
    have hb : layF gap fin (i + 1) r = [] ∨ Begins (layF gap fin (i + 1) r) := by
      cases r with
      | nil =>
        rcases h3 with h | ⟨_, h⟩
        · exact .inl h
        · exact .inr h
      | cons u r =>
        obtain ⟨c, z, hc, hs⟩ := h2 i
        exact .inr ⟨c, _, by rw [layF, hc]; rfl, hs⟩
    have ht : tokenR (t.text ++ layF gap fin (i + 1) r) br sq = .tok t.kind t.text.length b q := by
      rcases hb with hb | ⟨c, z, hb, hs⟩
      · rw [hb, List.append_nil]; exact h7
      · rw [hb]; exact tokenR_sep hs h4 h7
    have ha : atB (t.text ++ layF gap fin (i + 1) r) 0 = atB t.text 0 := atB_app hlen
    rw [scanF_tok (by simp [h4]) (by rw [ha]; exact h5) (by rw [ha]; exact h6) ht, List.drop_left, List.take_left, scanF_lay h1 h2 h3 r (i + 1) _ b q h8]
end Go.Proofs.YtpkeonafcldkhaaGreatDoor
/- lex: Scan. -/
set_option linter.unusedVariables false
set_option linter.unusedSimpArgs false
namespace Go.Proofs.YtpkeonafcldkhaaGreatDoor
open Go.RowKit

theorem lex_token {ok : List UInt8 → Prop} {T : Nat → World → Prop} (hT : NumT ok T) (w : World) (base p : Nat) (s : ByteArray) (at' : Nat) (br sq : Bool) (v : Value) (ts : List Tok) (hs : s.size ≤ 281474976710) (hat : at' < s.size) (hok : NumOk ok (s.data.toList.drop at')) (hTw : T base w)
    (hz : ZAt w p s at' br sq v) (hown : w.ownsRow base 33 3 v ts.length (toksCells ts)) (hlen : ts.length ≤ 1099511627776) (hbp : base ≤ p) :
    Calls Tryz.prog 28 #[.pointer (some ⟨p, 0, none⟩)] w (TokPost base p s at' br sq ts w (tokenR (s.data.toList.drop at') br sq)) := by
  cases br <;> cases sq
  · exact lex_token_ff hT w base p s at' v ts hs hat hok hTw hz hown hlen hbp
  · exact lex_token_ft hT w base p s at' v ts hs hat hok hTw hz hown hlen hbp
  · exact lex_token_tf hT w base p s at' v ts hs hat hok hTw hz hown hlen hbp
  · exact lex_token_tt hT w base p s at' v ts hs hat hok hTw hz hown hlen hbp
theorem wp_scope_pass {P : Program} {a : Act} {w : World} {Q : Exit → Act → World → Prop} {c rest : Code} (l : Nat) (J : Act → World → Prop) (μ : Act → World → Nat) (hf : findLabel c l = some (Code.seq .skip rest))
    (pass : ∀ a w, J a w → rest.wp P (Exit.jump l (fun a' w' => J a' w' ∧ μ a' w' < μ a w) Q) a w)
    (first : ∀ Q', (∀ a w, J a w → rest.wp P Q' a w) → (∀ e a w, (∀ l', e ≠ .goto l') → Q e a w → Q' e a w) → c.wp P Q' a w) : (Code.scope c).wp P Q a w := by
  refine wp_scope_jumps l J μ hf (first (Exit.jump l J Q) (fun a w h => ?_) ?_) fun a w h => wp_seq (wp_skip (pass a w h))
  · refine wp_mono (pass a w h) fun e a' w' hq => ?_
    cases e with
    | goto l' => exact ⟨hq.1, hq.2.1⟩
    | normal => exact hq
    | exit id => exact hq
    | ret => exact hq
    | panic ch => exact hq
    | outgrown => exact hq
  · intro e a w he hq
    cases e with
    | goto l' => exact absurd rfl (he l')
    | normal => exact hq
    | exit id => exact hq
    | ret => exact hq
    | panic ch => exact hq
    | outgrown => exact hq
/-- Where the scanner at p stands in w. -/
def natAt (w : World) (p : Nat) : Nat := match w.cell? ⟨p, 1, none⟩ with | some (.int _ k) => k.toNat | _ => 0
theorem natAt_of {w : World} {p : Nat} {s : ByteArray} {at' : Nat} {br sq : Bool} {v : Value} (h : ZAt w p s at' br sq v) : natAt w p = at' := by
  unfold natAt
  have : w.cell? ⟨p, 1, none⟩ = some (.int .i64 (at' : Int)) := by rw [h.cell]; rfl
  rw [this]; simp
/-- What holds at each jump. -/
structure ScanI (T : Nat → World → Prop) (w : World) (p : Nat) (s : ByteArray) (R : List Tok × Option (Nat × Nat)) (at' : Nat) (br sq : Bool) (v : Value) (ts : List Tok) (w' : World) : Prop where
  le : at' ≤ s.size
  z : ZAt w' p s at' br sq v
  own : w'.ownsRow w.heap.size 33 3 v ts.length (toksCells ts)
  below : Below w.heap.size w w'
  tab : T w.heap.size w'
  few : ts.length ≤ at'
  out : R = (ts ++ (scanF (s.data.toList.drop at') at' br sq).1, (scanF (s.data.toList.drop at') at' br sq).2)
/-- What Scan answers. -/
def scanAll (l : List UInt8) : List Tok × Option (Nat × Nat) := if 33554432 < l.length then ([], some (0, 1)) else scanF l 0 false false
def outToks (r : List Tok × Option (Nat × Nat)) : List Tok := match r.2 with | none => r.1 | some _ => []
def outAt (r : List Tok × Option (Nat × Nat)) : Nat := match r.2 with | none => 0 | some x => x.1
def outErr (r : List Tok × Option (Nat × Nat)) : Nat := match r.2 with | none => 0 | some x => x.2
def ScanPost (w : World) (r : List Tok × Option (Nat × Nat)) (e : Ending) (w' : World) : Prop :=
  ∃ v, e = .returned (.tuple #[v, .int .i64 (outAt r : Nat), .int .i64 (outErr r : Nat)]) ∧ w'.ownsRow w.heap.size 33 3 v (outToks r).length (toksCells (outToks r)) ∧ Below w.heap.size w w'
theorem ScanPost.bad {w w' : World} {r : List Tok × Option (Nat × Nat)} {a k : Nat} (h : r.2 = some (a, k)) (hb : Below w.heap.size w w') : ScanPost w r (.returned (.tuple #[.slice none 0 0, .int .i64 (a : Int), .int .i64 (k : Int)])) w' := by
  refine ⟨.slice none 0 0, ?_, ?_, hb⟩
  · rw [outAt, outErr, h]
  · rw [outToks, h]; exact World.ownsRow_nil _ _ _ _
theorem ScanPost.good {w w' : World} {r : List Tok × Option (Nat × Nat)} {v : Value} (h : r.2 = none) (ho : w'.ownsRow w.heap.size 33 3 v r.1.length (toksCells r.1)) (hb : Below w.heap.size w w') : ScanPost w r (.returned (.tuple #[v, .int .i64 0, .int .i64 0])) w' := by
  refine ⟨v, ?_, ?_, hb⟩
  · rw [outAt, outErr, h]; rfl
  · rw [outToks, h]; exact ho
theorem indexByte_nl : ∀ (l : List UInt8), Lib.indexByte l 10 = if spanEnd notNl l 0 < l.length then (spanEnd notNl l 0 : Int) else -1
  | [] => by simp [Lib.indexByte]
  | c :: r => by
    have ih := indexByte_nl r
    rw [Lib.indexByte]
    by_cases h : c = 10
    · subst h
      have : spanEnd notNl (10 :: r) 0 = 0 := by simp [spanEnd, List.takeWhile_cons, notNl]
      rw [this, if_pos (by rfl), if_pos (by simp)]; rfl
    · have hn : notNl c = true := by
        simp only [notNl, bne_iff_ne, ne_eq]
        intro e
        exact h ((u8_eq (n := 10) (by omega)).2 e)
      have h1 : spanEnd notNl (c :: r) 0 = spanEnd notNl r 0 + 1 := by simp [spanEnd, List.takeWhile_cons, hn]
      have hb : (c == 10) = false := by simp [h]
      have hl : (c :: r).length = r.length + 1 := rfl
      rw [hb, h1, hl]
      by_cases h2 : spanEnd notNl r 0 < r.length
      · have h3 : spanEnd notNl r 0 + 1 < r.length + 1 := by omega
        have : ((spanEnd notNl r 0 : Int) == -1) = false := by
          have h4 : ¬ (spanEnd notNl r 0 : Int) = -1 := by omega
          exact beq_eq_false_iff_ne.2 h4
        rw [if_pos h2] at ih
        rw [ih, this, if_pos h3]; simp
      · have h3 : ¬ spanEnd notNl r 0 + 1 < r.length + 1 := by omega
        rw [if_neg h2] at ih
        rw [ih, if_neg h3]; simp
theorem ScanI.move {ok : List UInt8 → Prop} {T : Nat → World → Prop} (hT : NumT ok T) {w w' : World} {p : Nat} {s : ByteArray} {R : List Tok × Option (Nat × Nat)} {at' n : Nat} {br sq : Bool} {v : Value} {ts : List Tok} (h : ScanI T w p s R at' br sq v ts w')
    (hp : w.heap.size ≤ p) (hn : at' + n ≤ s.size) (he : scanF (s.data.toList.drop at') at' br sq = scanF (s.data.toList.drop (at' + n)) (at' + n) br sq) (y : Int) (hy : y = ((at' + n : Nat) : Int)) :
    ScanI T w p s R (at' + n) br sq v ts (w'.setCell ⟨p, 1, none⟩ (.int .i64 y)) := by
  subst hy
  have hb := (Below.refl w.heap.size w').setCell (p := ⟨p, 1, none⟩) hp (.int .i64 ((at' + n : Nat) : Int))
  refine ⟨hn, ?_, own_setBlk h.own h.z (by decide) _, h.below.trans hb, hT.keep h.tab hb, by have := h.few; omega, ?_⟩
  · have := Blk.set_ h.z 1 (.int .i64 ((at' + n : Nat) : Int))
    simpa [ZAt] using this
  · rw [h.out, he]
def ScanJ (T : Nat → World → Prop) (w : World) (p : Nat) (s : ByteArray) (R : List Tok × Option (Nat × Nat)) (a' : Act) (w' : World) : Prop :=
  ∃ (at' : Nat) (br sq : Bool) (v : Value) (ts : List Tok) (u : Nat → Value), a' = { tmps := #[.string s, undef, .slice none 0 0, .int .i64 0, .int .i64 0, .pointer (some ⟨p, 0, none⟩), u 6, u 7, u 8, u 9, u 10, u 11, u 12, u 13, u 14, u 15, u 16, u 17, u 18, u 19, u 20, u 21, u 22, u 23, u 24, u 25, u 26, u 27, u 28, u 29, u 30, u 31, u 32, u 33, u 34, u 35, u 36, u 37, u 38, u 39, u 40, u 41, u 42, u 43, u 44, u 45, u 46, u 47, u 48, u 49, u 50, u 51, u 52, u 53, u 54, u 55, u 56, u 57, u 58, u 59, u 60, u 61, u 62, u 63, u 64, u 65, u 66, u 67, u 68, u 69, u 70, u 71, u 72, u 73, u 74, u 75, u 76], defers := [] } ∧ ScanI T w p s R at' br sq v ts w' ∧ s.size ≤ 33554432
theorem ScanJ.lay {T : Nat → World → Prop} {w : World} {p : Nat} {s : ByteArray} {R : List Tok × Option (Nat × Nat)} {a' : Act} {w' : World} {at' : Nat} {br sq : Bool} {v : Value} {ts : List Tok}
    (hf : a' = { tmps := #[.string s, undef, .slice none 0 0, .int .i64 0, .int .i64 0, .pointer (some ⟨p, 0, none⟩), a'.tmps.getD 6 undef, a'.tmps.getD 7 undef, a'.tmps.getD 8 undef, a'.tmps.getD 9 undef, a'.tmps.getD 10 undef, a'.tmps.getD 11 undef, a'.tmps.getD 12 undef, a'.tmps.getD 13 undef, a'.tmps.getD 14 undef, a'.tmps.getD 15 undef, a'.tmps.getD 16 undef, a'.tmps.getD 17 undef, a'.tmps.getD 18 undef, a'.tmps.getD 19 undef, a'.tmps.getD 20 undef, a'.tmps.getD 21 undef, a'.tmps.getD 22 undef, a'.tmps.getD 23 undef, a'.tmps.getD 24 undef, a'.tmps.getD 25 undef, a'.tmps.getD 26 undef, a'.tmps.getD 27 undef, a'.tmps.getD 28 undef, a'.tmps.getD 29 undef, a'.tmps.getD 30 undef, a'.tmps.getD 31 undef, a'.tmps.getD 32 undef, a'.tmps.getD 33 undef, a'.tmps.getD 34 undef, a'.tmps.getD 35 undef, a'.tmps.getD 36 undef, a'.tmps.getD 37 undef, a'.tmps.getD 38 undef, a'.tmps.getD 39 undef, a'.tmps.getD 40 undef, a'.tmps.getD 41 undef, a'.tmps.getD 42 undef, a'.tmps.getD 43 undef, a'.tmps.getD 44 undef, a'.tmps.getD 45 undef, a'.tmps.getD 46 undef, a'.tmps.getD 47 undef, a'.tmps.getD 48 undef, a'.tmps.getD 49 undef, a'.tmps.getD 50 undef, a'.tmps.getD 51 undef, a'.tmps.getD 52 undef, a'.tmps.getD 53 undef, a'.tmps.getD 54 undef, a'.tmps.getD 55 undef, a'.tmps.getD 56 undef, a'.tmps.getD 57 undef, a'.tmps.getD 58 undef, a'.tmps.getD 59 undef, a'.tmps.getD 60 undef, a'.tmps.getD 61 undef, a'.tmps.getD 62 undef, a'.tmps.getD 63 undef, a'.tmps.getD 64 undef, a'.tmps.getD 65 undef, a'.tmps.getD 66 undef, a'.tmps.getD 67 undef, a'.tmps.getD 68 undef, a'.tmps.getD 69 undef, a'.tmps.getD 70 undef, a'.tmps.getD 71 undef, a'.tmps.getD 72 undef, a'.tmps.getD 73 undef, a'.tmps.getD 74 undef, a'.tmps.getD 75 undef, a'.tmps.getD 76 undef], defers := [] }) (h : ScanI T w p s R at' br sq v ts w') (hs : s.size ≤ 33554432) : ScanJ T w p s R a' w' := ⟨at', br, sq, v, ts, fun i => a'.tmps.getD i undef, hf, h, hs⟩
set_option maxRecDepth 100000 in
set_option maxHeartbeats 4000000 in
theorem lex_Scan {ok : List UInt8 → Prop} {T : Nat → World → Prop} (hT : NumT ok T) (w : World) (s : ByteArray) (hs : s.size ≤ 281474976710) (hok : ∀ k, NumOk ok (s.data.toList.drop k)) (hTw : T w.heap.size w) :
    Calls Tryz.prog 11 #[.string s] w (ScanPost w (scanAll s.data.toList)) := by
  obtain ⟨p, hp⟩ : ∃ p, p = w.heap.size := ⟨_, rfl⟩
  obtain ⟨R, hR⟩ : ∃ R, R = scanAll s.data.toList := ⟨_, rfl⟩
  rw [← hR]
  have hbp : w.heap.size ≤ p := by omega
  have HP := Lib.hid hp
  have HRR := Lib.hid hR
  clear hp hR
  go_enter Tryz.func11, Tryz.ntmps11
  go_wp2_with fail
  refine wp_scope_pass 0 (ScanJ T w p s R) (fun _ w' => s.size - natAt w' p) rfl ?_ ?_
  · rintro a' w' ⟨at', br, sq, v, ts, u, rfl, hI, hsz⟩
    have c1 : w'.cell? ⟨p, 1, none⟩ = some (.int .i64 (at' : Int)) := by rw [hI.z.cell]; rfl
    have f1 : w'.frozen? ⟨p, 1, none⟩ = false := hI.z.frozen 1
    have hle := hI.le
    have hmu : natAt w' p = at' := natAt_of hI.z
    rw [hmu]
    cases he : ((at' : Int) == (s.size : Int))
    · have hat : at' < s.size := by have : ¬ (at' : Int) = s.size := by simpa using he
                                    omega
      have hdl : at' < s.data.toList.length := by rw [len_data]; exact hat
      have hne : s.data.toList.drop at' ≠ [] := by
        intro h; have := congrArg List.length h; simp at this; omega
      have ha0 : atB (s.data.toList.drop at') 0 = s[at'] := by rw [atB_drop, Nat.add_zero, atB_lt hat]
      have hadd : IntKind.i64.wrap ((at' : Int) + 1) = ((at' + 1 : Nat) : Int) := by rw [IntKind.wrap_i64]; omega
      have q1 : ((at' : Int) ≤ (s.size : Int)) = True := by simp; omega
      have hdd : ∀ n, (s.data.toList.drop at').drop n = s.data.toList.drop (at' + n) := fun n => by rw [List.drop_drop]
      have HI := Lib.hid hI
      have HNE := Lib.hid hne
      have HA := Lib.hid ha0
      have HDD := Lib.hid hdd
      clear hI hne ha0 hdd
      cases e9 : ((s[at'].toNat : Int) == 9)
      · cases e10 : ((s[at'].toNat : Int) == 10)
        · cases e13 : ((s[at'].toNat : Int) == 13)
          · cases e32 : ((s[at'].toNat : Int) == 32)
            · cases e35 : ((s[at'].toNat : Int) == 35)
              · have hnb : isBl (atB (s.data.toList.drop at') 0) = false := by
                  rw [HA.out]
                  have h9 := neT e9; have h10 := neT e10; have h13 := neT e13; have h32 := neT e32
                  simp [isBl]; omega
                have hn35 : (atB (s.data.toList.drop at') 0).toNat ≠ 35 := by rw [HA.out]; have := neT e35; omega
                have hfew : ts.length ≤ 1099511627776 := by have := HI.out.few; omega
                have HNB := Lib.hid hnb
                have HN35 := Lib.hid hn35
                clear hnb hn35
                go_wp2_with fail
                refine (lex_token hT w' w.heap.size p s at' br sq v ts hs hat (hok at') HI.out.tab HI.out.z HI.out.own hfew hbp).mono ?_
                intro e w5 hp5
                cases hr : tokenR (s.data.toList.drop at') br sq with
                | bad k =>
                  rw [hr] at hp5
                  obtain ⟨rfl, v5, hz5, ho5, hb5⟩ := hp5
                  have hk := tokenR_err hr
                  have hk0 : ((k : Int) != 0) = true := by simp; omega
                  have HB5 := Lib.hid (HI.out.below.trans hb5)
                  have g1 : w5.cell? ⟨p, 1, none⟩ = some (.int .i64 (at' : Int)) := by rw [hz5.cell]; rfl
                  have ho := HI.out.out
                  rw [scanF_bad HNE.out HNB.out HN35.out hr] at ho
                  have HR2 := Lib.hid (show R.2 = some (at', k) by rw [ho])
                  clear hb5 ho5 hz5 ho hr hk
                  go_wp2_with fail
                  go_quiet (fail)
                  go_wp2_with fail
                  try simp only [Exit.jump]
                  go_ret3
                  exact ScanPost.bad HR2.out (below_drewN HB5.out _)
                | tok k n b q =>
                  rw [hr] at hp5
                  obtain ⟨rfl, v5, hz5, ho5, hb5⟩ := hp5
                  have hn := tokenR_pos HNE.out hr
                  simp only [List.length_drop, len_data] at hn
                  have ho := HI.out.out
                  rw [scanF_tok HNE.out HNB.out HN35.out hr, HDD.out] at ho
                  have hI5 : ScanI T w p s R (at' + n) b q v5 (ts ++ [⟨k, (s.data.toList.drop at').take n, at'⟩]) w5 := by
                    refine ⟨by omega, hz5, ?_, HI.out.below.trans hb5, hT.keep HI.out.tab hb5, ?_, ?_⟩
                    · exact ho5
                    · have := HI.out.few; simp; omega
                    · rw [ho]; simp
                  have HI5 := Lib.hid hI5
                  clear hz5 ho5 hb5 ho hr hI5
                  go_wp2_with fail
                  go_wp2
                  go_step3
                  refine ⟨rfl, ScanJ.lay (by rfl) (HI5.out) hsz, ?_⟩
                  rw [natAt_of HI5.out.z]
                  omega
              · obtain ⟨t, ht⟩ : ∃ t, t = s.extract at' s.size := ⟨_, rfl⟩
                have htd : t.data.toList = s.data.toList.drop at' := by rw [ht, extract_from]
                have hts : t.size = s.size - at' := by rw [ht]; simp
                have hc35 : (atB (s.data.toList.drop at') 0).toNat = 35 := by rw [HA.out]; have := eqT e35; omega
                have hix := indexByte_nl t.data.toList
                have hrl := remark_pos HNE.out
                have hrk : remark (s.data.toList.drop at') = min (spanEnd notNl t.data.toList 0 + 1) t.size := by rw [remark, ← htd, len_data]
                have hle2 := spanEnd_le notNl t.data.toList 0 (Nat.zero_le _)
                rw [len_data] at hix hle2
                have HRM := Lib.hid (scanF_remark HNE.out hc35 at' br sq)
                rw [HDD.out] at HRM
                have HT2 := Lib.hid ht
                clear ht htd
                by_cases hk : spanEnd notNl t.data.toList 0 < t.size
                · rw [if_pos hk] at hix
                  have hrk2 : remark (s.data.toList.drop at') = spanEnd notNl t.data.toList 0 + 1 := by omega
                  rw [hrk2] at HRM
                  clear hrk hrl hrk2
                  generalize spanEnd notNl t.data.toList 0 = k at *
                  have a1 : IntKind.i64.wrap ((k : Int) + 1) = (k : Int) + 1 := by rw [IntKind.wrap_i64]; omega
                  have a2 : IntKind.i64.wrap ((at' : Int) + ((k : Int) + 1)) = ((at' + (k + 1) : Nat) : Int) := by rw [IntKind.wrap_i64]; omega
                  have a3 : (0 ≤ (k : Int)) = True := by simp
                  go_wp2_with (first | (go_at_call 27; rw [← HT2.out]; refine (Tryz.strings_IndexByte t 10 _).mono ?_; rintro e w3 ⟨rfl, rfl⟩; simp only [show (10 : Int).toNat.toUInt8 = 10 from rfl]; rw [hix]))
                  go_step3
                  refine ⟨rfl, ScanJ.lay (by rfl) (HI.out.move hT hbp (n := k + 1) (by omega) HRM.out _ (by omega)) hsz, ?_⟩
                  rw [natAt_of (HI.out.move hT hbp (n := k + 1) (by omega) HRM.out _ (by omega)).z]
                  omega
                · rw [if_neg hk] at hix
                  have hrk2 : remark (s.data.toList.drop at') = t.size := by omega
                  rw [hrk2] at HRM
                  clear hrk hrl hrk2
                  go_wp2_with (first | (go_at_call 27; rw [← HT2.out]; refine (Tryz.strings_IndexByte t 10 _).mono ?_; rintro e w3 ⟨rfl, rfl⟩; simp only [show (10 : Int).toNat.toUInt8 = 10 from rfl]; rw [hix]))
                  go_step3
                  refine ⟨rfl, ScanJ.lay (by rfl) (HI.out.move hT hbp (n := t.size) (by omega) HRM.out _ (by omega)) hsz, ?_⟩
                  rw [natAt_of (HI.out.move hT hbp (n := t.size) (by omega) HRM.out _ (by omega)).z]
                  omega
            · go_wp2_with fail
              go_wp2
              go_step3
              have hbl : isBl (atB (s.data.toList.drop at') 0) = true := by rw [HA.out]; have := eqT e32; simp [isBl]; omega
              refine ⟨rfl, ScanJ.lay (by rfl) (HI.out.move hT hbp (n := 1) (by omega) (by rw [scanF_blank HNE.out hbl, HDD.out]) _ (by omega)) hsz, ?_⟩
              rw [natAt_of (HI.out.move hT hbp (n := 1) (by omega) (by rw [scanF_blank HNE.out hbl, HDD.out]) _ (by omega)).z]
              omega
          · go_wp2_with fail
            go_wp2
            go_step3
            have hbl : isBl (atB (s.data.toList.drop at') 0) = true := by rw [HA.out]; have := eqT e13; simp [isBl]; omega
            refine ⟨rfl, ScanJ.lay (by rfl) (HI.out.move hT hbp (n := 1) (by omega) (by rw [scanF_blank HNE.out hbl, HDD.out]) _ (by omega)) hsz, ?_⟩
            rw [natAt_of (HI.out.move hT hbp (n := 1) (by omega) (by rw [scanF_blank HNE.out hbl, HDD.out]) _ (by omega)).z]
            omega
        · go_wp2_with fail
          go_wp2
          go_step3
          have hbl : isBl (atB (s.data.toList.drop at') 0) = true := by rw [HA.out]; have := eqT e10; simp [isBl]; omega
          refine ⟨rfl, ScanJ.lay (by rfl) (HI.out.move hT hbp (n := 1) (by omega) (by rw [scanF_blank HNE.out hbl, HDD.out]) _ (by omega)) hsz, ?_⟩
          rw [natAt_of (HI.out.move hT hbp (n := 1) (by omega) (by rw [scanF_blank HNE.out hbl, HDD.out]) _ (by omega)).z]
          omega
      · go_wp2_with fail
        go_wp2
        go_step3
        have hbl : isBl (atB (s.data.toList.drop at') 0) = true := by rw [HA.out]; have := eqT e9; simp [isBl]; omega
        refine ⟨rfl, ScanJ.lay (by rfl) (HI.out.move hT hbp (n := 1) (by omega) (by rw [scanF_blank HNE.out hbl, HDD.out]) _ (by omega)) hsz, ?_⟩
        rw [natAt_of (HI.out.move hT hbp (n := 1) (by omega) (by rw [scanF_blank HNE.out hbl, HDD.out]) _ (by omega)).z]
        omega
    · have hat : at' = s.size := by have : (at' : Int) = s.size := by simpa using he
                                    omega
      have c4 : w'.cell? ⟨p, 4, none⟩ = some v := by rw [hI.z.cell]; rfl
      have HI := Lib.hid hI
      clear hI
      go_wp2_with fail
      try simp only [Exit.jump]
      go_ret3
      have ho := HI.out.out
      rw [hat, List.drop_of_length_le (by rw [len_data]; omega), scanF_nil, List.append_nil] at ho
      have h2 : R.2 = none := by rw [ho]
      have h1 : R.1 = ts := by rw [ho]
      exact ScanPost.good h2 (by rw [h1]; exact HI.out.own) HI.out.below
  · intro Q' hpass hQ'
    by_cases hlong : (33554432 : Int) < (s.size : Int)
    · go_wp2_with fail
      refine hQ' _ _ _ (fun _ => by simp) ?_
      go_ret3
      have h2 : R.2 = some (0, 1) := by rw [HRR.out, scanAll, if_pos (by rw [len_data]; omega)]
      exact ScanPost.bad h2 (Below.refl _ _)
    · go_wp2_with fail
      go_wp2
      go_step3
      try simp only [Exit.then]
      rename_i K hK
      refine hK _ _ ?_
      obtain rfl := HP.out
      have hb := (Below.refl w.heap.size w).alloc (Nat.le_refl _) (.cells #[.string s, .int .i64 0, .bool false, .bool false, .slice none 0 0] 51)
      refine hpass _ _ (ScanJ.lay (at' := 0) (br := false) (sq := false) (v := .slice none 0 0) (ts := []) (by rfl) ⟨Nat.zero_le _, Blk.new w _ _, World.ownsRow_nil _ _ _ _, hb, hT.keep hTw hb, Nat.zero_le _, ?_⟩ (by omega))
      rw [HRR.out, scanAll, if_neg (by rw [len_data]; omega)]; rfl
end Go.Proofs.YtpkeonafcldkhaaGreatDoor
/- strings.Builder: copyCheck, WriteByte, WriteString at this program (the shelf's own proofs, turned to its numbers). -/
set_option linter.unusedVariables false
set_option linter.unusedSimpArgs false
namespace Go.Proofs.YtpkeonafcldkhaaGreatDoor
open Go.RowKit

theorem bld_size : (Tryz.prog.info? 68).map (·.size) = some 2 := by kernel_rfl
theorem bld_lies : liesAt Tryz.prog Tryz.prog.depth 68 (2 / Tryz.prog.cellsOf 68) 0 68 1 = true := by kernel_rfl
theorem byte_info : (Tryz.prog.info? 5).map (fun i => (i.zero, i.size, i.bytes)) = some (some (.int .u8 0), 1, 1) := by kernel_rfl

/-- Blocks that are neither builders nor rows of bytes stand. -/
def BlkKept (w w' : World) : Prop := ∀ (g : Nat) (t : TypeId) (cs : Array Value), t ≠ 68 → t ≠ 5 → Blk w g t cs → Blk w' g t cs
theorem BlkKept.refl (w : World) : BlkKept w w := fun _ _ _ _ _ h => h
set_option maxHeartbeats 1000000 in
set_option maxRecDepth 100000 in
theorem bld_copyCheck_used (b : Nat) (w : World) (h0 : w.cell? ⟨b, 0, none⟩ = some (.pointer (some ⟨b, 0, none⟩))) :
    Calls Tryz.prog 70 #[.pointer (some ⟨b, 0, none⟩)] w fun e w' => e = .returned (.tuple #[]) ∧ w' = w := by
  obtain ⟨j, hj, _⟩ := Option.map_eq_some_iff.1 bld_size
  go_enter Tryz.func70, Tryz.ntmps70
  go_wp2
  rw [Lib.run_neq_ptr_same w _ Tryz.underlying66 hj]
  go_wp2
  go_end0
  exact ⟨rfl, rfl⟩
set_option maxHeartbeats 1000000 in
set_option maxRecDepth 100000 in
theorem bld_copyCheck_fresh (b : Nat) (w : World) (h0 : w.cell? ⟨b, 0, none⟩ = some (.pointer none)) (hsh : w.shape? b = some (68, 2)) (hfz : w.frozen? ⟨b, 0, none⟩ = false) :
    Calls Tryz.prog 70 #[.pointer (some ⟨b, 0, none⟩)] w fun e w' => e = .returned (.tuple #[]) ∧ w' = w.setCell ⟨b, 0, none⟩ (.pointer (some ⟨b, 0, none⟩)) := by
  obtain ⟨j, hj, hjs⟩ := Option.map_eq_some_iff.1 bld_size
  go_enter Tryz.func70, Tryz.ntmps70
  go_wp2
  rw [Lib.run_to_unsafe w ⟨b, 0, none⟩ Tryz.underlying66 Tryz.underlying122 hj (by rw [hjs]; decide) hsh (Nat.zero_lt_succ 1)]
  simp only [Result.andThen]
  rw [Oper.upon_value]
  go_wp2
  rw [run_callFunc_extern Tryz.func92 (by kernel_rfl) (by kernel_rfl) (by kernel_rfl) (e := Extern.AbiNoEscape.same) (by kernel_rfl)]
  rw [Lib.run_noEscape]
  simp only [Result.andThen]
  rw [Oper.upon_value]
  go_wp2
  rw [Lib.run_from_unsafe w ⟨b, 0, none⟩ Tryz.underlying122 Tryz.underlying66 hj hsh bld_lies]
  simp only [Result.andThen]
  rw [Oper.upon_value]
  go_wp2
  go_end0
  exact ⟨rfl, rfl⟩
theorem bld_copyCheck (B b : Nat) (bs : List Value) (w : World) (h : Lib.IsBuilder 68 5 B b bs w) :
    Calls Tryz.prog 70 #[.pointer (some ⟨b, 0, none⟩)] w fun e w' => e = .returned (.tuple #[]) ∧ (Lib.BuilderAt 68 5 B b (.pointer (some ⟨b, 0, none⟩)) bs w' ∧ Below B w w' ∧ BlkKept w w') := by
  rcases h with h | h
  · refine (bld_copyCheck_fresh b w h.cell0 h.shape h.frozen0).mono ?_
    rintro e w' ⟨rfl, rfl⟩
    exact ⟨rfl, h.used _, (Below.refl B w).setCell (p := ⟨b, 0, none⟩) h.1 _, fun g t cs h1 _ hg => by
      obtain ⟨_, v, hb, _⟩ := h
      exact Blk.far hg (p := ⟨b, 0, none⟩) (Blk.ne_ (t := t) (t' := 68) hg hb h1) _⟩
  · refine (bld_copyCheck_used b w h.cell0).mono ?_
    rintro e w' ⟨rfl, rfl⟩
    exact ⟨rfl, h, Below.refl B _, BlkKept.refl _⟩
set_option maxHeartbeats 2000000 in
set_option maxRecDepth 100000 in
theorem bld_WriteByte (B b : Nat) (bs : List Value) (c : Int) (w : World) (h : Lib.IsBuilder 68 5 B b bs w) (hlen : bs.length + 1 ≤ 140737488355328) (hBw : B ≤ w.heap.size) :
    Calls Tryz.prog 40 #[.pointer (some ⟨b, 0, none⟩), .int .u8 c] w fun e w' => e = .returned .nilIface ∧ (Lib.BuilderAt 68 5 B b (.pointer (some ⟨b, 0, none⟩)) (bs ++ [.int .u8 c]) w' ∧ Below B w w' ∧ BlkKept w w') := by
  obtain ⟨i0, hi, hz0, hz1, hz2⟩ := info_parts byte_info
  go_enter Tryz.func40, Tryz.ntmps40
  go_wp2_with (go_at_call 70; refine (bld_copyCheck B b bs _ h).mono ?_)
  rintro e w1 ⟨rfl, h1, hb1, hk1⟩
  obtain ⟨hB, v, hbk, hown, hne⟩ := h1
  have c0 : w1.cell? ⟨b, 0, none⟩ = some (.pointer (some ⟨b, 0, none⟩)) := by rw [Lib.cell_of_heap hbk]; rfl
  have c1 : w1.cell? ⟨b, 1, none⟩ = some v := by rw [Lib.cell_of_heap hbk]; rfl
  go_wp2_with (at_builtin; refine wpList_append_own _ rfl _ _ 40 rfl B 5 i0 (.int .u8 0) 1 1 Tryz.underlying40 hi hz0 hz1 hz2 rfl (by decide) _ _ _ rfl (hown.alloc _) ⟨w1.heap.size, 0, none⟩ 1 1 [.int .u8 c] rfl rfl ?c1 ?c2 ?c3 ?c4 ?c5 ?_)
  case c1 =>
    intro j u hj
    match j, hj with
    | 0, hj => simp at hj; subst hj; simp [Addr.add]
  case c2 => intro u hu; simp at hu; subst hu; rfl
  case c3 => unfold maxLen; omega
  case c4 => omega
  case c5 => have := hb1.size; simp; omega
  intro v' w2 hown' hgrow _
  have hlt : b < w1.heap.size := by
    rcases Nat.lt_or_ge b w1.heap.size with h' | h'
    · exact h'
    · simp [Array.getElem?_eq_none h'] at hbk
  have hb2 : w2.heap[b]? = some (.cells #[.pointer (some ⟨b, 0, none⟩), v] 68 (0, 0)) := by
    rw [hgrow.block b (by simp; omega) (fun e => hne e.symm), Lib.alloc_old w1 _ b hlt]
    exact hbk
  have d0 : w2.cell? ⟨b, 0, none⟩ = some (.pointer (some ⟨b, 0, none⟩)) := by rw [Lib.cell_of_heap hb2]; rfl
  have d1 : w2.cell? ⟨b, 1, none⟩ = some v := by rw [Lib.cell_of_heap hb2]; rfl
  have f1 : w2.frozen? ⟨b, 1, none⟩ = false := Lib.frozen_of_heap hb2 1
  obtain ⟨g, cap, rfl⟩ : ∃ g cap, v' = .slice (some ⟨g, 0, none⟩) (bs.length + 1) cap := by
    rcases hown'.2 with ⟨_, h0⟩ | ⟨g, cap, cur, hv, _⟩
    · omega
    · exact ⟨g, cap, hv⟩
  go_wp2
  go_ret
  refine ⟨rfl, ?_, ?_, fun g t cs h1 h2 hg => Blk.far (Blk.grown ((hk1 g t cs h1 h2 hg).alloc _) hgrow (fun e => own_blk_ne hown (hk1 g t cs h1 h2 hg) (Ne.symm h2) e.symm)) (p := ⟨b, 1, none⟩) (Blk.ne_ (t := t) (t' := 68) (hk1 g t cs h1 h2 hg) hbk h1) _⟩
  · exact Lib.BuilderAt.put (T := 68) (e := 5) hB hb2 (bs' := bs ++ [.int .u8 c]) (by simpa using hown') (by decide)
  · exact ((hb1.alloc (by have := hb1.size; omega) _).grown hgrow (by have := hb1.size; simp; omega) (fun k hk => (hown.lt k hk).1)).setCell (p := ⟨b, 1, none⟩) hB _
set_option maxHeartbeats 2000000 in
set_option maxRecDepth 100000 in
theorem bld_WriteString (B b : Nat) (bs : List Value) (s : ByteArray) (w : World) (h : Lib.IsBuilder 68 5 B b bs w) (hlen : bs.length + s.size ≤ 140737488355328) (hBw : B ≤ w.heap.size) :
    Calls Tryz.prog 41 #[.pointer (some ⟨b, 0, none⟩), .string s] w fun e w' => e = .returned (.tuple #[.int .i64 s.size, .nilIface]) ∧ (Lib.BuilderAt 68 5 B b (.pointer (some ⟨b, 0, none⟩)) (bs ++ Lib.strCells s) w' ∧ Below B w w' ∧ BlkKept w w') := by
  obtain ⟨i0, hi, hz0, hz1, hz2⟩ := info_parts byte_info
  go_enter Tryz.func41, Tryz.ntmps41
  go_wp2_with (go_at_call 70; refine (bld_copyCheck B b bs _ h).mono ?_)
  rintro e w1 ⟨rfl, h1, hb1, hk1⟩
  obtain ⟨hB, v, hbk, hown, hne⟩ := h1
  have c0 : w1.cell? ⟨b, 0, none⟩ = some (.pointer (some ⟨b, 0, none⟩)) := by rw [Lib.cell_of_heap hbk]; rfl
  have c1 : w1.cell? ⟨b, 1, none⟩ = some v := by rw [Lib.cell_of_heap hbk]; rfl
  go_wp2_with (at_builtin; refine Lib.wpList_append_own_string _ rfl _ _ 40 9 rfl B 5 i0 Tryz.underlying40 Tryz.underlying9 hi hz0 hz1 hz2 _ _ _ rfl hown s rfl ?c3 ?c4 ?c5 ?_)
  case c3 => unfold maxLen; omega
  case c4 => omega
  case c5 => have := hb1.size; omega
  intro v' w2 hown' hgrow _
  have hlt : b < w1.heap.size := by
    rcases Nat.lt_or_ge b w1.heap.size with h' | h'
    · exact h'
    · simp [Array.getElem?_eq_none h'] at hbk
  have hb2 : w2.heap[b]? = some (.cells #[.pointer (some ⟨b, 0, none⟩), v] 68 (0, 0)) := by
    rw [hgrow.block b hlt (fun e => hne e.symm)]
    exact hbk
  have d0 : w2.cell? ⟨b, 0, none⟩ = some (.pointer (some ⟨b, 0, none⟩)) := by rw [Lib.cell_of_heap hb2]; rfl
  have d1 : w2.cell? ⟨b, 1, none⟩ = some v := by rw [Lib.cell_of_heap hb2]; rfl
  have f1 : w2.frozen? ⟨b, 1, none⟩ = false := Lib.frozen_of_heap hb2 1
  obtain ⟨ao, n', cap, rfl⟩ : ∃ ao n' cap, v' = .slice ao n' cap := by
    rcases hown'.2 with ⟨hv, _⟩ | ⟨g, cap, cur, hv, _⟩
    · exact ⟨_, _, _, hv⟩
    · exact ⟨_, _, _, hv⟩
  go_wp2
  go_ret2
  refine ⟨rfl, ?_, ?_, fun g t cs h1 h2 hg => Blk.far (Blk.grown (hk1 g t cs h1 h2 hg) hgrow (fun e => own_blk_ne hown (hk1 g t cs h1 h2 hg) (Ne.symm h2) e.symm)) (p := ⟨b, 1, none⟩) (Blk.ne_ (t := t) (t' := 68) (hk1 g t cs h1 h2 hg) hbk h1) _⟩
  · exact Lib.BuilderAt.put (T := 68) (e := 5) hB hb2 (bs' := bs ++ Lib.strCells s) (by simpa [Lib.strCells_length] using hown') (by decide)
  · exact (hb1.grown hgrow (by have := hb1.size; omega) (fun k hk => (hown.lt k hk).1)).setCell (p := ⟨b, 1, none⟩) hB _
end Go.Proofs.YtpkeonafcldkhaaGreatDoor
