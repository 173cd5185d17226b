import Derived.Test.YtpkeonafcldkhaaGreatDoorQ12
import Derived.Test.YtpkeonafcldkhaaGreatDoorQ04
import Derived.Lib.IndexAny
import Derived.WalkMore
import Derived.ScopeJumps
import Derived.OwnWalk
import Derived.Test.YtpkeonafcldkhaaGreatDoorQ16
/- Part of the proof of YtpkeonafcldkhaaGreatDoorCardS CardV: PlI PlJ PlK RdB RdC. -/
set_option linter.unusedVariables false
set_option linter.unusedSimpArgs false
namespace Go.Proofs.YtpkeonafcldkhaaGreatDoor
open Go.RowKit
theorem atB_app {x y : List UInt8} {i : Nat} (h : i < x.length) : atB (x ++ y) i = atB x i := by
 simp [atB, List.getD_eq_getElem?_getD, List.getElem?_append_left h]
theorem spanEnd_app {p : UInt8 → Bool} {x y : List UInt8} {i : Nat} (hi : i ≤ x.length) (h : spanEnd p (x ++ y) i ≤ x.length) : spanEnd p x i = spanEnd p (x ++ y) i := by
 have e : (x ++ y).drop i = x.drop i ++ y := List.drop_append_of_le_length hi
 unfold spanEnd at h ⊢
 rw [e] at h ⊢
 obtain ⟨z, hz⟩ : ∃ z, z = x.drop i := ⟨_, rfl⟩
 have hzl : z.length = x.length - i := by rw [hz]; simp
 rw [← hz] at h ⊢
 clear hz e
 have h2 : ((z ++ y).takeWhile p).length ≤ z.length := by omega
 have h3 : ∀ z : List UInt8, ((z ++ y).takeWhile p).length ≤ z.length → (z.takeWhile p).length = ((z ++ y).takeWhile p).length := by
  intro z
  induction z with
  |nil => intro h; exact (Nat.le_zero.1 h).symm
  |cons c r ih =>
   intro h
   simp only [List.cons_append, List.takeWhile_cons] at *
   split
   ·rename_i hp
    rw [if_pos hp] at h
    simp at h
    simp [ih h]
   ·rfl
 rw [h3 z h2]
theorem spanEnd_sep {p : UInt8 → Bool} {x y : List UInt8} {c : UInt8} {i : Nat} (hi : i ≤ x.length) (hc : p c = false) : spanEnd p (x ++ c :: y) i = spanEnd p x i := by
 refine (spanEnd_app hi ?_).symm
 unfold spanEnd
 rw [List.drop_append_of_le_length hi]
 have h3 : ∀ z : List UInt8, ((z ++ c :: y).takeWhile p).length ≤ z.length := by
  intro z
  induction z with
  |nil => simp [List.takeWhile_cons, hc]
  |cons d r ih =>
   simp only [List.cons_append, List.takeWhile_cons]
   split
   ·simp; omega
   ·simp
 have := h3 (x.drop i)
 simp at this ⊢
 omega
theorem spanEnd_at {p : UInt8 → Bool} : ∀ {l : List UInt8} {i : Nat}, spanEnd p l i < l.length → p (atB l (spanEnd p l i)) = false := by
 intro l i
 unfold spanEnd
 obtain ⟨z, hz⟩ : ∃ z, z = l.drop i := ⟨_, rfl⟩
 intro h
 have h1 : atB l (i + (z.takeWhile p).length) = atB z (z.takeWhile p).length := by rw [hz, atB_drop]
 rw [← hz] at h ⊢
 rw [h1]
 have hl : (z.takeWhile p).length < z.length := by rw [hz] at h ⊢; simp at h ⊢; omega
 clear h h1 hz
 induction z with
 |nil => simp at hl
 |cons c r ih =>
  simp only [List.takeWhile_cons] at *
  split
  ·rename_i hp
   rw [if_pos hp] at hl
   simp only [List.length_cons, Nat.add_lt_add_iff_right] at hl
   exact ih hl
  ·rename_i hp
   simpa [atB] using hp
theorem spanEnd_self {p : UInt8 → Bool} {l : List UInt8} {i : Nat} (h : i < l.length) (hp : p (atB l i) = false) : spanEnd p l i = i := by
 refine spanEnd_stop h ?_
 rw [← hp, atB, List.getD_eq_getElem?_getD, List.getElem?_eq_getElem h]; rfl
theorem hexHead_app {x y : List UInt8} (h : 2 < x.length) : hexHead (x ++ y) = hexHead x := by
 unfold hexHead
 rw [atB_app (by omega), atB_app (by omega), atB_app h, decide_eq_true h, decide_eq_true (by simp; omega)]
theorem decEnd_app {x y : List UInt8} (h : decEnd (x ++ y) ≤ x.length) : decEnd x = decEnd (x ++ y) := by
 have h0 : spanEnd digit (x ++ y) 0 ≤ decEnd (x ++ y) := by
  unfold decEnd
  split
  ·have := spanEnd_ge digit (x ++ y) (spanEnd digit (x ++ y) 0 + 1); omega
  ·split
   ·omega
   ·omega
 have h1 := spanEnd_app (p := digit) (x := x) (y := y) (Nat.zero_le _) (by omega)
 unfold decEnd at *
 rw [h1]
 generalize spanEnd digit (x ++ y) 0 = k at *
 by_cases c1 : k < (x ++ y).length ∧ (atB (x ++ y) k).toNat = 46 ∧ 0 < k
 ·rw [if_pos c1] at h ⊢
  have h2 := spanEnd_ge digit (x ++ y) (k + 1)
  have hk : k < x.length := by omega
  rw [atB_app hk] at c1
  rw [if_pos ⟨hk, c1.2⟩]
  exact spanEnd_app (by omega) h
 ·rw [if_neg c1] at h ⊢
  rw [if_neg (by rintro ⟨a, b, c⟩; exact c1 ⟨by simp; omega, by rw [atB_app a]; exact b, c⟩)]
  by_cases c2 : k = 0 ∧ 1 < (x ++ y).length ∧ (atB (x ++ y) 0).toNat = 46 ∧ digit (atB (x ++ y) 1) = true
  ·rw [if_pos c2] at h ⊢
   have h2 : 2 ≤ spanEnd digit (x ++ y) 1 := by
    have := spanEnd_step (p := digit) (l := x ++ y) (i := 1) c2.2.1 (by
     have := c2.2.2.2
     rw [atB, List.getD_eq_getElem?_getD, List.getElem?_eq_getElem c2.2.1] at this
     exact this)
    rw [← this]
    exact spanEnd_ge digit _ 2
   rw [atB_app (by omega), atB_app (by omega)] at c2
   rw [if_pos ⟨c2.1, by omega, c2.2.2⟩]
   exact spanEnd_app (by omega) h
  ·rw [if_neg c2]
   rw [if_neg (by rintro ⟨a, b, c, d⟩; exact c2 ⟨a, by simp; omega, by rw [atB_app (by omega)]; exact c, by rw [atB_app b]; exact d⟩)]
theorem expEnd_app {x y : List UInt8} {i : Nat} (hi : i ≤ x.length) (h : expEnd (x ++ y) i ≤ x.length) : expEnd x i = expEnd (x ++ y) i := by
 by_cases hx : x.length ≤ i
 ·have h1 : expEnd x i = i := by rw [expEnd, if_pos (.inl hx)]
  have h2 := expEnd_le (x ++ y) i (by simp; omega)
  omega
 ·have ha : atB (x ++ y) i = atB x i := atB_app (by omega)
  unfold expEnd at h ⊢
  rw [ha] at h ⊢
  cases he : isE (atB x i)
  ·rw [if_pos (.inr rfl), if_pos (.inr rfl)]
  ·rw [he] at h
   have n1 : ¬ ((x ++ y).length ≤ i ∨ true = false) := by simp; omega
   have n2 : ¬ (x.length ≤ i ∨ true = false) := by simp; omega
   rw [if_neg n1] at h
   rw [if_neg n1, if_neg n2]
   by_cases hs : i + 1 < x.length
   ·have hj : expAt (x ++ y) i = expAt x i := by
     unfold expAt
     rw [atB_app hs]
     by_cases hp : isPM (atB x (i + 1)) = true
     ·rw [if_pos ⟨by simp; omega, hp⟩, if_pos ⟨hs, hp⟩]
     ·rw [if_neg (by intro h; exact hp h.2), if_neg (by intro h; exact hp h.2)]
    have hb := expAt_bound x i (by omega)
    rw [hj] at h ⊢
    by_cases hd : spanEnd digit (x ++ y) (expAt x i) ≤ x.length
    ·rw [spanEnd_app hb.2 hd]
    ·have hge : expAt x i < spanEnd digit (x ++ y) (expAt x i) := by omega
     rw [if_pos hge] at h
     omega
   ·
    have hj : expAt x i = i + 1 := by rw [expAt, if_neg (by intro h; exact hs h.1)]
    rw [hj, spanEnd_end (by omega), if_neg (by omega)]
    have hb := expAt_bound (x ++ y) i (by simp; omega)
    by_cases hd : expAt (x ++ y) i < spanEnd digit (x ++ y) (expAt (x ++ y) i)
    ·rw [if_pos hd] at h
     omega
    ·rw [if_neg hd]
theorem numPrefix_app {x y : List UInt8} (h : numPrefix (x ++ y) ≤ x.length) : numPrefix x = numPrefix (x ++ y) := by
 by_cases h2 : 2 < x.length
 ·unfold numPrefix at h ⊢
  rw [hexHead_app h2] at h ⊢
  cases hh : hexHead x
  ·rw [hh] at h
   simp only [Bool.false_eq_true, if_false] at h ⊢
   have hle : decEnd (x ++ y) ≤ x.length := by
    by_cases h0 : decEnd (x ++ y) = 0
    ·omega
    ·rw [if_neg h0] at h
     have := expEnd_le (x ++ y) _ (decEnd_le (x ++ y))
     omega
   rw [decEnd_app hle]
   by_cases h0 : decEnd (x ++ y) = 0
   ·rw [if_pos h0, if_pos h0]
   ·rw [if_neg h0] at h
    rw [if_neg h0, if_neg h0]
    exact expEnd_app hle h
  ·rw [hh] at h
   simp only [if_true] at h ⊢
   exact spanEnd_app (by omega) h
 ·have hn : hexHead x = false := by simp [hexHead]; omega
  have hn2 : hexHead (x ++ y) = false := by
   cases hh : hexHead (x ++ y)
   ·rfl
   ·have h3 : 3 ≤ numPrefix (x ++ y) := by
     have hh' := hh
     simp only [hexHead, Bool.and_eq_true, decide_eq_true_eq] at hh'
     rw [numPrefix, hh, if_pos rfl]
     have := spanEnd_step (p := hexd) (l := x ++ y) (i := 2) hh'.1.1.1 (by
      have := hh'.2
      rw [atB, List.getD_eq_getElem?_getD, List.getElem?_eq_getElem hh'.1.1.1] at this
      exact this)
     rw [← this]
     exact spanEnd_ge hexd _ 3
    omega
  unfold numPrefix at h ⊢
  rw [hn2] at h
  rw [hn, hn2]
  simp only [Bool.false_eq_true, if_false] at h ⊢
  have hle : decEnd (x ++ y) ≤ x.length := by
   by_cases h0 : decEnd (x ++ y) = 0
   ·omega
   ·rw [if_neg h0] at h
    have := expEnd_le (x ++ y) _ (decEnd_le (x ++ y))
    omega
  rw [decEnd_app hle]
  by_cases h0 : decEnd (x ++ y) = 0
  ·rw [if_pos h0, if_pos h0]
  ·rw [if_neg h0] at h
   rw [if_neg h0, if_neg h0]
   exact expEnd_app hle h
theorem mGo_ge : ∀ (f : Nat) (l : List UInt8) (fin next sum : Nat), fin ≤ (mGo f l fin next sum).1
 | 0, _, _, _, _ => Nat.le_refl _
 |f + 1, l, fin, next, sum => by
  rw [mGo]
  split
  ·exact Nat.le_refl _
  ·have h1 := mGo_ge f l (unitAt l (spanEnd digit l fin)).2 ((unitAt l (spanEnd digit l fin)).1 + 1) (partSum (sat ((l.drop fin).take (spanEnd digit l fin - fin))) (unitAt l (spanEnd digit l fin)).1 sum)
   have h2 := (unitAt_ge l (spanEnd digit l fin)).1
   have h3 := spanEnd_ge digit l fin
   omega
theorem unitAt_end {l : List UInt8} {i : Nat} (h : l.length ≤ i) : unitAt l i = (7, i) := by rw [unitAt, if_pos h]
theorem unitAt_app {x y : List UInt8} {i : Nat} (hi : i < x.length) (h : (unitAt (x ++ y) i).2 ≤ x.length) : unitAt x i = unitAt (x ++ y) i := by
 have h1 : ¬ (x ++ y).length ≤ i := by simp; omega
 unfold unitAt at h ⊢
 rw [if_neg h1] at h
 rw [if_neg h1, if_neg (by omega)]
 rw [atB_app hi] at h ⊢
 by_cases hm : atB x i = 109 ∧ i + 1 < (x ++ y).length ∧ atB (x ++ y) (i + 1) = 115
 ·rw [if_pos hm] at h
  simp only at h
  rw [if_pos hm, if_pos ⟨hm.1, by omega, by rw [← atB_app (y := y) (by omega)]; exact hm.2.2⟩]
 ·rw [if_neg hm, if_neg (by rintro ⟨a, b, c⟩; exact hm ⟨a, by simp; omega, by rw [atB_app b]; exact c⟩)]
theorem unitAt_over {x y : List UInt8} {i : Nat} (hi : i < x.length) (h : x.length < (unitAt (x ++ y) i).2) : (unitAt x i).1 = 4 ∧ (unitAt (x ++ y) i).1 = 6 := by
 have h1 : ¬ (x ++ y).length ≤ i := by simp; omega
 unfold unitAt at h ⊢
 rw [if_neg h1] at h
 rw [if_neg h1, if_neg (by omega)]
 rw [atB_app hi] at h ⊢
 by_cases hm : atB x i = 109 ∧ i + 1 < (x ++ y).length ∧ atB (x ++ y) (i + 1) = 115
 ·rw [if_pos hm] at h
  simp only at h
  rw [if_pos hm, if_neg (by omega), hm.1]
  exact ⟨by rw [if_neg (by decide)]; show uOf 109 = 4; decide, rfl⟩
 ·rw [if_neg hm] at h
  split at h <;> (simp only at h; omega)
theorem take_drop_app {x y : List UInt8} {i n : Nat} (h : i + n ≤ x.length) : ((x ++ y).drop i).take n = (x.drop i).take n := by
 rw [List.drop_append_of_le_length (by omega), List.take_append_of_le_length (by simp; omega)]
theorem mGo_app {x y : List UInt8} : ∀ (f fin next sum : Nat), fin ≤ x.length → next ≤ 7 → (mGo f (x ++ y) fin next sum).1 ≤ x.length → mGo f x fin next sum = mGo f (x ++ y) fin next sum
 | 0, _, _, _, _, _, _ => rfl
 |f + 1, fin, next, sum, hf, hn, h => by
  rw [mGo] at h
  rw [mGo, mGo]
  have hge := spanEnd_ge digit (x ++ y) fin
  by_cases hk : spanEnd digit (x ++ y) fin ≤ x.length
  ·have hke := spanEnd_app hf hk
   rw [hke]
   rcases Nat.lt_or_ge (spanEnd digit (x ++ y) fin) x.length with hlt | hge2
   ·generalize spanEnd digit (x ++ y) fin = k at *
    by_cases hu : (unitAt (x ++ y) k).2 ≤ x.length
    ·rw [unitAt_app hlt hu]
     by_cases hc : k = fin ∨ (unitAt (x ++ y) k).1 < next ∨ (unitAt (x ++ y) k).1 = 7
     ·rw [if_pos hc, if_pos hc]
     ·rw [if_neg hc] at h
      rw [if_neg hc, if_neg hc, take_drop_app (by omega)]
      have hu7 := (unitAt_ge (x ++ y) k).2.2
      rw [take_drop_app (by omega)] at h
      exact mGo_app f _ _ _ hu (by omega) h
    ·obtain ⟨h4, h6⟩ := unitAt_over (x := x) (y := y) hlt (by omega)
     by_cases hc : k = fin ∨ (unitAt (x ++ y) k).1 < next ∨ (unitAt (x ++ y) k).1 = 7
     ·rw [if_pos hc, if_pos (by rw [h4]; omega)]
     ·rw [if_neg hc] at h
      have := mGo_ge f (x ++ y) (unitAt (x ++ y) k).2 ((unitAt (x ++ y) k).1 + 1) (partSum (sat (((x ++ y).drop fin).take (k - fin))) (unitAt (x ++ y) k).1 sum)
      omega
   ·have hke2 : spanEnd digit (x ++ y) fin = x.length := by omega
    rw [hke2] at h ⊢
    rw [unitAt_end (Nat.le_refl _), if_pos (.inr (.inr rfl))]
    by_cases hc : x.length = fin ∨ (unitAt (x ++ y) x.length).1 < next ∨ (unitAt (x ++ y) x.length).1 = 7
    ·rw [if_pos hc]
    ·rw [if_neg hc] at h
     have h1 := mGo_ge f (x ++ y) (unitAt (x ++ y) x.length).2 ((unitAt (x ++ y) x.length).1 + 1) (partSum (sat (((x ++ y).drop fin).take (x.length - fin))) (unitAt (x ++ y) x.length).1 sum)
     have h2 : x.length < (unitAt (x ++ y) x.length).2 := by
      unfold unitAt at hc ⊢
      split
      ·rename_i h3; rw [if_pos h3] at hc; simp at hc
      ·rename_i h3
       rw [if_neg h3] at hc
       split
       ·simp
       ·rename_i h4
        rw [if_neg h4] at hc
        split
        ·rename_i h5; rw [if_pos h5] at hc; simp at hc
        ·simp
     omega
  ·
   have hx : spanEnd digit x fin = x.length := by
    have h1 := spanEnd_le digit x fin hf
    rcases Nat.lt_or_ge (spanEnd digit x fin) x.length with hlt | hge2
    ·exfalso
     have h2 := spanEnd_at hlt
     have h3 : spanEnd digit (x ++ y) fin = spanEnd digit x fin := by
      obtain ⟨c, r, hcr⟩ : ∃ c r, x.drop (spanEnd digit x fin) = c :: r := by
       cases hd : x.drop (spanEnd digit x fin) with
       |nil => have := congrArg List.length hd; simp at this; omega
       |cons c r => exact ⟨c, r, rfl⟩
      have hc : c = atB x (spanEnd digit x fin) := by
       have := atB_drop x (spanEnd digit x fin) 0
       rw [hcr] at this
       simpa [atB] using this
      have hx : x ++ y = x.take (spanEnd digit x fin) ++ c :: (r ++ y) := by
       conv => lhs; rw [← List.take_append_drop (spanEnd digit x fin) x, hcr]
       simp
      have hx2 : x = x.take (spanEnd digit x fin) ++ c :: r := by
       conv => lhs; rw [← List.take_append_drop (spanEnd digit x fin) x, hcr]
      have hfl : fin ≤ (x.take (spanEnd digit x fin)).length := by
       have := spanEnd_ge digit x fin
       simp; omega
      have hd : digit c = false := by rw [hc]; exact h2
      have e1 := spanEnd_sep (p := digit) (y := r ++ y) hfl hd
      have e2 := spanEnd_sep (p := digit) (y := r) hfl hd
      rw [← hx] at e1
      rw [← hx2] at e2
      rw [e1, ← e2]
     omega
    ·omega
   rw [hx, unitAt_end (Nat.le_refl _), if_pos (.inr (.inr rfl))]
   by_cases hc : spanEnd digit (x ++ y) fin = fin ∨ (unitAt (x ++ y) (spanEnd digit (x ++ y) fin)).1 < next ∨ (unitAt (x ++ y) (spanEnd digit (x ++ y) fin)).1 = 7
   ·rw [if_pos hc]
   ·rw [if_neg hc] at h
    have h1 := mGo_ge f (x ++ y) (unitAt (x ++ y) (spanEnd digit (x ++ y) fin)).2 ((unitAt (x ++ y) (spanEnd digit (x ++ y) fin)).1 + 1) (partSum (sat (((x ++ y).drop fin).take (spanEnd digit (x ++ y) fin - fin))) (unitAt (x ++ y) (spanEnd digit (x ++ y) fin)).1 sum)
    have h2 := (unitAt_ge (x ++ y) (spanEnd digit (x ++ y) fin)).1
    omega
theorem spanPrefix_app {x y : List UInt8} (h : spanPrefix (x ++ y) ≤ x.length) : spanPrefix x = spanPrefix (x ++ y) := by
 unfold spanPrefix measure at *
 rw [mGo_app 8 0 0 0 (Nat.zero_le _) (by omega) h]
theorem litGo_app {q : UInt8} {y : List UInt8} : ∀ {x : List UInt8} {n : Nat}, litGo q (x ++ y) = some n → n ≤ x.length → litGo q x = some n
  | [], n, h, hn => by have := litGo_le _ _ _ h; simp at hn; omega
  | [c], n, h, hn => by
    have h1 := (litGo_le _ _ _ h).1
    simp only [List.length_singleton] at hn
    cases y with
    | nil => simpa using h
    | cons d r =>
      simp only [List.singleton_append, litGo] at h
      by_cases hc : c = q
      · subst hc; rw [litGo_q, show n = 1 by omega]
      · exfalso
        rw [if_neg hc] at h
        have two : ∀ {o : Option Nat} {a : Nat}, 1 ≤ a → (∀ m, o = some m → 1 ≤ m) → o.map (· + a) = some n → False := by
          intro o a ha ho h
          obtain ⟨m, hm, rfl⟩ := Option.map_eq_some_iff.1 h
          have := ho m hm
          omega
        repeat' split at h
        all_goals first
          | (cases h; done)
          | exact two (by omega) (fun m hm => (litGo_le _ _ _ hm).1) h
  | c :: d :: r, n, h, hn => by
    simp only [List.length_cons] at hn
    simp only [List.cons_append, litGo] at h ⊢
    split
    · rename_i hc; rw [if_pos hc] at h; exact h
    · rename_i hc
      rw [if_neg hc] at h
      split
      · rename_i h1
        rw [if_pos h1] at h
        obtain ⟨m, hm, rfl⟩ := Option.map_eq_some_iff.1 h
        rw [litGo_app (x := d :: r) (y := y) hm (by simp; omega)]; rfl
      · rename_i h1
        rw [if_neg h1] at h
        split
        · rename_i h2; rw [if_pos h2] at h; cases h
        · rename_i h2
          rw [if_neg h2] at h
          split
          · rename_i h3
            rw [if_pos h3] at h
            split
            · rename_i h4; rw [if_pos h4] at h; cases h
            · rename_i h4
              rw [if_neg h4] at h
              obtain ⟨m, hm, rfl⟩ := Option.map_eq_some_iff.1 h
              rw [litGo_app (x := r) (y := y) hm (by omega)]; rfl
          · rename_i h3
            rw [if_neg h3] at h
            obtain ⟨m, hm, rfl⟩ := Option.map_eq_some_iff.1 h
            rw [litGo_app (x := d :: r) (y := y) hm (by simp; omega)]; rfl
theorem litEnd_app {x y : List UInt8} {n : Nat} (hx : x ≠ []) (h : litEnd (x ++ y) 0 = some n) (hn : n ≤ x.length) : litEnd x 0 = some n := by
 have hl := nil_len hx
 unfold litEnd at h ⊢
 rw [atB_app hl] at h
 split at h
 ·rename_i h1
  rw [if_pos ⟨by omega, h1.2⟩]
  obtain ⟨m, hm, rfl⟩ := Option.map_eq_some_iff.1 h
  rw [List.drop_append_of_le_length (by omega)] at hm
  rw [litGo_app hm (by simp; omega)]; rfl
 ·cases h
theorem numPrefix_dot {l : List UInt8} (h1 : (atB l 0).toNat = 46) (h2 : 1 < l.length) (h3 : digit (atB l 1) = true) : 2 ≤ numPrefix l := by
 have hh : hexHead l = false := by simp [hexHead, h1]
 have h0 : spanEnd digit l 0 = 0 := spanEnd_self (by omega) (by simp [digit, h1])
 have h4 : decEnd l = spanEnd digit l 1 := by rw [decEnd, h0, if_neg (by omega), if_pos ⟨rfl, h2, h1, h3⟩]
 have h5 : 2 ≤ spanEnd digit l 1 := by
  have := spanEnd_step (p := digit) (l := l) (i := 1) h2 (by
   rw [atB, List.getD_eq_getElem?_getD, List.getElem?_eq_getElem h2] at h3
   exact h3)
  rw [← this]
  exact spanEnd_ge digit _ 2
 rw [numPrefix, hh, h4, if_neg (by simp), if_neg (by omega)]
 have := expEnd_le l (spanEnd digit l 1) (spanEnd_le digit l 1 (by omega))
 omega
theorem numLen_ge (l : List UInt8) : numPrefix l ≤ numLen l ∧ spanPrefix l ≤ numLen l := by
 unfold numLen; split <;> omega
theorem numberR_app {x y : List UInt8} {br sq b q : Bool} {k n : Nat} (h : numberR (x ++ y) br sq = .tok k n b q) (hn : n ≤ x.length) : numberR x br sq = .tok k n b q := by
 have hkn : n = numLen (x ++ y) := by
  unfold numberR at h
  repeat' split at h
  all_goals first
   |(cases h; done)
   |(injection h with _ h2; exact h2.symm)
 have hge := numLen_ge (x ++ y)
 have e1 := numPrefix_app (x := x) (y := y) (by omega)
 have e2 := spanPrefix_app (x := x) (y := y) (by omega)
 have e3 : numLen x = numLen (x ++ y) := by unfold numLen; rw [e1, e2]
 have e4 : numKind x = numKind (x ++ y) := by unfold numKind; rw [e1, e2]
 have ht : x.take (numLen (x ++ y)) = (x ++ y).take (numLen (x ++ y)) := (List.take_append_of_le_length (by omega)).symm
 have e5 : numBad x = numBad (x ++ y) := by unfold numBad; rw [e1, e2, e3, ht]
 have e6 : numFault (x ++ y) = false → numFault x = false := by
  unfold numFault
  rw [e3]
  by_cases hlt : numLen (x ++ y) < x.length
  ·rw [atB_app hlt, decide_eq_true hlt, decide_eq_true (by simp; omega)]; exact id
  ·rw [decide_eq_false hlt]; intro _; rfl
 unfold numberR at h ⊢
 rw [e3, e4, e5]
 cases hf : numFault (x ++ y)
 ·rw [hf] at h
  rw [e6 hf]
  exact h
 ·rw [hf] at h
  cases h
theorem op2_app {x y : List UInt8} (h : 1 < x.length) : op2 (x ++ y) = op2 x := by
 unfold op2
 rw [List.take_append_of_le_length (by omega), decide_eq_true h, decide_eq_true (by simp; omega)]
theorem opR_n {l : List UInt8} {br sq b q : Bool} {k n : Nat} (h : op2 l = false) (ht : opR l br sq = .tok k n b q) : n = 1 := by
 unfold opR at ht
 rw [h] at ht
 simp only [Bool.false_eq_true, if_false] at ht
 repeat' split at ht
 all_goals first
  |(cases ht; done)
  |(injection ht with _ h2; exact h2.symm)
theorem opR_app {x y : List UInt8} {br sq b q : Bool} {k n : Nat} (hx : x ≠ []) (h : opR (x ++ y) br sq = .tok k n b q) (hn : n ≤ x.length) : opR x br sq = .tok k n b q := by
 have hl := nil_len hx
 by_cases h1 : 1 < x.length
 ·unfold opR at h ⊢
  rw [op2_app h1, atB_app hl] at h
  exact h
 ·have h2 : op2 x = false := by simp [op2]; omega
  cases h3 : op2 (x ++ y)
  ·unfold opR at h ⊢
   rw [h3, atB_app hl] at h
   rw [h2]
   exact h
  ·rw [opR, h3, if_pos rfl] at h
   injection h with _ h4
   omega
theorem tokenR_app {x y : List UInt8} {br sq b q : Bool} {k n : Nat} (hx : x ≠ []) (h : tokenR (x ++ y) br sq = .tok k n b q) (hn : n ≤ x.length) : tokenR x br sq = .tok k n b q := by
 have hl := nil_len hx
 unfold tokenR at h ⊢
 rw [atB_app hl] at h
 split at h
 ·rename_i h1
  rw [if_pos h1]
  injection h with a1 a2 a3 a4
  rw [a2] at a1
  rw [spanEnd_app (y := y) (Nat.zero_le _) (by omega), a2, ← a1, List.take_append_of_le_length hn, a3, a4]
 ·rename_i h1
  rw [if_neg h1]
  split at h
  ·rename_i h2
   rw [if_pos h2]
   injection h with a1 a2 a3 a4
   rw [spanEnd_app (y := y) (by omega) (by omega), a1, a2, a3, a4]
  ·rename_i h2
   rw [if_neg h2]
   split at h
   ·rename_i h3
    have hkn : numPrefix (x ++ y) ≤ n := by
     have hge := numLen_ge (x ++ y)
     have : n = numLen (x ++ y) := by
      unfold numberR at h
      repeat' split at h
      all_goals first
       |(cases h; done)
       |(injection h with _ h2; exact h2.symm)
     omega
    rw [if_pos]
    ·exact numberR_app h hn
    ·rcases h3 with h3 | ⟨h3, h4, h5⟩
     ·exact .inl h3
     ·have h6 := numPrefix_dot (by rw [atB_app hl]; exact h3) h4 h5
      exact .inr ⟨h3, by omega, by rw [atB_app (by omega)] at h5; exact h5⟩
   ·rename_i h3
    rw [if_neg]
    ·split at h
     ·rename_i h4
      rw [if_pos h4]
      unfold strR at h ⊢
      split at h
      ·cases h
      ·rename_i m hm
       split at h
       ·rename_i h5
        injection h with a1 a2 a3 a4
        subst a2
        rw [litEnd_app hx hm hn]
        simp only
        rw [List.take_append_of_le_length hn] at h5
        rw [if_pos h5, a1, a3, a4]
       ·cases h
     ·rename_i h4
      rw [if_neg h4]
      exact opR_app hx h hn
    ·rintro (h4 | ⟨h4, h5, h6⟩)
     ·exact h3 (.inl h4)
     ·exact h3 (.inr ⟨h4, by simp; omega, by rw [atB_app h5]; exact h6⟩)
def Tok.move (d : Nat) (t : Tok) : Tok := ⟨t.kind, t.text, t.pos + d⟩
theorem take_one {l : List UInt8} (h : l ≠ []) : l.take 1 = [atB l 0] := by
 cases l with
 |nil => exact absurd rfl h
 |cons c r => rfl
theorem scanF_move (d : Nat) : ∀ (m : Nat) (l : List UInt8) (p : Nat) (br sq : Bool), l.length ≤ m → scanF l (p + d) br sq = ((scanF l p br sq).1.map (Tok.move d), (scanF l p br sq).2.map fun r => (r.1 + d, r.2))
 |m, [], p, br, sq, _ => rfl
 | 0, c :: r, p, br, sq, h => by simp at h
 |m + 1, c :: r, p, br, sq, h => by
  have hne : c :: r ≠ [] := by simp
  rw [scanF_eq hne, scanF_eq hne]
  generalize hl : c :: r = l at *
  have hr := remark_pos hne
  split
  ·rw [show p + d + 1 = p + 1 + d by omega]
   exact scanF_move d m _ _ _ _ (by simp; omega)
  ·split
   ·rw [show p + d + remark l = p + remark l + d by omega]
    exact scanF_move d m _ _ _ _ (by simp; omega)
   ·cases ht : tokenR l br sq with
    |bad e => rfl
    |tok k n b q =>
     have hn := tokenR_pos hne ht
     simp only
     rw [show p + d + n = p + n + d by omega, scanF_move d m _ _ _ _ (by simp; omega)]
     rfl
theorem tokenR_err {l : List UInt8} {br sq : Bool} {e : Nat} (h : tokenR l br sq = .bad e) : e = 110 ∨ e = 111 ∨ e = 112 := by
 unfold tokenR numberR strR opR at h
 repeat' split at h
 all_goals first
  |(cases h; done)
  |(injection h with h; omega)
theorem scanF_fault : ∀ (m : Nat) (l : List UInt8) (p : Nat) (br sq : Bool) (ts : List Tok) (a e : Nat), l.length ≤ m → scanF l p br sq = (ts, some (a, e)) →
  p ≤ a ∧ a < p + l.length ∧ (e = 110 ∨ e = 111 ∨ e = 112) ∧ scanF (l.take (a - p)) p br sq = (ts, none)
 |m, [], p, br, sq, ts, a, e, _, h => by rw [scanF_nil] at h; cases h
 | 0, c :: r, p, br, sq, ts, a, e, h, _ => by simp at h
 |m + 1, c :: r, p, br, sq, ts, a, e, hm, h => by
  have hne : c :: r ≠ [] := by simp
  generalize hl : c :: r = x at *
  have hlen := nil_len hne
  have hat : ∀ m, 0 < m → x.take m ≠ [] ∧ atB (x.take m) 0 = atB x 0 := by
   intro m hm
   have h1 : 0 < (x.take m).length := by simp; omega
   refine ⟨List.length_pos_iff.1 h1, ?_⟩
   have h2 := atB_app (x := x.take m) (y := x.drop m) h1
   rw [List.take_append_drop] at h2
   exact h2.symm
  cases hb : isBl (atB x 0)
  ·by_cases hc : (atB x 0).toNat = 35
   ·rw [scanF_remark hne hc] at h
    have hr := remark_pos hne
    have ih := scanF_fault m _ _ _ _ _ _ _ (by simp; omega) h
    simp only [List.length_drop] at ih
    refine ⟨by omega, by omega, ih.2.2.1, ?_⟩
    have hk : spanEnd notNl x 0 < x.length ∧ remark x = spanEnd notNl x 0 + 1 := by
     have hr2 : remark x < x.length := by omega
     unfold remark at hr2 ⊢
     omega
    obtain ⟨h1, h2⟩ := hat (a - p) (by omega)
    rw [scanF_remark h1 (by rw [h2]; exact hc)]
    have hs : spanEnd notNl (x.take (a - p)) 0 = spanEnd notNl x 0 := by
     have := spanEnd_app (p := notNl) (x := x.take (a - p)) (y := x.drop (a - p)) (i := 0) (Nat.zero_le _) (by rw [List.take_append_drop]; simp; omega)
     rw [List.take_append_drop] at this
     exact this
    have hr3 : remark (x.take (a - p)) = remark x := by
     rw [hk.2]
     unfold remark
     rw [hs]
     simp; omega
    rw [hr3, List.drop_take, show a - p - remark x = a - (p + remark x) by omega]
    exact ih.2.2.2
   ·cases ht : tokenR x br sq with
    |bad e' =>
     rw [scanF_bad hne hb hc ht] at h
     injection h with h1 h2
     injection h2 with h2
     injection h2 with h2 h3
     subst h1 h2 h3
     refine ⟨Nat.le_refl _, by omega, tokenR_err ht, ?_⟩
     rw [Nat.sub_self, List.take_zero, scanF_nil]
    |tok k n b q =>
     have hn := tokenR_pos hne ht
     rw [scanF_tok hne hb hc ht] at h
     injection h with h1 h2
     subst h1
     have ih := scanF_fault m (x.drop n) (p + n) b q (scanF (x.drop n) (p + n) b q).1 a e (by simp; omega) (by rw [← h2])
     simp only [List.length_drop] at ih
     refine ⟨by omega, by omega, ih.2.2.1, ?_⟩
     obtain ⟨h3, h4⟩ := hat (a - p) (by omega)
     have ht2 : tokenR (x.take (a - p)) br sq = .tok k n b q := by
      refine tokenR_app (y := x.drop (a - p)) h3 ?_ (by simp; omega)
      rw [List.take_append_drop]; exact ht
     rw [scanF_tok h3 (by rw [h4]; exact hb) (by rw [h4]; exact hc) ht2, List.take_take, List.drop_take, show min n (a - p) = n by omega, show a - p - n = a - (p + n) by omega, ih.2.2.2]
  ·rw [scanF_blank hne hb] at h
   have ih := scanF_fault m _ _ _ _ _ _ _ (by simp; omega) h
   simp only [List.length_drop] at ih
   refine ⟨by omega, by omega, ih.2.2.1, ?_⟩
   obtain ⟨h1, h2⟩ := hat (a - p) (by omega)
   rw [scanF_blank h1 (by rw [h2]; exact hb), List.drop_take, show a - p - 1 = a - (p + 1) by omega]
   exact ih.2.2.2
def remEnd (l : List UInt8) (k : Nat) : Nat := k + remark (l.drop k)
theorem remEnd_out {l : List UInt8} {k : Nat} (h : l.length ≤ k) : remEnd l k = k := by
 rw [remEnd, List.drop_eq_nil_of_le h]; rfl
theorem remEnd_step {l : List UInt8} {k : Nat} (h : k < l.length) (hc : (atB l k).toNat ≠ 10) : remEnd l (k + 1) = remEnd l k := by
 have hn : notNl (atB l k) = true := by simp [notNl, hc]
 have h1 : spanEnd notNl (l.drop k) 0 = spanEnd notNl (l.drop (k + 1)) 0 + 1 := by
  rw [drop_at h]; simp [spanEnd, List.takeWhile_cons, hn]
 unfold remEnd remark
 rw [h1, List.length_drop, List.length_drop]
 omega
theorem remEnd_nl {l : List UInt8} {k : Nat} (h : k < l.length) (hc : (atB l k).toNat = 10) : remEnd l k = k + 1 := by
 have hn : notNl (atB l k) = false := by simp [notNl, hc]
 have h1 : spanEnd notNl (l.drop k) 0 = 0 := by
  rw [drop_at h]; simp [spanEnd, List.takeWhile_cons, hn]
 unfold remEnd remark
 rw [h1, List.length_drop]
 omega
def blankR (l : List UInt8) (br sq : Bool) (rm : Bool) (k : Nat) : List Tok × Option (Nat × Nat) := if rm = true then scanF (l.drop (remEnd l k)) (remEnd l k) br sq else scanF (l.drop k) k br sq
theorem blankR_nl {l : List UInt8} {br sq rm : Bool} {k : Nat} (h : k < l.length) (hc : (atB l k).toNat = 10) : blankR l br sq false (k + 1) = blankR l br sq rm k := by
 have hne : l.drop k ≠ [] := by intro e; have := congrArg List.length e; simp at this; omega
 cases rm
 ·simp only [blankR, Bool.false_eq_true, if_false]
  rw [scanF_blank hne (by rw [atB_drop, Nat.add_zero]; simp [isBl, hc]), List.drop_drop]
 ·simp only [blankR, Bool.false_eq_true, if_false, if_true, remEnd_nl h hc]
theorem blankR_in {l : List UInt8} {br sq : Bool} {k : Nat} (h : k < l.length) (hc : (atB l k).toNat ≠ 10) : blankR l br sq true (k + 1) = blankR l br sq true k := by
 simp only [blankR, if_true, remEnd_step h hc]
theorem blankR_hash {l : List UInt8} {br sq rm : Bool} {k : Nat} (h : k < l.length) (hc : (atB l k).toNat = 35) : blankR l br sq true (k + 1) = blankR l br sq rm k := by
 have hne : l.drop k ≠ [] := by intro e; have := congrArg List.length e; simp at this; omega
 cases rm
 ·simp only [blankR, Bool.false_eq_true, if_false, if_true]
  rw [scanF_remark hne (by rw [atB_drop, Nat.add_zero]; exact hc), List.drop_drop, remEnd_step h (by omega)]
  rfl
 ·exact blankR_in h (by omega)
theorem blankR_bl {l : List UInt8} {br sq : Bool} {k : Nat} (h : k < l.length) (hc : isBl (atB l k) = true) : blankR l br sq false (k + 1) = blankR l br sq false k := by
 have hne : l.drop k ≠ [] := by intro e; have := congrArg List.length e; simp at this; omega
 simp only [blankR, Bool.false_eq_true, if_false]
 rw [scanF_blank hne (by rw [atB_drop, Nat.add_zero]; exact hc), List.drop_drop]
theorem blankR_end {l : List UInt8} {br sq rm : Bool} {k : Nat} (h : l.length ≤ k) : blankR l br sq rm k = scanF (l.drop k) k br sq := by
 cases rm
 ·rfl
 ·simp only [blankR, if_true, remEnd_out h]
theorem lnat_of {w : World} {p : Nat} {s : ByteArray} {at' : Nat} {br sq : Bool} {v : Value} {er : Nat} (h : LZ w p s at' br sq v er) : natAt w p = at' := by
 unfold natAt
 have : w.cell? ⟨p, 1, none⟩ = some (.int .i64 (at' : Int)) := by rw [h.cell]; rfl
 rw [this]; simp
structure LexSt (base : Nat) (w0 : World) (p : Nat) (s : ByteArray) (at' : Nat) (br sq : Bool) (v : Value) (ts : List Tok) (w : World) : Prop where
 z : LZ w p s at' br sq v 0
 own : w.ownsRow base 33 3 v ts.length (toksCells ts)
 below : Below base w0 w
 bp : base ≤ p
theorem LexSt.drewN {base : Nat} {w0 : World} {p : Nat} {s : ByteArray} {at' : Nat} {br sq : Bool} {v : Value} {ts : List Tok} {w : World} (h : LexSt base w0 p s at' br sq v ts w) (n : Nat) : LexSt base w0 p s at' br sq v ts (w.drewN n) :=
 ⟨Blk.drewN h.z n, h.own, Go.below_drewN h.below n, h.bp⟩
theorem LexSt.goto {base : Nat} {w0 : World} {p : Nat} {s : ByteArray} {at' : Nat} {br sq : Bool} {v : Value} {ts : List Tok} {w : World} (h : LexSt base w0 p s at' br sq v ts w) {m : Nat} {y : Int} (hy : y = (m : Int)) : LexSt base w0 p s m br sq v ts (w.setCell ⟨p, 1, none⟩ (.int .i64 y)) := by
 subst hy
 refine ⟨?_, own_setBlk h.own h.z (by decide) _, h.below.setCell (p := ⟨p, 1, none⟩) h.bp _, h.bp⟩
 have := Blk.set_ h.z 1 (.int .i64 (m : Int))
 simpa [LZ] using this
set_option maxRecDepth 100000 in
set_option maxHeartbeats 2000000 in
theorem r11_blank (w : World) (base p : Nat) (s : ByteArray) (at' : Nat) (br sq : Bool) (v : Value) (ts : List Tok) (w0 : World) (hs : s.size ≤ 281474976710656) (hat : at' ≤ s.size) (h : LexSt base w0 p s at' br sq v ts w) :
    Calls Tryz.prog 29 #[.pointer (some ⟨p, 0, none⟩)] w fun e w' => e = .returned (.tuple #[]) ∧
      ∃ k, at' ≤ k ∧ k ≤ s.size ∧ LexSt base w0 p s k br sq v ts w' ∧ scanF (s.data.toList.drop k) k br sq = scanF (s.data.toList.drop at') at' br sq ∧ (∀ hk : k < s.size, isBl s[k] = false ∧ s[k].toNat ≠ 35) := by
  obtain ⟨R, hR⟩ : ∃ R, R = scanF (s.data.toList.drop at') at' br sq := ⟨_, rfl⟩
  have h0 : blankR s.data.toList br sq false at' = R := by rw [hR]; rfl
  rw [← hR]
  have H := Lib.hid h
  have H0 := Lib.hid h0
  clear h h0 hR
  go_enter Tryz.func29, Tryz.ntmps29
  go_wp2_with fail
  go_loopw [2] (fun t wr => ∃ (rm : Bool) (k : Nat), at' ≤ k ∧ k ≤ s.size ∧ t = .bool rm ∧ Hid (LexSt base w0 p s k br sq v ts wr) ∧ Hid (blankR s.data.toList br sq rm k = R)) (fun _ wr => s.size - natAt wr p)
  case atStart => exact ⟨false, at', Nat.le_refl _, hat, rfl, H, H0⟩
  case round =>
    obtain ⟨rm, k, hk1, hk, rfl, hst, hR⟩ := hrel
    clear H H0
    have c0 : wr.cell? ⟨p, 0, none⟩ = some (.string s) := by rw [hst.out.z.cell]; rfl
    have c1 : wr.cell? ⟨p, 1, none⟩ = some (.int .i64 (k : Int)) := by rw [hst.out.z.cell]; rfl
    have hmu : natAt wr p = k := lnat_of hst.out.z
    have HMU := Lib.hid hmu
    clear hmu
    by_cases hlt : k < s.size
    · go_wp2_with fail
      go_quiet (fail)
      have HS2 := Lib.hid (hst.out.drewN nq)
      have a0 : (wr.drewN nq).cell? ⟨p, 0, none⟩ = some (.string s) := by rw [HS2.out.z.cell]; rfl
      have a1 : (wr.drewN nq).cell? ⟨p, 1, none⟩ = some (.int .i64 (k : Int)) := by rw [HS2.out.z.cell]; rfl
      clear c0 c1
      generalize wr.drewN nq = w2 at HS2 a0 a1 ⊢
      go_wp2_with fail
      go_quiet (fail)
      have HS3 := Lib.hid (HS2.out.drewN nq)
      have b0 : (w2.drewN nq).cell? ⟨p, 0, none⟩ = some (.string s) := by rw [HS3.out.z.cell]; rfl
      have b1 : (w2.drewN nq).cell? ⟨p, 1, none⟩ = some (.int .i64 (k : Int)) := by rw [HS3.out.z.cell]; rfl
      have f1 : (w2.drewN nq).frozen? ⟨p, 1, none⟩ = false := HS3.out.z.frozen 1
      clear a0 a1 HS2 hst
      generalize w2.drewN nq = w3 at HS3 b0 b1 f1 ⊢
      have hdl : k < s.data.toList.length := by rw [len_data]; exact hlt
      have hat2 := atB_lt hlt
      have HDL := Lib.hid hdl
      have HAT := Lib.hid hat2
      clear hdl hat2
      cases e10 : ((s[k].toNat : Int) == 10)
      · have h10 : (atB s.data.toList k).toNat ≠ 10 := by rw [HAT.out]; have := neT e10; omega
        cases e35 : ((s[k].toNat : Int) == 35)
        · cases rm
          · have HBL : Hid (isBl s[k] = true → blankR s.data.toList br sq false (k + 1) = R) := Lib.hid (fun hb => (blankR_bl (br := br) (sq := sq) HDL.out (by rw [HAT.out]; exact hb)).trans hR.out)
            have HE := Lib.hid (show scanF (s.data.toList.drop k) k br sq = R from hR.out)
            clear hR h10
            have n10 := neT e10
            have n35 := neT e35
            have hm : natAt (w3.setCell ⟨p, 1, none⟩ (.int .i64 ((k : Int) + 1))) p = k + 1 := lnat_of (HS3.out.goto (m := k + 1) (by omega)).z
            have HM := Lib.hid hm
            clear hm
            go_wp2_with fail
            all_goals try simp only [bne_iff_ne, ne_eq, bne_eq_false_iff_eq] at *
            all_goals first
              | (have hb : isBl s[k] = true := by simp [isBl]; omega
                 exact ⟨⟨false, k + 1, by omega, by omega, rfl, Lib.hid (HS3.out.goto (m := k + 1) (by omega)), Lib.hid (HBL.out hb)⟩, by rw [HM.out, HMU.out]; omega⟩)
              | (have hb : isBl s[k] = false ∧ s[k].toNat ≠ 35 := by simp [isBl]; omega
                 refine bodyPost_ret (results_none rfl _ _ _) rfl ?_
                 exact ⟨rfl, k, hk1, hk, HS3.out, HE.out, fun _ => hb⟩)
          · have HE := Lib.hid ((blankR_in (br := br) (sq := sq) HDL.out h10).trans hR.out)
            clear hR h10
            go_wp2_with fail
            have hm : natAt (w3.setCell ⟨p, 1, none⟩ (.int .i64 ((k : Int) + 1))) p = k + 1 := lnat_of (HS3.out.goto (m := k + 1) (by omega)).z
            go_roundw
            case rel => exact ⟨_, k + 1, by omega, by omega, rfl, Lib.hid (HS3.out.goto (m := k + 1) (by omega)), HE⟩
            case measure => rw [hm, HMU.out]; omega
        · have HE := Lib.hid ((blankR_hash (br := br) (sq := sq) (rm := rm) HDL.out (by rw [HAT.out]; have := eqT e35; omega)).trans hR.out)
          clear hR h10
          go_wp2_with fail
          have hm : natAt (w3.setCell ⟨p, 1, none⟩ (.int .i64 ((k : Int) + 1))) p = k + 1 := lnat_of (HS3.out.goto (m := k + 1) (by omega)).z
          go_roundw
          case rel => exact ⟨_, k + 1, by omega, by omega, rfl, Lib.hid (HS3.out.goto (m := k + 1) (by omega)), HE⟩
          case measure => rw [hm, HMU.out]; omega
      · have HE := Lib.hid ((blankR_nl (br := br) (sq := sq) (rm := rm) HDL.out (by rw [HAT.out]; have := eqT e10; omega)).trans hR.out)
        clear hR
        go_wp2_with fail
        have hm : natAt (w3.setCell ⟨p, 1, none⟩ (.int .i64 ((k : Int) + 1))) p = k + 1 := lnat_of (HS3.out.goto (m := k + 1) (by omega)).z
        go_roundw
        case rel => exact ⟨_, k + 1, by omega, by omega, rfl, Lib.hid (HS3.out.goto (m := k + 1) (by omega)), HE⟩
        case measure => rw [hm, HMU.out]; omega
    · have hke : k = s.size := by omega
      have HE := Lib.hid ((blankR_end (br := br) (sq := sq) (rm := rm) (l := s.data.toList) (k := k) (by rw [len_data]; omega)).symm.trans hR.out)
      clear hR
      go_wp2_with fail
      go_quiet (fail)
      have HS2 := Lib.hid (hst.out.drewN nq)
      clear c0 c1 hst
      generalize wr.drewN nq = w2 at HS2 ⊢
      go_wp2_with fail
      go_end0
      exact ⟨rfl, k, hk1, hk, HS2.out, HE.out, fun h => absurd h (by omega)⟩
def LexPost (base : Nat) (w0 : World) (p : Nat) (s : ByteArray) (at' : Nat) (ts : List Tok) (r : TokR) (e : Ending) (w' : World) : Prop :=
 e = .returned (.tuple #[]) ∧ match r with
  | .tok k n b q => ∃ v', LexSt base w0 p s (at' + n) b q v' (ts ++ [⟨k, (s.data.toList.drop at').take n, at'⟩]) w'
  | .bad er => ∃ br sq v', LZ w' p s at' br sq v' er ∧ Below base w0 w'
theorem r11_at' (s : ByteArray) (x : Int) (i : Nat) (hx : x = (i : Int)) (c : UInt8) (hc : atB s.data.toList i = c) (w : World) (hs : s.size ≤ maxLen) :
  Calls Tryz.prog 33 #[.string s, .int .i64 x] w fun e w' => e = .returned (.int .u8 (c.toNat : Int)) ∧ w = w' := by
 subst hx hc
 exact r11_at s i w hs
theorem r11_letter' (c : UInt8) (b : Bool) (hb : letter c = b) (w : World) :
  Calls Tryz.prog 30 #[.int .u8 (c.toNat : Int)] w fun e w' => e = .returned (.bool b) ∧ w = w' := by
 subst hb; exact r11_letter c w
theorem r11_digit' (c : UInt8) (b : Bool) (hb : digit c = b) (w : World) :
  Calls Tryz.prog 32 #[.int .u8 (c.toNat : Int)] w fun e w' => e = .returned (.bool b) ∧ w = w' := by
 subst hb; exact r11_digit c w
theorem r11_take' (w : World) (base p : Nat) (s : ByteArray) (at' k n : Nat) (x y : Int) (hx : x = (k : Int)) (hy : y = (n : Int)) (br sq : Bool) (v : Value) (ts : List Tok) (w0 : World) (hs : s.size ≤ 281474976710656) (hn : at' + n ≤ s.size) (hk : k ≤ 6)
  (h : LexSt base w0 p s at' br sq v ts w) (hlen : ts.length ≤ 1099511627776) :
  Calls Tryz.prog 55 #[.pointer (some ⟨p, 0, none⟩), .int .i64 x, .int .i64 y] w (LexPost base w0 p s at' ts (.tok k n br sq)) := by
 refine (r11_take w base p s at' k n x y hx hy br sq v ts hs hn hk h.z h.own hlen h.bp).mono ?_
 rintro e w' ⟨rfl, v', hz, ho, hb⟩
 exact ⟨rfl, v', hz, ho, h.below.trans hb, h.bp⟩
theorem spanEnd_drop (p : UInt8 → Bool) (l : List UInt8) (i : Nat) : spanEnd p (l.drop i) 0 = spanEnd p l i - i := by
 unfold spanEnd; rw [List.drop_zero]; omega
theorem name_tok {l : List UInt8} {br sq col : Bool} (hcol : col = (!br && !sq)) (h : letter (atB l 0) = true ∨ ((atB l 0).toNat = 58 ∧ col = true)) :
    tokenR l br sq = .tok (nameTok br (l.take (spanEnd (nameCh col) l 0))) (spanEnd (nameCh col) l 0) br sq := by
  subst hcol
  cases hl : letter (atB l 0)
  · have h58 : (atB l 0).toNat = 58 ∧ (!br && !sq) = true := by rcases h with h | h; · rw [hl] at h; cases h
                                                                · exact h
    rw [tokenR, hl, if_neg (by simp), if_pos h58, h58.2]
    have hne : l ≠ [] := by rintro rfl; exact absurd h58.1 (by decide)
    have hcons : l = atB l 0 :: l.drop 1 := atB_cons hne
    have hn : nameCh true (atB l 0) = true := by simp [nameCh, h58.1]
    have e1 : spanEnd (nameCh true) l 0 = spanEnd (nameCh true) l 1 := by
      conv => lhs; rw [hcons]
      conv => rhs; rw [hcons]
      simp [spanEnd, List.takeWhile_cons, hn]; omega
    rw [e1]
    have hpos : 1 ≤ spanEnd (nameCh true) l 1 := spanEnd_ge _ l 1
    have hc : (l.take (spanEnd (nameCh true) l 1)).contains 58 = true := by
      obtain ⟨m, hm⟩ : ∃ m, spanEnd (nameCh true) l 1 = m + 1 := ⟨spanEnd (nameCh true) l 1 - 1, by omega⟩
      rw [hm]
      conv => lhs; rw [hcons]
      have : atB l 0 = 58 := (u8_eq (n := 58) (by omega)).2 h58.1
      rw [List.take_succ_cons, this]; simp
    rw [nameTok, if_pos hc]
  · rw [tokenR, hl, if_pos rfl]
theorem nameTok_long {br : Bool} {t : List UInt8} (h : t.contains 58 = false) (h3 : t.length ≠ 3) : nameTok br t = 1 := by
 have hi : infnan t = false := by
  rw [Bool.eq_false_iff]
  intro hi
  simp only [infnan, Bool.or_eq_true, beq_iff_eq] at hi
  rcases hi with hi | hi <;> (have := congrArg List.length hi; simp at this; omega)
 rw [nameTok, h, if_neg (by simp), hi, Bool.and_false, if_neg (by simp)]
theorem nameTok_three {br : Bool} {t : List UInt8} (h : t.contains 58 = false) (h3 : t.length = 3) : nameTok br t = if (!br && ((t.map low == [105, 110, 102]) || (t.map low == [110, 97, 110]))) = true then 3 else 1 := by
 have hi : infnan t = ((t.map low == [105, 110, 102]) || (t.map low == [110, 97, 110])) := by
  rw [infnan, List.take_of_length_le (by omega)]
 rw [nameTok, h, if_neg (by simp), hi]
end Go.Proofs.YtpkeonafcldkhaaGreatDoor
