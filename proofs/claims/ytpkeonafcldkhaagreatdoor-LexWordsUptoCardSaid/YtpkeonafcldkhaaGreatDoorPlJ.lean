import Derived.Test.YtpkeonafcldkhaaGreatDoorPlI
/- Plain words of lex: a token in a shorter text, and ahead of a blank. -/
set_option linter.unusedVariables false
set_option linter.unusedSimpArgs false
namespace Go.Proofs.YtpkeonafcldkhaaGreatDoor
open Go.RowKit

theorem litGo_ext {q : UInt8} {y : List UInt8} : ∀ {x : List UInt8} {n : Nat}, litGo q x = some n → litGo q (x ++ y) = some n
  | [], n, h => by simp [litGo] at h
  | [c], n, h => by
    simp only [litGo] at h
    split at h
    · rename_i hc
      subst hc
      rw [List.singleton_append, litGo_q]; exact h
    · cases h
  | c :: d :: r, n, h => by
    simp only [List.cons_append, litGo] at h ⊢
    split
    · rename_i hc; rw [if_pos hc] at h; exact h
    · rename_i hc
      rw [if_neg hc] at h
      split
      · rename_i h1
        rw [if_pos h1] at h
        obtain ⟨m, hm, rfl⟩ := Option.map_eq_some_iff.1 h
        have := litGo_ext (y := y) hm
        rw [List.cons_append] at this
        rw [this]; rfl
      · rename_i h1
        rw [if_neg h1] at h
        split
        · rename_i h2; rw [if_pos h2] at h; cases h
        · rename_i h2
          rw [if_neg h2] at h
          split
          · rename_i h3
            rw [if_pos h3] at h
            split
            · rename_i h4; rw [if_pos h4] at h; cases h
            · rename_i h4
              rw [if_neg h4] at h
              obtain ⟨m, hm, rfl⟩ := Option.map_eq_some_iff.1 h
              rw [litGo_ext (y := y) hm]; rfl
          · rename_i h3
            rw [if_neg h3] at h
            obtain ⟨m, hm, rfl⟩ := Option.map_eq_some_iff.1 h
            have := litGo_ext (y := y) hm
            rw [List.cons_append] at this
            rw [this]; rfl
theorem litGo_app {q : UInt8} {y : List UInt8} : ∀ {x : List UInt8} {n : Nat}, litGo q (x ++ y) = some n → n ≤ x.length → litGo q x = some n
  | [], n, h, hn => by have := litGo_le _ _ _ h; simp at hn; omega
  | [c], n, h, hn => by
    have h1 := (litGo_le _ _ _ h).1
    simp only [List.length_singleton] at hn
    cases y with
    | nil => simpa using h
    | cons d r =>
      simp only [List.singleton_append, litGo] at h
      by_cases hc : c = q
      · subst hc; rw [litGo_q, show n = 1 by omega]
      · exfalso
        rw [if_neg hc] at h
        have two : ∀ {o : Option Nat} {a : Nat}, 1 ≤ a → (∀ m, o = some m → 1 ≤ m) → o.map (· + a) = some n → False := by
          intro o a ha ho h
          obtain ⟨m, hm, rfl⟩ := Option.map_eq_some_iff.1 h
          have := ho m hm
          omega
        repeat' split at h
        all_goals first
          | (cases h; done)
          | exact two (by omega) (fun m hm => (litGo_le _ _ _ hm).1) h
  | c :: d :: r, n, h, hn => by
    simp only [List.length_cons] at hn
    simp only [List.cons_append, litGo] at h ⊢
    split
    · rename_i hc; rw [if_pos hc] at h; exact h
    · rename_i hc
      rw [if_neg hc] at h
      split
      · rename_i h1
        rw [if_pos h1] at h
        obtain ⟨m, hm, rfl⟩ := Option.map_eq_some_iff.1 h
        rw [litGo_app (x := d :: r) (y := y) hm (by simp; omega)]; rfl
      · rename_i h1
        rw [if_neg h1] at h
        split
        · rename_i h2; rw [if_pos h2] at h; cases h
        · rename_i h2
          rw [if_neg h2] at h
          split
          · rename_i h3
            rw [if_pos h3] at h
            split
            · rename_i h4; rw [if_pos h4] at h; cases h
            · rename_i h4
              rw [if_neg h4] at h
              obtain ⟨m, hm, rfl⟩ := Option.map_eq_some_iff.1 h
              rw [litGo_app (x := r) (y := y) hm (by omega)]; rfl
          · rename_i h3
            rw [if_neg h3] at h
            obtain ⟨m, hm, rfl⟩ := Option.map_eq_some_iff.1 h
            rw [litGo_app (x := d :: r) (y := y) hm (by simp; omega)]; rfl
theorem litEnd_ext {x y : List UInt8} {n : Nat} (hx : x ≠ []) (h : litEnd x 0 = some n) : litEnd (x ++ y) 0 = some n := by
  have hl := nil_len hx
  unfold litEnd at h ⊢
  rw [atB_app hl]
  split at h
  · rename_i h1
    rw [if_pos ⟨by simp; omega, h1.2⟩]
    obtain ⟨m, hm, rfl⟩ := Option.map_eq_some_iff.1 h
    rw [List.drop_append_of_le_length (by omega), litGo_ext hm]; rfl
  · cases h
theorem litEnd_app {x y : List UInt8} {n : Nat} (hx : x ≠ []) (h : litEnd (x ++ y) 0 = some n) (hn : n ≤ x.length) : litEnd x 0 = some n := by
  have hl := nil_len hx
  unfold litEnd at h ⊢
  rw [atB_app hl] at h
  split at h
  · rename_i h1
    rw [if_pos ⟨by omega, h1.2⟩]
    obtain ⟨m, hm, rfl⟩ := Option.map_eq_some_iff.1 h
    rw [List.drop_append_of_le_length (by omega)] at hm
    rw [litGo_app hm (by simp; omega)]; rfl
  · cases h
theorem numPrefix_dot {l : List UInt8} (h1 : (atB l 0).toNat = 46) (h2 : 1 < l.length) (h3 : digit (atB l 1) = true) : 2 ≤ numPrefix l := by
  have hh : hexHead l = false := by simp [hexHead, h1]
  have h0 : spanEnd digit l 0 = 0 := spanEnd_self (by omega) (by simp [digit, h1])
  have h4 : decEnd l = spanEnd digit l 1 := by rw [decEnd, h0, if_neg (by omega), if_pos ⟨rfl, h2, h1, h3⟩]
  have h5 : 2 ≤ spanEnd digit l 1 := by
    have := spanEnd_step (p := digit) (l := l) (i := 1) h2 (by
      rw [atB, List.getD_eq_getElem?_getD, List.getElem?_eq_getElem h2] at h3
      exact h3)
    rw [← this]
    exact spanEnd_ge digit _ 2
  rw [numPrefix, hh, h4, if_neg (by simp), if_neg (by omega)]
  have := expEnd_le l (spanEnd digit l 1) (spanEnd_le digit l 1 (by omega))
  omega
theorem numLen_ge (l : List UInt8) : numPrefix l ≤ numLen l ∧ spanPrefix l ≤ numLen l := by
  unfold numLen; split <;> omega
theorem numberR_app {x y : List UInt8} {br sq b q : Bool} {k n : Nat} (h : numberR (x ++ y) br sq = .tok k n b q) (hn : n ≤ x.length) : numberR x br sq = .tok k n b q := by
  have hkn : n = numLen (x ++ y) := by
    unfold numberR at h
    repeat' split at h
    all_goals first
      | (cases h; done)
      | (injection h with _ h2; exact h2.symm)
  have hge := numLen_ge (x ++ y)
  have e1 := numPrefix_app (x := x) (y := y) (by omega)
  have e2 := spanPrefix_app (x := x) (y := y) (by omega)
  have e3 : numLen x = numLen (x ++ y) := by unfold numLen; rw [e1, e2]
  have e4 : numKind x = numKind (x ++ y) := by unfold numKind; rw [e1, e2]
  have ht : x.take (numLen (x ++ y)) = (x ++ y).take (numLen (x ++ y)) := (List.take_append_of_le_length (by omega)).symm
  have e5 : numBad x = numBad (x ++ y) := by unfold numBad; rw [e1, e2, e3, ht]
  have e6 : numFault (x ++ y) = false → numFault x = false := by
    unfold numFault
    rw [e3]
    by_cases hlt : numLen (x ++ y) < x.length
    · rw [atB_app hlt, decide_eq_true hlt, decide_eq_true (by simp; omega)]; exact id
    · rw [decide_eq_false hlt]; intro _; rfl
  unfold numberR at h ⊢
  rw [e3, e4, e5]
  cases hf : numFault (x ++ y)
  · rw [hf] at h
    rw [e6 hf]
    exact h
  · rw [hf] at h
    cases h
theorem op2_app {x y : List UInt8} (h : 1 < x.length) : op2 (x ++ y) = op2 x := by
  unfold op2
  rw [List.take_append_of_le_length (by omega), decide_eq_true h, decide_eq_true (by simp; omega)]
theorem opR_n {l : List UInt8} {br sq b q : Bool} {k n : Nat} (h : op2 l = false) (ht : opR l br sq = .tok k n b q) : n = 1 := by
  unfold opR at ht
  rw [h] at ht
  simp only [Bool.false_eq_true, if_false] at ht
  repeat' split at ht
  all_goals first
    | (cases ht; done)
    | (injection ht with _ h2; exact h2.symm)
theorem opR_app {x y : List UInt8} {br sq b q : Bool} {k n : Nat} (hx : x ≠ []) (h : opR (x ++ y) br sq = .tok k n b q) (hn : n ≤ x.length) : opR x br sq = .tok k n b q := by
  have hl := nil_len hx
  by_cases h1 : 1 < x.length
  · unfold opR at h ⊢
    rw [op2_app h1, atB_app hl] at h
    exact h
  · have h2 : op2 x = false := by simp [op2]; omega
    cases h3 : op2 (x ++ y)
    · unfold opR at h ⊢
      rw [h3, atB_app hl] at h
      rw [h2]
      exact h
    · rw [opR, h3, if_pos rfl] at h
      injection h with _ h4
      omega
/-- A token of a longer text that lies in the shorter one is its token too. -/
theorem tokenR_app {x y : List UInt8} {br sq b q : Bool} {k n : Nat} (hx : x ≠ []) (h : tokenR (x ++ y) br sq = .tok k n b q) (hn : n ≤ x.length) : tokenR x br sq = .tok k n b q := by
  have hl := nil_len hx
  unfold tokenR at h ⊢
  rw [atB_app hl] at h
  split at h
  · rename_i h1
    rw [if_pos h1]
    injection h with a1 a2 a3 a4
    rw [a2] at a1
    rw [spanEnd_app (y := y) (Nat.zero_le _) (by omega), a2, ← a1, List.take_append_of_le_length hn, a3, a4]
  · rename_i h1
    rw [if_neg h1]
    split at h
    · rename_i h2
      rw [if_pos h2]
      injection h with a1 a2 a3 a4
      rw [spanEnd_app (y := y) (by omega) (by omega), a1, a2, a3, a4]
    · rename_i h2
      rw [if_neg h2]
      split at h
      · rename_i h3
        have hkn : numPrefix (x ++ y) ≤ n := by
          have hge := numLen_ge (x ++ y)
          have : n = numLen (x ++ y) := by
            unfold numberR at h
            repeat' split at h
            all_goals first
              | (cases h; done)
              | (injection h with _ h2; exact h2.symm)
          omega
        rw [if_pos]
        · exact numberR_app h hn
        · rcases h3 with h3 | ⟨h3, h4, h5⟩
          · exact .inl h3
          · have h6 := numPrefix_dot (by rw [atB_app hl]; exact h3) h4 h5
            exact .inr ⟨h3, by omega, by rw [atB_app (by omega)] at h5; exact h5⟩
      · rename_i h3
        rw [if_neg]
        · split at h
          · rename_i h4
            rw [if_pos h4]
            unfold strR at h ⊢
            split at h
            · cases h
            · rename_i m hm
              split at h
              · rename_i h5
                injection h with a1 a2 a3 a4
                subst a2
                rw [litEnd_app hx hm hn]
                simp only
                rw [List.take_append_of_le_length hn] at h5
                rw [if_pos h5, a1, a3, a4]
              · cases h
          · rename_i h4
            rw [if_neg h4]
            exact opR_app hx h hn
        · rintro (h4 | ⟨h4, h5, h6⟩)
          · exact h3 (.inl h4)
          · exact h3 (.inr ⟨h4, by simp; omega, by rw [atB_app h5]; exact h6⟩)
/-- A blank, a line's end. -/
def sepB (c : UInt8) : Prop := c = 32 ∨ c = 10
theorem atB_sep {x y : List UInt8} {c : UInt8} : atB (x ++ c :: y) x.length = c := by
  simp [atB, List.getD_eq_getElem?_getD]
theorem sep_facts {c : UInt8} (h : sepB c) : digit c = false ∧ letter c = false ∧ hexd c = false ∧ isX c = false ∧ isPM c = false ∧ isE c = false ∧ c.toNat ≠ 46 ∧ uOf c = 7 ∧ c ≠ 115 ∧ c.toNat ≠ 58 ∧ c ≠ 61 ∧ c ≠ 126 := by
  rcases h with rfl | rfl <;> decide
theorem hexHead_sep {x y : List UInt8} {c : UInt8} (h : sepB c) : hexHead (x ++ c :: y) = hexHead x := by
  have f := sep_facts h
  by_cases h2 : 2 < x.length
  · exact hexHead_app h2
  · have hn : hexHead x = false := by simp [hexHead]; omega
    rw [hn]
    by_cases h3 : x.length = 2
    · have : atB (x ++ c :: y) 2 = c := by rw [← h3]; exact atB_sep
      unfold hexHead
      rw [this, f.2.2.1, Bool.and_false]
    · by_cases h4 : x.length = 1
      · have : atB (x ++ c :: y) 1 = c := by rw [← h4]; exact atB_sep
        unfold hexHead
        rw [this, f.2.2.2.1, Bool.and_false, Bool.false_and]
      · have h5 : x.length = 0 := by omega
        have : atB (x ++ c :: y) 0 = c := by rw [← h5]; exact atB_sep
        have hc : (c.toNat == 48) = false := by rcases h with rfl | rfl <;> decide
        unfold hexHead
        rw [this, hc, Bool.and_false, Bool.false_and, Bool.false_and]
theorem expEnd_sep {x y : List UInt8} {c : UInt8} {i : Nat} (h : sepB c) (hi : i ≤ x.length) : expEnd (x ++ c :: y) i = expEnd x i := by
  have f := sep_facts h
  by_cases hx : x.length = i
  · have : atB (x ++ c :: y) i = c := by rw [← hx]; exact atB_sep
    rw [expEnd, this, f.2.2.2.2.2.1, if_pos (.inr rfl), expEnd, if_pos (.inl (by omega))]
  · have hlt : i < x.length := by omega
    have hj : expAt (x ++ c :: y) i = expAt x i := by
      unfold expAt
      by_cases h1 : i + 1 < x.length
      · rw [atB_app h1]
        by_cases hp : isPM (atB x (i + 1)) = true
        · rw [if_pos ⟨by simp; omega, hp⟩, if_pos ⟨h1, hp⟩]
        · rw [if_neg (by intro h; exact hp h.2), if_neg (by intro h; exact hp h.2)]
      · have : atB (x ++ c :: y) (i + 1) = c := by rw [show i + 1 = x.length by omega]; exact atB_sep
        rw [this, f.2.2.2.2.1, if_neg (by simp), if_neg (by intro h; exact h1 h.1)]
    have hb := expAt_bound x i hlt
    unfold expEnd
    rw [hj, atB_app hlt, spanEnd_sep hb.2 f.1]
    cases isE (atB x i)
    · rw [if_pos (.inr rfl), if_pos (.inr rfl)]
    · have n1 : ¬ ((x ++ c :: y).length ≤ i ∨ true = false) := by simp; omega
      have n2 : ¬ (x.length ≤ i ∨ true = false) := by simp; omega
      rw [if_neg n1, if_neg n2]
theorem decEnd_sep {x y : List UInt8} {c : UInt8} (h : sepB c) : decEnd (x ++ c :: y) = decEnd x := by
  have f := sep_facts h
  unfold decEnd
  rw [spanEnd_sep (Nat.zero_le _) f.1]
  have hle := spanEnd_le digit x 0 (Nat.zero_le _)
  generalize spanEnd digit x 0 = k at *
  by_cases c1 : k < x.length ∧ (atB x k).toNat = 46 ∧ 0 < k
  · rw [if_pos c1, if_pos ⟨by simp; omega, by rw [atB_app c1.1]; exact c1.2.1, c1.2.2⟩, spanEnd_sep (by omega) f.1]
  · rw [if_neg c1, if_neg]
    · by_cases c2 : k = 0 ∧ 1 < x.length ∧ (atB x 0).toNat = 46 ∧ digit (atB x 1) = true
      · rw [if_pos c2, if_pos ⟨c2.1, by simp; omega, by rw [atB_app (by omega)]; exact c2.2.2.1, by rw [atB_app c2.2.1]; exact c2.2.2.2⟩, spanEnd_sep (by omega) f.1]
      · rw [if_neg c2, if_neg]
        rintro ⟨a1, a2, a3, a4⟩
        by_cases h1 : 1 < x.length
        · exact c2 ⟨a1, h1, by rw [atB_app (by omega)] at a3; exact a3, by rw [atB_app h1] at a4; exact a4⟩
        · by_cases h2 : x.length = 1
          · have : atB (x ++ c :: y) 1 = c := by rw [← h2]; exact atB_sep
            rw [this, f.1] at a4; cases a4
          · have : atB (x ++ c :: y) 0 = c := by rw [show 0 = x.length by omega]; exact atB_sep
            rw [this] at a3; exact f.2.2.2.2.2.2.1 a3
    · rintro ⟨a1, a2, a3⟩
      by_cases h1 : k < x.length
      · exact c1 ⟨h1, by rw [atB_app h1] at a2; exact a2, a3⟩
      · have : atB (x ++ c :: y) k = c := by rw [show k = x.length by omega]; exact atB_sep
        rw [this] at a2; exact f.2.2.2.2.2.2.1 a2
theorem numPrefix_sep {x y : List UInt8} {c : UInt8} (h : sepB c) : numPrefix (x ++ c :: y) = numPrefix x := by
  have f := sep_facts h
  unfold numPrefix
  rw [hexHead_sep h, decEnd_sep h, expEnd_sep h (decEnd_le x)]
  cases hh : hexHead x
  · rfl
  · simp only [if_true]
    simp [hexHead] at hh
    exact spanEnd_sep (by omega) f.2.2.1
theorem unitAt_sep {x y : List UInt8} {c : UInt8} {i : Nat} (h : sepB c) (hi : i ≤ x.length) : unitAt (x ++ c :: y) i = unitAt x i := by
  have f := sep_facts h
  by_cases hx : x.length = i
  · have : atB (x ++ c :: y) i = c := by rw [← hx]; exact atB_sep
    have n1 : ¬ (x ++ c :: y).length ≤ i := by simp; omega
    rw [unitAt_end (l := x) (by omega), unitAt, if_neg n1, this, f.2.2.2.2.2.2.2.1, if_neg, if_pos rfl]
    rintro ⟨a, _⟩
    rw [a] at f
    exact absurd f.2.2.2.2.2.2.2.1 (by decide)
  · have hlt : i < x.length := by omega
    have n1 : ¬ (x ++ c :: y).length ≤ i := by simp; omega
    have n2 : ¬ x.length ≤ i := by omega
    unfold unitAt
    rw [if_neg n1, if_neg n2, atB_app hlt]
    by_cases h1 : i + 1 < x.length
    · rw [atB_app h1]
      by_cases hm : atB x i = 109 ∧ i + 1 < x.length ∧ atB x (i + 1) = 115
      · rw [if_pos hm, if_pos ⟨hm.1, by simp; omega, hm.2.2⟩]
      · rw [if_neg hm, if_neg (by rintro ⟨a, b, d⟩; exact hm ⟨a, h1, d⟩)]
    · have : atB (x ++ c :: y) (i + 1) = c := by rw [show i + 1 = x.length by omega]; exact atB_sep
      have n3 : ¬ (atB x i = 109 ∧ i + 1 < (x ++ c :: y).length ∧ c = 115) := by rintro ⟨_, _, a⟩; exact f.2.2.2.2.2.2.2.2.1 a
      have n4 : ¬ (atB x i = 109 ∧ i + 1 < x.length ∧ atB x (i + 1) = 115) := by rintro ⟨_, a, _⟩; exact h1 a
      rw [this, if_neg n3, if_neg n4]
theorem mGo_sep {x y : List UInt8} {c : UInt8} (h : sepB c) : ∀ (f fin next sum : Nat), fin ≤ x.length → mGo f (x ++ c :: y) fin next sum = mGo f x fin next sum
  | 0, _, _, _, _ => rfl
  | f + 1, fin, next, sum, hf => by
    have ff := sep_facts h
    have hle := spanEnd_le digit x fin hf
    have hge := spanEnd_ge digit x fin
    rw [mGo, mGo, spanEnd_sep hf ff.1, unitAt_sep h hle, take_drop_app (by omega), mGo_sep h f _ _ _ ((unitAt_ge x _).2.1 hle)]
theorem spanPrefix_sep {x y : List UInt8} {c : UInt8} (h : sepB c) : spanPrefix (x ++ c :: y) = spanPrefix x := by
  unfold spanPrefix measure
  rw [mGo_sep h 8 0 0 0 (Nat.zero_le _)]
theorem numberR_sep {x y : List UInt8} {c : UInt8} {br sq b q : Bool} {k n : Nat} (hc : sepB c) (h : numberR x br sq = .tok k n b q) : numberR (x ++ c :: y) br sq = .tok k n b q := by
  have f := sep_facts hc
  have hle := numLen_le x
  have e1 := numPrefix_sep (x := x) (y := y) hc
  have e2 := spanPrefix_sep (x := x) (y := y) hc
  have e3 : numLen (x ++ c :: y) = numLen x := by unfold numLen; rw [e1, e2]
  have e4 : numKind (x ++ c :: y) = numKind x := by unfold numKind; rw [e1, e2]
  have ht : (x ++ c :: y).take (numLen x) = x.take (numLen x) := List.take_append_of_le_length (by omega)
  have e5 : numBad (x ++ c :: y) = numBad x := by unfold numBad; rw [e1, e2, e3, ht]
  have e6 : numFault (x ++ c :: y) = numFault x := by
    unfold numFault
    rw [e3]
    by_cases hlt : numLen x < x.length
    · rw [atB_app hlt, decide_eq_true hlt, decide_eq_true (by simp; omega)]
    · have : atB (x ++ c :: y) (numLen x) = c := by rw [show numLen x = x.length by omega]; exact atB_sep
      have h46 : (c.toNat == 46) = false := by simpa using f.2.2.2.2.2.2.1
      rw [decide_eq_false hlt, this, f.1, f.2.1, h46]; simp
  unfold numberR at h ⊢
  rw [e3, e4, e5, e6]
  exact h
theorem opR_sep {x y : List UInt8} {c : UInt8} {br sq : Bool} (hx : x ≠ []) (hc : sepB c) : opR (x ++ c :: y) br sq = opR x br sq := by
  have f := sep_facts hc
  have hl := nil_len hx
  have h2 : op2 (x ++ c :: y) = op2 x := by
    by_cases h1 : 1 < x.length
    · exact op2_app h1
    · have h2 : op2 x = false := by simp [op2]; omega
      rw [h2]
      cases x with
      | nil => exact absurd rfl hx
      | cons d r =>
        cases r with
        | cons _ _ => simp at h1
        | nil =>
          have : ((d :: [] : List UInt8) ++ c :: y).take 2 = [d, c] := rfl
          unfold op2
          rw [this]
          have hno : ops2.contains [d, c] = false := by
            simp only [ops2, List.contains_eq_mem, decide_eq_false_iff_not, List.mem_cons, List.not_mem_nil, or_false, List.cons.injEq, and_true]
            rintro (h | h | h | h | h | h)
            all_goals first
              | exact f.2.2.2.2.2.2.2.2.2.2.1 h.2
              | exact f.2.2.2.2.2.2.2.2.2.2.2 h.2
          rw [hno, Bool.and_false]
  unfold opR
  rw [h2, atB_app hl]
/-- A token ahead of a blank or a line's end is what it is alone. -/
theorem tokenR_sep {x y : List UInt8} {c : UInt8} {br sq b q : Bool} {k n : Nat} (hc : sepB c) (hx : x ≠ []) (h : tokenR x br sq = .tok k n b q) : tokenR (x ++ c :: y) br sq = .tok k n b q := by
  have f := sep_facts hc
  have hl := nil_len hx
  have hn := (tokenR_pos hx h).2
  have hnc : ∀ col, nameCh col c = false := by
    intro col
    have h58 : (c.toNat == 58) = false := by simpa using f.2.2.2.2.2.2.2.2.2.1
    simp [nameCh, f.1, f.2.1, h58]
  unfold tokenR at h ⊢
  rw [atB_app hl]
  split at h
  · rename_i h1
    rw [if_pos h1]
    injection h with a1 a2 a3 a4
    rw [a2] at a1
    rw [spanEnd_sep (Nat.zero_le _) (hnc _), a2, List.take_append_of_le_length hn, a1, a3, a4]
  · rename_i h1
    rw [if_neg h1]
    split at h
    · rename_i h2
      rw [if_pos h2]
      injection h with a1 a2 a3 a4
      rw [spanEnd_sep (by omega) (hnc _), a1, a2, a3, a4]
    · rename_i h2
      rw [if_neg h2]
      split at h
      · rename_i h3
        rw [if_pos]
        · exact numberR_sep hc h
        · rcases h3 with h3 | ⟨h3, h4, h5⟩
          · exact .inl h3
          · exact .inr ⟨h3, by simp; omega, by rw [atB_app h4]; exact h5⟩
      · rename_i h3
        rw [if_neg]
        · split at h
          · rename_i h4
            rw [if_pos h4]
            unfold strR at h ⊢
            split at h
            · cases h
            · rename_i m hm
              split at h
              · rename_i h5
                injection h with a1 a2 a3 a4
                subst a2
                rw [litEnd_ext hx hm]
                simp only
                rw [List.take_append_of_le_length hn, if_pos h5, a1, a3, a4]
              · cases h
          · rename_i h4
            rw [if_neg h4, opR_sep hx hc]
            exact h
        · rintro (h4 | ⟨h4, h5, h6⟩)
          · exact h3 (.inl h4)
          · by_cases h7 : 1 < x.length
            · exact h3 (.inr ⟨h4, h7, by rw [atB_app h7] at h6; exact h6⟩)
            · have : atB (x ++ c :: y) 1 = c := by rw [show 1 = x.length by omega]; exact atB_sep
              rw [this, f.1] at h6; cases h6
end Go.Proofs.YtpkeonafcldkhaaGreatDoor
