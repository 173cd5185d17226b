import Derived.Test.YtpkeonafcldkhaaGreatDoorPlJ
/- Plain laws of lex: moved texts, two texts, texts cut off at a fault, tokens set apart. -/
set_option linter.unusedVariables false
set_option linter.unusedSimpArgs false
namespace Go.Proofs.YtpkeonafcldkhaaGreatDoor
open Go.RowKit

def Tok.move (d : Nat) (t : Tok) : Tok := ⟨t.kind, t.text, t.pos + d⟩
/-- The flags behind a token. -/
def flagStep (f : Bool × Bool) (t : Tok) : Bool × Bool :=
  if t.kind = 6 then (if t.text = [123] then (true, f.2) else if t.text = [125] then (false, f.2) else if t.text = [91] then (f.1, true) else if t.text = [93] then (f.1, false) else f) else f
def flagsOf (f : Bool × Bool) (ts : List Tok) : Bool × Bool := ts.foldl flagStep f
theorem flagStep_no {f : Bool × Bool} {t : Tok} (h : t.kind ≠ 6) : flagStep f t = f := by rw [flagStep, if_neg h]
theorem take_one {l : List UInt8} (h : l ≠ []) : l.take 1 = [atB l 0] := by
  cases l with
  | nil => exact absurd rfl h
  | cons c r => rfl
theorem nameTok_ne (br : Bool) (t : List UInt8) : nameTok br t ≠ 6 := by
  unfold nameTok
  repeat' split
  all_goals omega
theorem tokenR_flags {l : List UInt8} {br sq b q : Bool} {k n : Nat} (p : Nat) (h : l ≠ []) (ht : tokenR l br sq = .tok k n b q) : (b, q) = flagStep (br, sq) ⟨k, l.take n, p⟩ := by
  unfold tokenR at ht
  split at ht
  · injection ht with a1 a2 a3 a4
    subst a3 a4
    rw [flagStep_no]
    rw [← a1]; exact nameTok_ne _ _
  · split at ht
    · injection ht with a1 a2 a3 a4
      subst a3 a4
      rw [flagStep_no]
      show k ≠ 6
      omega
    · split at ht
      · unfold numberR at ht
        repeat' split at ht
        all_goals first
          | (cases ht; done)
          | skip
        injection ht with a1 a2 a3 a4
        subst a3 a4
        rw [flagStep_no]
        show k ≠ 6
        rw [← a1]; unfold numKind; split <;> omega
      · split at ht
        · unfold strR at ht
          repeat' split at ht
          all_goals first
            | (cases ht; done)
            | skip
          injection ht with a1 a2 a3 a4
          subst a3 a4
          rw [flagStep_no]
          show k ≠ 6
          omega
        · unfold opR at ht
          split at ht
          · rename_i h2
            injection ht with a1 a2 a3 a4
            subst a1 a2 a3 a4
            have hlen : (l.take 2).length = 2 := by
              simp [op2] at h2
              simp; omega
            have hne : ∀ c : UInt8, l.take 2 ≠ [c] := by
              intro c hc
              rw [hc] at hlen
              simp at hlen
            simp only [flagStep, hne, if_false, ite_self]
          · have hu : ∀ n, n < 256 → (atB l 0).toNat = n → l.take 1 = [UInt8.ofNat n] := by
              intro n hn hc
              rw [take_one h, (u8_eq hn).2 hc]
            split at ht
            · rename_i h3
              injection ht with a1 a2 a3 a4
              subst a1 a2 a3 a4
              rw [hu 123 (by omega) h3]; rfl
            · split at ht
              · rename_i h3
                injection ht with a1 a2 a3 a4
                subst a1 a2 a3 a4
                rw [hu 125 (by omega) h3]; rfl
              · split at ht
                · rename_i h3
                  injection ht with a1 a2 a3 a4
                  subst a1 a2 a3 a4
                  rw [hu 91 (by omega) h3]; rfl
                · split at ht
                  · rename_i h3
                    injection ht with a1 a2 a3 a4
                    subst a1 a2 a3 a4
                    rw [hu 93 (by omega) h3]; rfl
                  · rename_i g1 g2 g3 g4
                    split at ht
                    · injection ht with a1 a2 a3 a4
                      subst a1 a2 a3 a4
                      have hn : ∀ n, n < 256 → (atB l 0).toNat ≠ n → l.take 1 ≠ [UInt8.ofNat n] := by
                        intro n hn hc hh
                        rw [take_one h] at hh
                        injection hh with hh
                        exact hc ((u8_eq hn).1 hh)
                      have n1 : l.take 1 ≠ [123] := hn 123 (by omega) g1
                      have n2 : l.take 1 ≠ [125] := hn 125 (by omega) g2
                      have n3 : l.take 1 ≠ [91] := hn 91 (by omega) g3
                      have n4 : l.take 1 ≠ [93] := hn 93 (by omega) g4
                      simp only [flagStep]
                      rw [if_pos trivial, if_neg n1, if_neg n2, if_neg n3, if_neg n4]
                    · cases ht
theorem scanF_move (d : Nat) : ∀ (m : Nat) (l : List UInt8) (p : Nat) (br sq : Bool), l.length ≤ m → scanF l (p + d) br sq = ((scanF l p br sq).1.map (Tok.move d), (scanF l p br sq).2.map fun r => (r.1 + d, r.2))
  | m, [], p, br, sq, _ => rfl
  | 0, c :: r, p, br, sq, h => by simp at h
  | m + 1, c :: r, p, br, sq, h => by
    have hne : c :: r ≠ [] := by simp
    rw [scanF_eq hne, scanF_eq hne]
    generalize hl : c :: r = l at *
    have hr := remark_pos hne
    split
    · rw [show p + d + 1 = p + 1 + d by omega]
      exact scanF_move d m _ _ _ _ (by simp; omega)
    · split
      · rw [show p + d + remark l = p + remark l + d by omega]
        exact scanF_move d m _ _ _ _ (by simp; omega)
      · cases ht : tokenR l br sq with
        | bad e => rfl
        | tok k n b q =>
          have hn := tokenR_pos hne ht
          simp only
          rw [show p + d + n = p + n + d by omega, scanF_move d m _ _ _ _ (by simp; omega)]
          rfl
theorem scanF_two {y : List UInt8} : ∀ (m : Nat) (x : List UInt8) (p : Nat) (br sq : Bool) (ts : List Tok), x.length ≤ m → scanF x p br sq = (ts, none) →
    scanF (x ++ 10 :: y) p br sq = (ts ++ (scanF y (p + x.length + 1) (flagsOf (br, sq) ts).1 (flagsOf (br, sq) ts).2).1, (scanF y (p + x.length + 1) (flagsOf (br, sq) ts).1 (flagsOf (br, sq) ts).2).2)
  | m, [], p, br, sq, ts, _, h => by
    rw [scanF_nil] at h
    injection h with h1 h2
    subst h1
    rw [List.nil_append, scanF_blank (l := 10 :: y) (by simp) (show isBl 10 = true by decide)]
    rfl
  | 0, c :: r, p, br, sq, ts, h, _ => by simp at h
  | m + 1, c :: r, p, br, sq, ts, hm, h => by
    have hne : c :: r ≠ [] := by simp
    generalize hl : c :: r = x at *
    have hlen := nil_len hne
    have hne2 : x ++ 10 :: y ≠ [] := by simp
    have ha : atB (x ++ 10 :: y) 0 = atB x 0 := atB_app hlen
    cases hb : isBl (atB x 0)
    · by_cases hc : (atB x 0).toNat = 35
      · rw [scanF_remark hne hc] at h
        rw [scanF_remark hne2 (by rw [ha]; exact hc)]
        have hle := spanEnd_le notNl x 0 (Nat.zero_le _)
        have hs : spanEnd notNl (x ++ 10 :: y) 0 = spanEnd notNl x 0 := spanEnd_sep (Nat.zero_le _) (by decide)
        have hr2 : remark (x ++ 10 :: y) = spanEnd notNl x 0 + 1 := by unfold remark; rw [hs]; simp; omega
        by_cases hk : spanEnd notNl x 0 < x.length
        · have hr1 : remark x = spanEnd notNl x 0 + 1 := by unfold remark; omega
          rw [hr1] at h
          rw [hr2, List.drop_append_of_le_length (by omega), scanF_two m _ _ _ _ _ (by simp; omega) h]
          rw [show p + (spanEnd notNl x 0 + 1) + (x.drop (spanEnd notNl x 0 + 1)).length + 1 = p + x.length + 1 by simp; omega]
        · have hr1 : remark x = x.length := by unfold remark; omega
          rw [hr1, List.drop_length, scanF_nil] at h
          injection h with h1 h2
          subst h1
          have hd : (x ++ 10 :: y).drop (spanEnd notNl x 0 + 1) = y := by
            rw [show spanEnd notNl x 0 + 1 = x.length + 1 by omega, List.drop_append]
            simp
          rw [hr2, hd, show p + (spanEnd notNl x 0 + 1) = p + x.length + 1 by omega]
          rfl
      · cases ht : tokenR x br sq with
        | bad e =>
          rw [scanF_bad hne hb hc ht] at h
          cases h
        | tok k n b q =>
          have hn := tokenR_pos hne ht
          have hf := tokenR_flags p hne ht
          rw [scanF_tok hne hb hc ht] at h
          injection h with h1 h2
          subst h1
          rw [scanF_tok hne2 (by rw [ha]; exact hb) (by rw [ha]; exact hc) (tokenR_sep (.inr rfl) hne ht), List.drop_append_of_le_length hn.2, List.take_append_of_le_length hn.2]
          rw [scanF_two m (x.drop n) _ _ _ (scanF (x.drop n) (p + n) b q).1 (by simp; omega) (by rw [← h2])]
          have e1 : flagsOf (br, sq) (⟨k, x.take n, p⟩ :: (scanF (x.drop n) (p + n) b q).1) = flagsOf (b, q) (scanF (x.drop n) (p + n) b q).1 := by
            rw [flagsOf, List.foldl_cons, ← hf]; rfl
          rw [e1, show p + n + (x.drop n).length + 1 = p + x.length + 1 by simp; omega]
          rfl
    · rw [scanF_blank hne hb] at h
      rw [scanF_blank hne2 (by rw [ha]; exact hb), List.drop_append_of_le_length (by omega), scanF_two m _ _ _ _ _ (by simp; omega) h]
      rw [show p + 1 + (x.drop 1).length + 1 = p + x.length + 1 by simp; omega]
theorem tokenR_err {l : List UInt8} {br sq : Bool} {e : Nat} (h : tokenR l br sq = .bad e) : e = 110 ∨ e = 111 ∨ e = 112 := by
  unfold tokenR numberR strR opR at h
  repeat' split at h
  all_goals first
    | (cases h; done)
    | (injection h with h; omega)
theorem scanF_fault : ∀ (m : Nat) (l : List UInt8) (p : Nat) (br sq : Bool) (ts : List Tok) (a e : Nat), l.length ≤ m → scanF l p br sq = (ts, some (a, e)) →
    p ≤ a ∧ a < p + l.length ∧ (e = 110 ∨ e = 111 ∨ e = 112) ∧ scanF (l.take (a - p)) p br sq = (ts, none)
  | m, [], p, br, sq, ts, a, e, _, h => by rw [scanF_nil] at h; cases h
  | 0, c :: r, p, br, sq, ts, a, e, h, _ => by simp at h
  | m + 1, c :: r, p, br, sq, ts, a, e, hm, h => by
    have hne : c :: r ≠ [] := by simp
    generalize hl : c :: r = x at *
    have hlen := nil_len hne
    have hat : ∀ m, 0 < m → x.take m ≠ [] ∧ atB (x.take m) 0 = atB x 0 := by
      intro m hm
      have h1 : 0 < (x.take m).length := by simp; omega
      refine ⟨List.length_pos_iff.1 h1, ?_⟩
      have h2 := atB_app (x := x.take m) (y := x.drop m) h1
      rw [List.take_append_drop] at h2
      exact h2.symm
    cases hb : isBl (atB x 0)
    · by_cases hc : (atB x 0).toNat = 35
      · rw [scanF_remark hne hc] at h
        have hr := remark_pos hne
        have ih := scanF_fault m _ _ _ _ _ _ _ (by simp; omega) h
        simp only [List.length_drop] at ih
        refine ⟨by omega, by omega, ih.2.2.1, ?_⟩
        have hk : spanEnd notNl x 0 < x.length ∧ remark x = spanEnd notNl x 0 + 1 := by
          have hr2 : remark x < x.length := by omega
          unfold remark at hr2 ⊢
          omega
        obtain ⟨h1, h2⟩ := hat (a - p) (by omega)
        rw [scanF_remark h1 (by rw [h2]; exact hc)]
        have hs : spanEnd notNl (x.take (a - p)) 0 = spanEnd notNl x 0 := by
          have := spanEnd_app (p := notNl) (x := x.take (a - p)) (y := x.drop (a - p)) (i := 0) (Nat.zero_le _) (by rw [List.take_append_drop]; simp; omega)
          rw [List.take_append_drop] at this
          exact this
        have hr3 : remark (x.take (a - p)) = remark x := by
          rw [hk.2]
          unfold remark
          rw [hs]
          simp; omega
        rw [hr3, List.drop_take, show a - p - remark x = a - (p + remark x) by omega]
        exact ih.2.2.2
      · cases ht : tokenR x br sq with
        | bad e' =>
          rw [scanF_bad hne hb hc ht] at h
          injection h with h1 h2
          injection h2 with h2
          injection h2 with h2 h3
          subst h1 h2 h3
          refine ⟨Nat.le_refl _, by omega, tokenR_err ht, ?_⟩
          rw [Nat.sub_self, List.take_zero, scanF_nil]
        | tok k n b q =>
          have hn := tokenR_pos hne ht
          rw [scanF_tok hne hb hc ht] at h
          injection h with h1 h2
          subst h1
          have ih := scanF_fault m (x.drop n) (p + n) b q (scanF (x.drop n) (p + n) b q).1 a e (by simp; omega) (by rw [← h2])
          simp only [List.length_drop] at ih
          refine ⟨by omega, by omega, ih.2.2.1, ?_⟩
          obtain ⟨h3, h4⟩ := hat (a - p) (by omega)
          have ht2 : tokenR (x.take (a - p)) br sq = .tok k n b q := by
            refine tokenR_app (y := x.drop (a - p)) h3 ?_ (by simp; omega)
            rw [List.take_append_drop]; exact ht
          rw [scanF_tok h3 (by rw [h4]; exact hb) (by rw [h4]; exact hc) ht2, List.take_take, List.drop_take, show min n (a - p) = n by omega, show a - p - n = a - (p + n) by omega, ih.2.2.2]
    · rw [scanF_blank hne hb] at h
      have ih := scanF_fault m _ _ _ _ _ _ _ (by simp; omega) h
      simp only [List.length_drop] at ih
      refine ⟨by omega, by omega, ih.2.2.1, ?_⟩
      obtain ⟨h1, h2⟩ := hat (a - p) (by omega)
      rw [scanF_blank h1 (by rw [h2]; exact hb), List.drop_take, show a - p - 1 = a - (p + 1) by omega]
      exact ih.2.2.2
/-- Tokens that follow one another from these flags on. -/
def Chain : Bool → Bool → List Tok → Prop
  | _, _, [] => True
  | br, sq, t :: r => t.text ≠ [] ∧ isBl (atB t.text 0) = false ∧ (atB t.text 0).toNat ≠ 35 ∧ ∃ b q, tokenR t.text br sq = .tok t.kind t.text.length b q ∧ Chain b q r
theorem scanF_chain : ∀ (m : Nat) (l : List UInt8) (p : Nat) (br sq : Bool), l.length ≤ m → Chain br sq (scanF l p br sq).1
  | m, [], p, br, sq, _ => trivial
  | 0, c :: r, p, br, sq, h => by simp at h
  | m + 1, c :: r, p, br, sq, hm => by
    have hne : c :: r ≠ [] := by simp
    generalize hl : c :: r = x at *
    have hlen := nil_len hne
    cases hb : isBl (atB x 0)
    · by_cases hc : (atB x 0).toNat = 35
      · have hr := remark_pos hne
        rw [scanF_remark hne hc]
        exact scanF_chain m _ _ _ _ (by simp; omega)
      · cases ht : tokenR x br sq with
        | bad e' => rw [scanF_bad hne hb hc ht]; trivial
        | tok k n b q =>
          have hn := tokenR_pos hne ht
          rw [scanF_tok hne hb hc ht]
          have h1 : 0 < (x.take n).length := by simp; omega
          have h3 : x.take n ≠ [] := List.length_pos_iff.1 h1
          have h4 : atB (x.take n) 0 = atB x 0 := by
            have h2 := atB_app (x := x.take n) (y := x.drop n) h1
            rw [List.take_append_drop] at h2
            exact h2.symm
          refine ⟨h3, by show isBl (atB (x.take n) 0) = false; rw [h4]; exact hb, by show (atB (x.take n) 0).toNat ≠ 35; rw [h4]; exact hc, b, q, ?_, scanF_chain m _ _ _ _ (by simp; omega)⟩
          have hl : (x.take n).length = n := by simp; omega
          show tokenR (x.take n) br sq = .tok k (x.take n).length b q
          rw [hl]
          refine tokenR_app (y := x.drop n) h3 ?_ (by omega)
          rw [List.take_append_drop]; exact ht
    · rw [scanF_blank hne hb]
      exact scanF_chain m _ _ _ _ (by simp; omega)
theorem takeWhile_all (p : UInt8 → Bool) : ∀ l : List UInt8, (∀ c ∈ l, p c = true) → l.takeWhile p = l
  | [], _ => rfl
  | c :: r, h => by
    rw [List.takeWhile_cons, if_pos (h c (by simp)), takeWhile_all p r fun d hd => h d (by simp [hd])]
/-- Blanks and closed remarks. -/
def Blank (g : List UInt8) : Prop := ∀ (y : List UInt8) (p : Nat) (br sq : Bool), scanF (g ++ y) p br sq = scanF y (p + g.length) br sq
theorem Blank.nil : Blank [] := fun _ _ _ _ => rfl
theorem Blank.cons {c : UInt8} {g : List UInt8} (hc : isBl c = true) (h : Blank g) : Blank (c :: g) := by
  intro y p br sq
  rw [List.cons_append, scanF_blank (l := c :: (g ++ y)) (by simp) (show isBl c = true from hc)]
  show scanF (g ++ y) (p + 1) br sq = _
  rw [h, List.length_cons, show p + 1 + g.length = p + (g.length + 1) by omega]
theorem Blank.app {g h : List UInt8} (h1 : Blank g) (h2 : Blank h) : Blank (g ++ h) := by
  intro y p br sq
  rw [List.append_assoc, h1, h2, List.length_append, Nat.add_assoc]
theorem Blank.remark {g : List UInt8} (h : ∀ c ∈ g, c ≠ 10) : Blank (35 :: g ++ [10]) := by
  intro y p br sq
  have hs : spanEnd notNl (35 :: g ++ 10 :: y) 0 = g.length + 1 := by
    have h1 : spanEnd notNl (35 :: g ++ 10 :: y) 0 = spanEnd notNl (35 :: g) 0 := spanEnd_sep (Nat.zero_le _) (by decide)
    rw [h1]
    have h2 : (35 :: g).takeWhile notNl = 35 :: g := by
      refine takeWhile_all _ _ ?_
      intro c hc
      rcases List.mem_cons.1 hc with rfl | hc
      · decide
      · have := h c hc
        simp only [notNl, bne_iff_ne, ne_eq]
        intro e
        exact this ((u8_eq (n := 10) (by omega)).2 e)
    simp [spanEnd, h2]
  have e : 35 :: g ++ [10] ++ y = 35 :: g ++ 10 :: y := by simp
  rw [e, scanF_remark (by simp) rfl]
  have hr : Go.Proofs.YtpkeonafcldkhaaGreatDoor.remark (35 :: g ++ 10 :: y) = g.length + 2 := by
    unfold Go.Proofs.YtpkeonafcldkhaaGreatDoor.remark
    rw [hs]
    simp
  rw [hr]
  have hd : (35 :: g ++ 10 :: y).drop (g.length + 2) = y := by
    rw [show 35 :: g ++ 10 :: y = (35 :: g ++ [10]) ++ y by simp, List.drop_left' (by simp)]
  rw [hd]
  simp
/-- Texts of tokens with gaps ahead of them and behind the last. -/
def layF (gap : Nat → List UInt8) (fin : List UInt8) : Nat → List Tok → List UInt8
  | _, [] => fin
  | i, t :: r => gap i ++ (t.text ++ layF gap fin (i + 1) r)
def layT (gap : Nat → List UInt8) : Nat → Nat → List Tok → List Tok
  | _, _, [] => []
  | i, p, t :: r => ⟨t.kind, t.text, p + (gap i).length⟩ :: layT gap (i + 1) (p + (gap i).length + t.text.length) r
def Begins (g : List UInt8) : Prop := ∃ c z, g = c :: z ∧ sepB c
theorem scanF_lay {gap : Nat → List UInt8} {fin : List UInt8} (h1 : ∀ i, Blank (gap i)) (h2 : ∀ i, Begins (gap (i + 1))) (h3 : fin = [] ∨ Blank fin ∧ Begins fin) :
    ∀ (ts : List Tok) (i p : Nat) (br sq : Bool), Chain br sq ts → scanF (layF gap fin i ts) p br sq = (layT gap i p ts, none)
  | [], i, p, br, sq, _ => by
    rw [layF, layT]
    rcases h3 with rfl | ⟨hb, _⟩
    · rfl
    · have := hb [] p br sq
      rw [List.append_nil] at this
      rw [this, scanF_nil]
  | t :: r, i, p, br, sq, h => by
    obtain ⟨h4, h5, h6, b, q, h7, h8⟩ := h
    have hlen := nil_len h4
    rw [layF, layT, h1]
    have hb : layF gap fin (i + 1) r = [] ∨ Begins (layF gap fin (i + 1) r) := by
      cases r with
      | nil =>
        rcases h3 with h | ⟨_, h⟩
        · exact .inl h
        · exact .inr h
      | cons u r =>
        obtain ⟨c, z, hc, hs⟩ := h2 i
        exact .inr ⟨c, _, by rw [layF, hc]; rfl, hs⟩
    have ht : tokenR (t.text ++ layF gap fin (i + 1) r) br sq = .tok t.kind t.text.length b q := by
      rcases hb with hb | ⟨c, z, hb, hs⟩
      · rw [hb, List.append_nil]; exact h7
      · rw [hb]; exact tokenR_sep hs h4 h7
    have ha : atB (t.text ++ layF gap fin (i + 1) r) 0 = atB t.text 0 := atB_app hlen
    rw [scanF_tok (by simp [h4]) (by rw [ha]; exact h5) (by rw [ha]; exact h6) ht, List.drop_left, List.take_left, scanF_lay h1 h2 h3 r (i + 1) _ b q h8]
end Go.Proofs.YtpkeonafcldkhaaGreatDoor
