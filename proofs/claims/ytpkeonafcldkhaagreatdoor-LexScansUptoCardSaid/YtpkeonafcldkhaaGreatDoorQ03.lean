import Derived.Test.YtpkeonafcldkhaaGreatDoorQ01
import Derived.Lib.DecodeN
/- Part of the proof of YtpkeonafcldkhaaGreatDoorCardS CardV: PlB. -/
set_option linter.unusedVariables false
set_option linter.unusedSimpArgs false
namespace Go.Proofs.YtpkeonafcldkhaaGreatDoor
open Go.RowKit
def dec (l : List UInt8) (i : Nat) : Nat × Nat := Lib.decodeN (l.length - i) (l.getD i 0).toNat (l.getD (i + 1) 0).toNat (l.getD (i + 2) 0).toNat (l.getD (i + 3) 0).toNat
theorem get_bang (s : ByteArray) (i : Nat) : s.get! i = s.data.toList.getD i 0 := by
 cases s with
 |mk d =>
  simp only [ByteArray.get!, List.getD_eq_getElem?_getD, Array.getElem?_toList]
  rw [getElem!_def]
  cases d[i]? <;> rfl
theorem dec_eq (s : ByteArray) (i : Nat) : Utf8.decode s i = dec s.data.toList i := by
 rw [Lib.decode_at, dec, get_bang, get_bang, get_bang, get_bang, len_data]
theorem dec_pos (l : List UInt8) (i : Nat) : 1 ≤ (dec l i).2 := by
 unfold dec Lib.decodeN
 repeat' split
 all_goals simp
theorem dec_w (l : List UInt8) (i : Nat) (h : i < l.length) : i + (dec l i).2 ≤ l.length := by
 unfold dec Lib.decodeN
 repeat' split
 all_goals simp
 all_goals omega
def bad (l : List UInt8) (i : Nat) : Bool := dec l i == (65533, 1)
def vAt (l : List UInt8) : Nat → Nat → Bool
 | 0, _ => true
 |f + 1, i => if i < l.length then (if bad l i then false else vAt l f (i + (dec l i).2)) else true
def valid (l : List UInt8) : Bool := vAt l l.length 0
theorem vAt_end (l : List UInt8) (f i : Nat) (h : l.length ≤ i) : vAt l f i = true := by
 cases f with
 |zero => rfl
 |succ f => rw [vAt, if_neg (by omega)]
theorem vAt_fuel (l : List UInt8) : ∀ (f g i : Nat), l.length - i ≤ f → l.length - i ≤ g → vAt l f i = vAt l g i
 | 0, g, i, hf, _ => by rw [vAt_end l 0 i (by omega), vAt_end l g i (by omega)]
 |f + 1, 0, i, _, hg => by rw [vAt_end l 0 i (by omega), vAt_end l (f + 1) i (by omega)]
 |f + 1, g + 1, i, hf, hg => by
  rw [vAt, vAt]
  have := dec_pos l i
  by_cases h : i < l.length
  ·rw [if_pos h, if_pos h, vAt_fuel l f g _ (by omega) (by omega)]
  ·rw [if_neg h, if_neg h]
def vFrom (l : List UInt8) (i : Nat) : Bool := vAt l (l.length - i) i
theorem vFrom_zero (l : List UInt8) : vFrom l 0 = valid l := rfl
theorem vFrom_end {l : List UInt8} {i : Nat} (h : l.length ≤ i) : vFrom l i = true := vAt_end _ _ _ h
theorem vFrom_bad {l : List UInt8} {i : Nat} (h : i < l.length) (hb : bad l i = true) : vFrom l i = false := by
 unfold vFrom
 obtain ⟨f, hf⟩ : ∃ f, l.length - i = f + 1 := ⟨l.length - i - 1, by omega⟩
 rw [hf, vAt, if_pos h, hb]; rfl
theorem vFrom_step {l : List UInt8} {i : Nat} (h : i < l.length) (hb : bad l i = false) : vFrom l (i + (dec l i).2) = vFrom l i := by
 unfold vFrom
 obtain ⟨f, hf⟩ : ∃ f, l.length - i = f + 1 := ⟨l.length - i - 1, by omega⟩
 rw [hf, vAt, if_pos h, hb]
 have := dec_pos l i
 exact vAt_fuel l _ _ _ (by omega) (by omega)
def repl (l : List UInt8) (i : Nat) : Bool := (l.drop i).take 3 == [239, 191, 189]
theorem drop3 (l : List UInt8) (i : Nat) (h : i + 3 ≤ l.length) : (l.drop i).take 3 = [l.getD i 0, l.getD (i + 1) 0, l.getD (i + 2) 0] := by
 apply List.ext_getElem
 ·simp; omega
 ·intro j h1 h2
  simp at h2
  simp only [List.getElem_take, List.getElem_drop]
  match j, h2 with
  | 0, _ => simp [List.getD_eq_getElem?_getD, List.getElem?_eq_getElem (show i < l.length by omega)]
  | 1, _ => simp [List.getD_eq_getElem?_getD, List.getElem?_eq_getElem (show i + 1 < l.length by omega)]
  | 2, _ => simp [List.getD_eq_getElem?_getD, List.getElem?_eq_getElem (show i + 2 < l.length by omega)]
theorem u8_eq {a : UInt8} {n : Nat} (hn : n < 256) : a = UInt8.ofNat n ↔ a.toNat = n := by
 constructor
 ·intro h; subst h; simp; omega
 ·intro h; apply UInt8.toNat_inj.1; simp; omega
theorem getD_pos {l : List UInt8} {i n : Nat} (h : (l.getD i 0).toNat = n) (hn : 0 < n) : i < l.length := by
 rcases Nat.lt_or_ge i l.length with h' | h'
 ·exact h'
 ·rw [List.getD_eq_getElem?_getD, List.getElem?_eq_none h'] at h
  simp at h; omega
theorem repl_iff (l : List UInt8) (i : Nat) : repl l i = true ↔ (l.getD i 0).toNat = 239 ∧ (l.getD (i + 1) 0).toNat = 191 ∧ (l.getD (i + 2) 0).toNat = 189 := by
 unfold repl
 rw [beq_iff_eq]
 constructor
 ·intro h
  have hl : i + 3 ≤ l.length := by
   have := congrArg List.length h
   simp at this; omega
  rw [drop3 l i hl] at h
  simp only [List.cons.injEq, and_true] at h
  obtain ⟨h1, h2, h3⟩ := h
  rw [h1, h2, h3]; decide
 ·rintro ⟨h1, h2, h3⟩
  have hl : i + 2 < l.length := getD_pos h3 (by omega)
  rw [drop3 l i (by omega), (u8_eq (by omega)).2 h1, (u8_eq (by omega)).2 h2, (u8_eq (by omega)).2 h3]
  decide
theorem bad_code (l : List UInt8) (i : Nat) (h : i < l.length) : bad l i = ((dec l i).1 == 65533 && !repl l i) := by
 have hb1 : (l.getD (i + 1) 0).toNat < 256 := (l.getD (i + 1) 0).toNat_lt
 have hb2 : (l.getD (i + 2) 0).toNat < 256 := (l.getD (i + 2) 0).toNat_lt
 have hb0 : (l.getD i 0).toNat < 256 := (l.getD i 0).toNat_lt
 have hr := repl_iff l i
 have hn2 : 2 < l.length - i ∨ (l.getD (i + 2) 0).toNat = 0 := by
  rcases Nat.lt_or_ge (i + 2) l.length with h' | h'
  ·left; omega
  ·right; rw [List.getD_eq_getElem?_getD, List.getElem?_eq_none h']; rfl
 rw [Bool.eq_iff_iff]
 simp only [bad, beq_iff_eq, Bool.and_eq_true, Bool.not_eq_true']
 rw [Bool.eq_false_iff, ne_eq, hr]
 unfold dec Lib.decodeN
 generalize (l.getD i 0).toNat = b0 at *
 generalize (l.getD (i + 1) 0).toNat = b1 at *
 generalize (l.getD (i + 2) 0).toNat = b2 at *
 generalize (l.getD (i + 3) 0).toNat = b3 at *
 clear hr
 repeat' split
 all_goals (simp only [Prod.mk.injEq]; try dsimp only)
 all_goals first | omega | (simp only [true_and, true_iff, not_and]; omega) | (simp; omega)
def isRuneN (n : Nat) : Bool := decide (n < 55296) || (decide (57344 ≤ n) && decide (n ≤ 1114111))
def formB (n : Nat) : List UInt8 :=
 if n < 128 then [UInt8.ofNat n]
 else if n < 2048 then [UInt8.ofNat (192 + n / 64), UInt8.ofNat (128 + n % 64)]
 else if n < 65536 then [UInt8.ofNat (224 + n / 4096), UInt8.ofNat (128 + n / 64 % 64), UInt8.ofNat (128 + n % 64)]
 else [UInt8.ofNat (240 + n / 262144), UInt8.ofNat (128 + n / 4096 % 64), UInt8.ofNat (128 + n / 64 % 64), UInt8.ofNat (128 + n % 64)]
theorem formB_len (n : Nat) : 1 ≤ (formB n).length ∧ (formB n).length ≤ 4 := by
 unfold formB; repeat' split
 all_goals simp
def digVal (c : UInt8) : Option Nat :=
 if 48 ≤ c.toNat ∧ c.toNat ≤ 57 then some (c.toNat - 48)
 else if 97 ≤ c.toNat ∧ c.toNat ≤ 102 then some (c.toNat - 87)
 else if 65 ≤ c.toNat ∧ c.toNat ≤ 70 then some (c.toNat - 55) else none
def digsGo (base : Nat) : Nat → List UInt8 → Option Nat
 |v, [] => some v
 |v, c :: r => match digVal c with
  |some d => if d < base then digsGo base (v * base + d) r else none
  |none => none
def digs (l : List UInt8) (n base : Nat) : Option Nat := if l.length < n then none else digsGo base 0 (l.take n)
def digsGoB (base : Nat) : Nat → List UInt8 → Option Nat
 |v, [] => some v
 |v, c :: r => match digVal c with
  |some d => if d < base ∧ v ≤ 8388607 then digsGoB base (v * base + d) r else none
  |none => none
def digsB (l : List UInt8) (n base : Nat) : Option Nat := if l.length < n then none else digsGoB base 0 (l.take n)
def litGo (q : UInt8) : List UInt8 → Option Nat
 | [] => none
 | [c] => if c = q then some 1 else none
 |c :: d :: r =>
  if c = q then some 1
  else if q = 96 then (litGo q (d :: r)).map (· + 1)
  else if c = 10 then none
  else if c = 92 then (if d = 10 then none else (litGo q r).map (· + 2))
  else (litGo q (d :: r)).map (· + 1)
def isQuote (c : UInt8) : Bool := c == 34 || c == 39 || c == 96
def litEnd (l : List UInt8) (i : Nat) : Option Nat := if i < l.length ∧ isQuote (atB l i) = true then (litGo (atB l i) (l.drop (i + 1))).map (· + (i + 1)) else none
def litFrom (q : UInt8) (l : List UInt8) (i : Nat) : Option Nat := (litGo q (l.drop i)).map (· + i)
theorem map_add {o : Option Nat} {a b c : Nat} (h : c = a + b) : (o.map (· + a)).map (· + b) = o.map (· + c) := by
 cases o <;> simp; omega
theorem litFrom_end {q : UInt8} {l : List UInt8} {i : Nat} (h : l.length ≤ i) : litFrom q l i = none := by
 rw [litFrom, List.drop_eq_nil_of_le h]; rfl
theorem drop_at {l : List UInt8} {i : Nat} (h : i < l.length) : l.drop i = atB l i :: l.drop (i + 1) := by
 rw [List.drop_eq_getElem_cons h, atB, List.getD_eq_getElem?_getD, List.getElem?_eq_getElem h]; rfl
theorem litGo_q {q : UInt8} {r : List UInt8} : litGo q (q :: r) = some 1 := by
 cases r <;> simp [litGo]
theorem litFrom_hit {q : UInt8} {l : List UInt8} {i : Nat} (h : i < l.length) (hc : atB l i = q) : litFrom q l i = some (i + 1) := by
 rw [litFrom, drop_at h, hc, litGo_q]; simp; omega
theorem litGo_raw {c : UInt8} {r : List UInt8} (hc : c ≠ 96) : litGo 96 (c :: r) = (litGo 96 r).map (· + 1) := by
 cases r <;> simp [litGo, hc]
theorem litFrom_raw {l : List UInt8} {i : Nat} (h : i < l.length) (hc : atB l i ≠ 96) : litFrom 96 l i = litFrom 96 l (i + 1) := by
 rw [litFrom, drop_at h, litGo_raw hc, map_add (c := i + 1) (by omega)]; rfl
theorem litGo_nl {q : UInt8} {r : List UInt8} (h : q ≠ 96) (h2 : q ≠ 10) : litGo q (10 :: r) = none := by
 cases r <;> simp [litGo, h, h2.symm]
theorem litFrom_nl {q : UInt8} {l : List UInt8} {i : Nat} (h : i < l.length) (hq : q ≠ 96) (hq2 : atB l i ≠ q) (hc : atB l i = 10) : litFrom q l i = none := by
 rw [litFrom, drop_at h, hc, litGo_nl hq (by rw [← hc]; exact hq2.symm)]; rfl
theorem litGo_plain {q c : UInt8} {r : List UInt8} (h : q ≠ 96) (h1 : c ≠ q) (h2 : c ≠ 10) (h3 : c ≠ 92) : litGo q (c :: r) = (litGo q r).map (· + 1) := by
 cases r <;> simp [litGo, h, h1, h2, h3]
theorem litFrom_plain {q : UInt8} {l : List UInt8} {i : Nat} (h : i < l.length) (hq : q ≠ 96) (h1 : atB l i ≠ q) (h2 : atB l i ≠ 10) (h3 : atB l i ≠ 92) : litFrom q l i = litFrom q l (i + 1) := by
 rw [litFrom, drop_at h, litGo_plain hq h1 h2 h3, map_add (c := i + 1) (by omega)]; rfl
theorem litFrom_esc_end {q : UInt8} {l : List UInt8} {i : Nat} (h : i + 1 = l.length) (h1 : atB l i ≠ q) : litFrom q l i = none := by
 rw [litFrom, drop_at (by omega), List.drop_eq_nil_of_le (by omega)]
 simp [litGo, h1]
theorem litFrom_esc_nl {q : UInt8} {l : List UInt8} {i : Nat} (h : i + 1 < l.length) (hq : q ≠ 96) (h1 : atB l i ≠ q) (h2 : atB l i = 92) (h3 : atB l (i + 1) = 10) : litFrom q l i = none := by
 rw [litFrom, drop_at (by omega), drop_at h, h3]
 rw [h2] at h1 ⊢
 simp [litGo, h1, hq]
theorem litFrom_esc {q : UInt8} {l : List UInt8} {i : Nat} (h : i + 1 < l.length) (hq : q ≠ 96) (h1 : atB l i ≠ q) (h2 : atB l i = 92) (h3 : atB l (i + 1) ≠ 10) : litFrom q l i = litFrom q l (i + 2) := by
 rw [litFrom, drop_at (by omega), drop_at h]
 rw [h2] at h1 ⊢
 simp only [litGo, if_neg h1, if_neg hq, if_neg (show ¬ (92 : UInt8) = 10 by decide), if_pos, if_neg h3]
 rw [map_add (c := i + 2) (by omega)]; rfl
def plainB (c : UInt8) : UInt8 := if c = 97 then 7 else if c = 98 then 8 else if c = 116 then 9 else if c = 110 then 10 else if c = 118 then 11 else if c = 102 then 12 else 13
def isPlain (c : UInt8) : Bool := c == 97 || c == 98 || c == 116 || c == 110 || c == 118 || c == 102 || c == 114
def escOut (q : UInt8) (l : List UInt8) : Option (List UInt8 × Nat) := match l with
 | [] => none
 |c :: r =>
  if isPlain c then some ([plainB c], 1)
  else if c = 92 ∨ c = q then some ([c], 1)
  else if c = 120 then (digs r 2 16).map fun v => ([UInt8.ofNat v], 3)
  else if c = 117 then (digs r 4 16).bind fun v => if isRuneN v then some (formB v, 5) else none
  else if c = 85 then (digs r 8 16).bind fun v => if isRuneN v then some (formB v, 9) else none
  else (digs (c :: r) 3 8).bind fun v => if v ≤ 255 then some ([UInt8.ofNat v], 3) else none
def unesc (q : UInt8) : Nat → List UInt8 → Option (List UInt8)
 | 0, _ => some []
 | _ + 1, [] => some []
 |f + 1, c :: r => if c ≠ 92 then (unesc q f r).map (c :: ·) else
  match escOut q r with
  |none => none
  |some (b, n) => (unesc q f (r.drop n)).map (b ++ ·)
def unquote (l : List UInt8) : Nat × List UInt8 :=
 if valid l = false then (4, [])
 else if litEnd l 0 ≠ some l.length then (10, [])
 else if atB l 0 = 96 then (0, (l.drop 1).take (l.length - 2))
 else match unesc (atB l 0) l.length ((l.drop 1).take (l.length - 2)) with
  |none => (11, [])
  |some b => if valid b then (0, b) else (13, [])
end Go.Proofs.YtpkeonafcldkhaaGreatDoor
