import Derived.Test.YtpkeonafcldkhaaGreatDoorMem
/- Plain words of the lexer. -/
set_option linter.unusedVariables false
set_option linter.unusedSimpArgs false
namespace Go.Proofs.YtpkeonafcldkhaaGreatDoor
open Go.RowKit
def letter (c : UInt8) : Bool := (97 ≤ c.toNat && c.toNat ≤ 122) || (65 ≤ c.toNat && c.toNat ≤ 90) || c.toNat == 95
def digit (c : UInt8) : Bool := 48 ≤ c.toNat && c.toNat ≤ 57
def nameCh (colons : Bool) (c : UInt8) : Bool := letter c || digit c || (colons && c.toNat == 58)
def low (c : UInt8) : UInt8 := if 65 ≤ c.toNat ∧ c.toNat ≤ 90 then c + 32 else c

/-- The first k bytes made small. -/
def lowTo (l : List UInt8) (k : Nat) : List UInt8 := (l.take k).map low ++ l.drop k
theorem lowTo_zero (l : List UInt8) : lowTo l 0 = l := by simp [lowTo]
theorem lowTo_all (l : List UInt8) {k : Nat} (h : l.length ≤ k) : lowTo l k = l.map low := by
  simp [lowTo, List.take_of_length_le h, List.drop_eq_nil_of_le h]
theorem lowTo_len (l : List UInt8) (k : Nat) : (lowTo l k).length = l.length := by simp [lowTo]; omega
theorem lowTo_at (l : List UInt8) (k : Nat) (h : k < l.length) : (lowTo l k)[k]'(by rw [lowTo_len]; exact h) = l[k] := by
  simp only [lowTo]
  rw [List.getElem_append_right (by simp; omega)]
  simp [Nat.min_eq_left (Nat.le_of_lt h)]
theorem lowTo_succ (l : List UInt8) (k : Nat) (h : k < l.length) : lowTo l (k + 1) = (lowTo l k).set k (low l[k]) := by
  have h0 : k - ((l.take k).map low).length = 0 := by simp; omega
  have h1 : (l.drop k).set 0 (low l[k]) = low l[k] :: l.drop (k + 1) := by rw [List.drop_eq_getElem_cons h]; rfl
  unfold lowTo
  rw [List.set_append_right _ _ (by simp; omega), h0, h1, List.take_succ_eq_append_getElem h, List.map_append, List.append_assoc]
  rfl
theorem lowTo_same (l : List UInt8) (k : Nat) (h : k < l.length) (hl : low l[k] = l[k]) : lowTo l (k + 1) = lowTo l k := by
  rw [lowTo_succ l k h, hl]
  conv => lhs; rw [← lowTo_at l k h]
  exact List.set_getElem_self _
theorem low_up (c : UInt8) (h : 65 ≤ c.toNat ∧ c.toNat ≤ 90) : ((low c).toNat : Int) = (c.toNat : Int) + 32 := by
  rw [low, if_pos h, UInt8.toNat_add]
  simp; omega
theorem low_id (c : UInt8) (h : ¬ (65 ≤ c.toNat ∧ c.toNat ≤ 90)) : low c = c := by rw [low, if_neg h]

def spanEnd (p : UInt8 → Bool) (l : List UInt8) (i : Nat) : Nat := i + ((l.drop i).takeWhile p).length
theorem spanEnd_step {p : UInt8 → Bool} {l : List UInt8} {i : Nat} (h : i < l.length) (hp : p l[i] = true) : spanEnd p l (i + 1) = spanEnd p l i := by
  unfold spanEnd
  rw [List.drop_eq_getElem_cons h, List.takeWhile_cons, if_pos hp]
  simp; omega
theorem spanEnd_stop {p : UInt8 → Bool} {l : List UInt8} {i : Nat} (h : i < l.length) (hp : p l[i] = false) : spanEnd p l i = i := by
  unfold spanEnd
  rw [List.drop_eq_getElem_cons h, List.takeWhile_cons, if_neg (by simp [hp])]
  simp
theorem spanEnd_end {p : UInt8 → Bool} {l : List UInt8} {i : Nat} (h : l.length ≤ i) : spanEnd p l i = i := by
  unfold spanEnd
  rw [List.drop_eq_nil_of_le h]; simp
theorem spanEnd_stepB {p : UInt8 → Bool} {s : ByteArray} {k : Nat} (h : k < s.size) (hp : p s[k] = true) : spanEnd p s.data.toList (k + 1) = spanEnd p s.data.toList k :=
  spanEnd_step (by simpa using h) (by rw [gl]; exact hp)
theorem spanEnd_stopB {p : UInt8 → Bool} {s : ByteArray} {k : Nat} (h : k < s.size) (hp : p s[k] = false) : spanEnd p s.data.toList k = k :=
  spanEnd_stop (by simpa using h) (by rw [gl]; exact hp)
theorem spanEnd_ge (p : UInt8 → Bool) (l : List UInt8) (i : Nat) : i ≤ spanEnd p l i := by unfold spanEnd; omega
theorem spanEnd_le (p : UInt8 → Bool) (l : List UInt8) (i : Nat) (h : i ≤ l.length) : spanEnd p l i ≤ l.length := by
  unfold spanEnd
  have := (List.takeWhile_prefix p (l := l.drop i)).length_le
  simp at this
  omega

def lowPre (l : List UInt8) (k : Nat) : List UInt8 := (l.take k).map low
theorem lowPre_succ (l : List UInt8) (k : Nat) (h : k < l.length) : lowPre l (k + 1) = lowPre l k ++ [low l[k]] := by
  rw [lowPre, List.take_succ_eq_append_getElem h, List.map_append]; rfl
/-- The keywords. -/
def kws : List (List UInt8) := [[97, 110, 100], [98, 111, 111, 108], [98, 121], [103, 114, 111, 117, 112, 95, 108, 101, 102, 116], [103, 114, 111, 117, 112, 95, 114, 105, 103, 104, 116], [105, 103, 110, 111, 114, 105, 110, 103], [111, 102, 102, 115, 101, 116], [111, 110], [111, 114], [117, 110, 108, 101, 115, 115], [119, 105, 116, 104, 111, 117, 116], [97, 118, 103], [98, 111, 116, 116, 111, 109, 107], [99, 111, 117, 110, 116], [99, 111, 117, 110, 116, 95, 118, 97, 108, 117, 101, 115], [103, 114, 111, 117, 112], [109, 97, 120], [109, 105, 110], [113, 117, 97, 110, 116, 105, 108, 101], [115, 116, 100, 100, 101, 118], [115, 116, 100, 118, 97, 114], [115, 117, 109], [116, 111, 112, 107]]
def isKw (l : List UInt8) : Bool := kws.contains l
theorem isKw_len {l : List UInt8} (h : isKw l = true) : l.length ≤ 12 := by
  have hall : ∀ k ∈ kws, k.length ≤ 12 := by decide
  exact hall l (by simpa [isKw] using h)
def word (l : List UInt8) : Bool := isKw (l.map low)
theorem word_long {l : List UInt8} (h : 12 < l.length) : word l = false := by
  cases hw : word l
  · rfl
  · have := isKw_len hw
    simp at this
    omega
/-- May l be a label's name, a metric's name? -/
def isLabel (l : List UInt8) : Bool := match l with | [] => false | c :: r => letter c && (c :: r).all (nameCh false)
def isMetric (l : List UInt8) : Bool := match l with | [] => false | c :: r => !digit c && (c :: r).all (nameCh true)
theorem takeWhile_len_all (p : UInt8 → Bool) : ∀ l : List UInt8, ((l.takeWhile p).length == l.length) = l.all p
  | [] => rfl
  | c :: r => by
    have ih := takeWhile_len_all p r
    cases hp : p c
    · simp [hp]
    · simpa [List.takeWhile_cons, hp] using ih
theorem spanEnd_all (p : UInt8 → Bool) (l : List UInt8) : (spanEnd p l 0 == l.length) = l.all p := by
  rw [← takeWhile_len_all]
  simp [spanEnd]

/-- What is left to be asked of a name from place k on. -/
def idAt (col : Bool) (l : List UInt8) (k : Nat) : Bool := if k = 0 then (if col then isMetric l else isLabel l) else (l.drop k).all (nameCh col)
theorem nameCh_letter {col : Bool} {c : UInt8} (h : letter c = true) : nameCh col c = true := by simp [nameCh, h]
theorem nameCh_digit {col : Bool} {c : UInt8} (h : digit c = true) : nameCh col c = true := by simp [nameCh, h]
theorem letter_digit {c : UInt8} (h : letter c = true) : digit c = false := by
  simp [letter, digit] at *; omega
theorem idAt_end {col : Bool} {l : List UInt8} {k : Nat} (h : k = l.length) : idAt col l k = !l.isEmpty := by
  cases l with
  | nil => subst h; cases col <;> rfl
  | cons c r =>
    have : k ≠ 0 := by simp at h; omega
    rw [idAt, if_neg this, List.drop_eq_nil_of_le (by omega)]; rfl
theorem idAt_one (col : Bool) (c : UInt8) (r : List UInt8) : idAt col (c :: r) 1 = r.all (nameCh col) := by simp [idAt]
theorem idAt_step {col : Bool} {s : ByteArray} {k : Nat} (h : k < s.size) (hc : letter s[k] = true ∨ (col = true ∧ s[k].toNat = 58) ∨ (k ≠ 0 ∧ digit s[k] = true)) : idAt col s.data.toList (k + 1) = idAt col s.data.toList k := by
  have hk : k < s.data.toList.length := by rw [len_data]; exact h
  have hg : s.data.toList[k] = s[k] := gl s k hk
  have hn : nameCh col s[k] = true := by
    rcases hc with h | ⟨h1, h2⟩ | ⟨_, h⟩
    · exact nameCh_letter h
    · simp [nameCh, h1, h2]
    · exact nameCh_digit h
  by_cases h0 : k = 0
  · subst h0
    cases hl : s.data.toList with
    | nil => rw [hl] at hk; simp at hk
    | cons c r =>
      have hcs : c = s[0] := by rw [← hg]; simp [hl]
      rw [idAt_one, idAt, if_pos rfl]
      rw [← hcs] at hn hc
      cases col
      · have hlt : letter c = true := by rcases hc with h | ⟨h, _⟩ | ⟨h, _⟩ <;> simp_all
        simp [isLabel, hlt, hn]
      · have hd : digit c = false := by
          rcases hc with h | ⟨_, h⟩ | ⟨h, _⟩
          · exact letter_digit h
          · simp [digit, h]
          · simp at h
        simp [isMetric, hd, hn]
  · rw [idAt, idAt, if_neg (by omega), if_neg h0, List.drop_eq_getElem_cons hk, hg, List.all_cons, hn, Bool.true_and]
theorem idAt_stop {col : Bool} {s : ByteArray} {k : Nat} (h : k < s.size) (hl : letter s[k] = false) (hc : col = true → s[k].toNat ≠ 58) (hd : k = 0 ∨ digit s[k] = false) : idAt col s.data.toList k = false := by
  have hk : k < s.data.toList.length := by rw [len_data]; exact h
  have hg : s.data.toList[k] = s[k] := gl s k hk
  by_cases h0 : k = 0
  · subst h0
    cases hls : s.data.toList with
    | nil => rw [hls] at hk; simp at hk
    | cons c r =>
      have hcs : c = s[0] := by rw [← hg]; simp [hls]
      rw [idAt, if_pos rfl]
      rw [← hcs] at hl hc
      cases col
      · simp [isLabel, hl]
      · have := hc rfl
        cases hd : digit c <;> simp [isMetric, nameCh, hl, hd, this]
  · rw [idAt, if_neg h0, List.drop_eq_getElem_cons hk, hg, List.all_cons]
    have hd' : digit s[k] = false := hd.resolve_left h0
    have : nameCh col s[k] = false := by
      cases col
      · simp [nameCh, hl, hd']
      · simp [nameCh, hl, hd', hc rfl]
    rw [this, Bool.false_and]
/-- The byte at a place, 0 behind the end. -/
def atB (l : List UInt8) (i : Nat) : UInt8 := l.getD i 0
theorem atB_lt {s : ByteArray} {i : Nat} (h : i < s.size) : atB s.data.toList i = s[i] := by
  have hk : i < s.data.toList.length := by rw [len_data]; exact h
  rw [← gl s i hk, atB, List.getD_eq_getElem?_getD, List.getElem?_eq_getElem hk]; rfl
theorem atB_ge {l : List UInt8} {i : Nat} (h : l.length ≤ i) : atB l i = 0 := by
  rw [atB, List.getD_eq_getElem?_getD, List.getElem?_eq_none h]; rfl
end Go.Proofs.YtpkeonafcldkhaaGreatDoor
