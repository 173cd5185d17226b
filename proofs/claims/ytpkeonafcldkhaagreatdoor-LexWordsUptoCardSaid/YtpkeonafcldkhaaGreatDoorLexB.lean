import Derived.Test.YtpkeonafcldkhaaGreatDoorLexA
/- lex: IsLabel, IsMetric, Word. -/
set_option linter.unusedVariables false
set_option linter.unusedSimpArgs false
namespace Go.Proofs.YtpkeonafcldkhaaGreatDoor
open Go.RowKit

theorem ret_sb {s t : ByteArray} {a b : Bool} (h : s = t) (h' : a = b) : Ending.returned (.tuple #[.string s, .bool a]) = .returned (.tuple #[.string t, .bool b]) := by rw [h, h']
theorem size_mk (l : List UInt8) : (⟨l.toArray⟩ : ByteArray).size = l.length := by simp [ByteArray.size]
/-- What Word answers. -/
def wordOut (l : List UInt8) : ByteArray := if word l then ⟨(l.map low).toArray⟩ else ⟨#[]⟩

theorem lex_isLabel_nil (w : World) : Calls Tryz.prog 21 #[.string ⟨#[]⟩] w fun e w' => e = .returned (.bool false) ∧ w = w' := by
  go_enter Tryz.func21, Tryz.ntmps21
  go_wp2_with fail
  go_ret
  exact ⟨rfl, rfl⟩
set_option maxHeartbeats 400000 in
theorem lex_isLabel (s : ByteArray) (w : World) (hs : s.size ≤ maxLen) :
    Calls Tryz.prog 21 #[.string s] w fun e w' => e = .returned (.bool (isLabel s.data.toList)) ∧ w = w' := by
  cases hl : s.data.toList with
  | nil =>
    have : s = ⟨#[]⟩ := by rw [← mk_data s, hl]
    subst this
    exact lex_isLabel_nil w
  | cons c r =>
    have hsz : 0 < s.size := by rw [← len_data, hl]; simp
    have hc : s[0] = c := by rw [← gl s 0 (by rw [hl]; simp)]; simp [hl]
    have hsp := spanEnd_all (nameCh false) s.data.toList
    rw [len_data] at hsp
    have hne : (s.toList == []) = false := by rw [ByteArray.toList_eq, hl]; rfl
    have hfin : isLabel s.data.toList = (letter c && s.data.toList.all (nameCh false)) := by rw [hl]; rfl
    rw [← hl, hfin, ← hsp, ← hc]
    have hs' := hs
    unfold maxLen at hs'
    clear hfin hc hsp hl
    cases hlt : letter s[0]
    all_goals
      go_enter Tryz.func21, Tryz.ntmps21
      go_wp2_with (first | (go_at_call 44; refine (lex_letter _ _).mono ?_; rintro e w' ⟨rfl, rfl⟩) | (go_at_call 45; refine (lex_nameEnd s 0 false _ hs (by decide)).mono ?_; rintro e w' ⟨rfl, rfl⟩))
      go_ret
      exact ⟨ret_bool (by rw [Bool.eq_iff_iff]; simp; try omega), rfl⟩

theorem lex_isMetric_nil (w : World) : Calls Tryz.prog 24 #[.string ⟨#[]⟩] w fun e w' => e = .returned (.bool false) ∧ w = w' := by
  go_enter Tryz.func24, Tryz.ntmps24
  go_wp2_with fail
  go_ret
  exact ⟨rfl, rfl⟩
set_option maxHeartbeats 400000 in
theorem lex_isMetric (s : ByteArray) (w : World) (hs : s.size ≤ maxLen) :
    Calls Tryz.prog 24 #[.string s] w fun e w' => e = .returned (.bool (isMetric s.data.toList)) ∧ w = w' := by
  cases hl : s.data.toList with
  | nil =>
    have : s = ⟨#[]⟩ := by rw [← mk_data s, hl]
    subst this
    exact lex_isMetric_nil w
  | cons c r =>
    have hsz : 0 < s.size := by rw [← len_data, hl]; simp
    have hc : s[0] = c := by rw [← gl s 0 (by rw [hl]; simp)]; simp [hl]
    have hsp := spanEnd_all (nameCh true) s.data.toList
    rw [len_data] at hsp
    have hne : (s.toList == []) = false := by rw [ByteArray.toList_eq, hl]; rfl
    have hfin : isMetric s.data.toList = (!digit c && s.data.toList.all (nameCh true)) := by rw [hl]; rfl
    rw [← hl, hfin, ← hsp, ← hc]
    have hs' := hs
    unfold maxLen at hs'
    clear hfin hc hsp hl
    cases hlt : digit s[0]
    all_goals
      go_enter Tryz.func24, Tryz.ntmps24
      go_wp2_with (first | (go_at_call 47; refine (lex_digit _ _).mono ?_; rintro e w' ⟨rfl, rfl⟩) | (go_at_call 45; refine (lex_nameEnd s 0 true _ hs (by decide)).mono ?_; rintro e w' ⟨rfl, rfl⟩))
      go_ret
      exact ⟨ret_bool (by rw [Bool.eq_iff_iff]; simp; try omega), rfl⟩


theorem Below.of_eq {w w' : World} (h : w = w') : Below w.heap.size w w' := by subst h; exact Below.refl _ _
set_option maxHeartbeats 1000000 in
theorem lex_word (s : ByteArray) (w : World) (hs : s.size ≤ maxLen) :
    Calls Tryz.prog 20 #[.string s] w fun e w' => e = .returned (.tuple #[.string (wordOut s.data.toList), .bool (word s.data.toList)]) ∧ Below w.heap.size w w' := by
  have hs' := hs
  unfold maxLen at hs'
  by_cases h12 : 12 < s.size
  · have hw : word s.data.toList = false := word_long (by rw [len_data]; exact h12)
    have hw2 : wordOut s.data.toList = ⟨#[]⟩ := by simp [wordOut, hw]
    rw [hw, hw2]
    clear hw hw2
    go_enter Tryz.func20, Tryz.ntmps20
    go_wp2_with fail
    go_ret2
    exact ⟨rfl, Below.refl _ _⟩
  · have hwo : wordOut s.data.toList = (if isKw (s.data.toList.map low) then ⟨(s.data.toList.map low).toArray⟩ else ⟨#[]⟩) := rfl
    have hw : word s.data.toList = isKw (s.data.toList.map low) := rfl
    go_enter Tryz.func20, Tryz.ntmps20
    have HO := Lib.hid hwo
    have HW := Lib.hid hw
    clear hwo hw
    go_wp2_with fail
    refine (lex_lower s _ hs).mono ?_
    rintro e w1 ⟨rfl, hb⟩
    generalize s.data.toList.map low = L at HO HW ⊢
    have HB := Lib.hid hb
    clear hb
    cases hk : isKw L
    · have hne : ∀ k, k ∈ kws → (L == k) = false := by
        intro k hkm
        cases hb : L == k
        · rfl
        · have : L = k := by simpa using hb
          subst this
          simp [isKw] at hk
          exact absurd hkm hk
      simp only [kws, List.mem_cons, List.not_mem_nil, or_false, forall_eq_or_imp, forall_eq] at hne
      obtain ⟨h1, h2, h3, h4, h5, h6, h7, h8, h9, h10, h11, h12, h13, h14, h15, h16, h17, h18, h19, h20, h21, h22, h23⟩ := hne
      have HK := Lib.hid hk
      clear hk
      go_wp2_with fail
      go_ret2
      exact ⟨ret_sb (by rw [HO.out, HK.out]; rfl) (by rw [HW.out, HK.out]), HB.out⟩
    · have hm : L ∈ kws := by simpa [isKw] using hk
      simp only [kws, List.mem_cons, List.not_mem_nil, or_false] at hm
      have HK := Lib.hid hk
      clear hk
      rcases hm with rfl | rfl | rfl | rfl | rfl | rfl | rfl | rfl | rfl | rfl | rfl | rfl | rfl | rfl | rfl | rfl | rfl | rfl | rfl | rfl | rfl | rfl | rfl
      all_goals
        go_wp2_with fail
        go_ret2
        exact ⟨ret_sb (by rw [HO.out, HK.out]; rfl) (by rw [HW.out, HK.out]), HB.out⟩
end Go.Proofs.YtpkeonafcldkhaaGreatDoor
