import Derived.Test.YtpkeonafcldkhaaGreatDoorSpanA
/- span: a unit, a duration. -/
set_option linter.unusedVariables false
set_option linter.unusedSimpArgs false
namespace Go.Proofs.YtpkeonafcldkhaaGreatDoor
open Go.RowKit

/-- What a function that answers two numbers and only draws leaves. -/
def Two (w : World) (r : Nat × Nat) (e : Ending) (w' : World) : Prop := e = .returned (.tuple #[.int .i64 (r.1 : Nat), .int .i64 (r.2 : Nat)]) ∧ Below w.heap.size w w'
theorem unitAt_out {l : List UInt8} {i : Nat} (h : l.length ≤ i) : unitAt l i = (7, i) := by rw [unitAt, if_pos h]
theorem unitAt_ms {l : List UInt8} {i : Nat} (h : i + 1 < l.length) (h1 : atB l i = 109) (h2 : atB l (i + 1) = 115) : unitAt l i = (6, i + 2) := by
  rw [unitAt, if_neg (by omega), if_pos ⟨h1, h, h2⟩]
theorem unitAt_hit {l : List UInt8} {i k : Nat} (h : i < l.length) (hn : ¬ (atB l i = 109 ∧ i + 1 < l.length ∧ atB l (i + 1) = 115)) (hk : k < 6) (hh : uLet k = atB l i) : unitAt l i = (k, i + 1) := by
  rw [unitAt, if_neg (by omega), if_neg hn, uOf_hit hk hh, if_neg (by omega)]
theorem unitAt_miss {l : List UInt8} {i : Nat} (h : i < l.length) (hn : ¬ (atB l i = 109 ∧ i + 1 < l.length ∧ atB l (i + 1) = 115)) (hh : ∀ k, k < 6 → uLet k ≠ atB l i) : unitAt l i = (7, i) := by
  rw [unitAt, if_neg (by omega), if_neg hn, uOf_miss hh, if_pos rfl]
theorem span_unitAt_loop (s : ByteArray) (x : Int) (i : Nat) (hx : x = (i : Int)) (w : World) (hs : s.size ≤ 281474976710656) (hi : i < s.size) (hn : ¬ (atB s.data.toList i = 109 ∧ i + 1 < s.data.toList.length ∧ atB s.data.toList (i + 1) = 115))
    (hb : (((s[i].toNat : Int) == 109) = false) ∨ (((s[i].toNat : Int) == 109) = true ∧ ((i : Int) + 1 < s.size) = False) ∨ (∃ h : i + 1 < s.size, ((s[i].toNat : Int) == 109) = true ∧ ((s[i+1].toNat : Int) == 115) = false)) :
    Calls Tryz.prog 117 #[.string s, .int .i64 x] w (Two w (unitAt s.data.toList i)) := by
  subst hx
  have HN := Lib.hid hn
  clear hn
  go_enter Tryz.func117, Tryz.ntmps117
  have hi2 : ((i : Int) < (s.size : Int)) = True := by simp; omega
  rcases hb with hb | ⟨hb, hb2⟩ | ⟨h, hb, hb2⟩
  all_goals
    go_wp2_with fail
    go_loopw [6] (fun t wr => ∃ k : Nat, k ≤ 6 ∧ t = .int .i64 k ∧ Below w.heap.size w wr ∧ Hid (∀ j, j < k → uLet j ≠ s[i])) (fun t _ => 6 - (intOf t).toNat)
    case atStart => exact ⟨0, by omega, rfl, Below.refl _ _, fun j hj => absurd hj (by omega)⟩
    case round =>
      obtain ⟨k, hk, rfl, hbel, hmiss⟩ := hrel
      by_cases hlt : k < 6
      · go_wp2_with fail
        go_quiet ((go_at_call 129; exact Calls.quiet_of_same ((span_name _ k rfl hlt _).mono fun _ _ ⟨h1, h2⟩ => ⟨h1, h2.symm⟩)))
        have hbel2 := below_drewN hbel nq
        clear hbel
        generalize wr.drewN nq = w2 at hbel2 ⊢
        have HM := Lib.hid hmiss.out
        clear hmiss
        have hel : (⟨#[uLet k]⟩ : ByteArray)[0]'(by simp [ByteArray.size]) = uLet k := rfl
        cases hq : ((((⟨#[uLet k]⟩ : ByteArray)[0]'(by simp [ByteArray.size])).toNat : Int) == (s[i].toNat : Int))
        · have hm2 : ∀ j, j < k + 1 → uLet j ≠ s[i] := by
            intro j hj
            by_cases hjk : j < k
            · exact HM.out j hjk
            · have : j = k := by omega
              subst this
              intro he
              rw [hel, he] at hq
              simp at hq
          have HM2 := Lib.hid hm2
          clear hm2
          go_wp2_with fail
          go_roundw
          case rel => exact ⟨k + 1, by omega, by go_num, hbel2, HM2.out⟩
          case measure => simp [intOf]; omega
        · have hu : uLet k = s[i] := by
            rw [hel] at hq
            have h1 : ((uLet k).toNat : Int) = (s[i].toNat : Int) := by simpa using hq
            exact UInt8.toNat_inj.1 (by omega)
          have hE := unitAt_hit (l := s.data.toList) (by rw [len_data]; exact hi) HN.out hlt (by rw [atB_lt hi]; exact hu)
          have HE := Lib.hid hE
          clear hE hu
          go_wp2_with fail
          go_ret2
          exact ⟨by rw [HE.out]; rfl, hbel2⟩
      · obtain rfl : k = 6 := by omega
        have hE := unitAt_miss (l := s.data.toList) (by rw [len_data]; exact hi) HN.out (by rw [atB_lt hi]; intro j hj; exact hmiss.out j (by omega))
        have HE := Lib.hid hE
        clear hE hmiss
        go_wp2_with fail
        go_ret2
        exact ⟨by rw [HE.out]; rfl, hbel⟩
theorem span_unitAt (s : ByteArray) (x : Int) (i : Nat) (hx : x = (i : Int)) (w : World) (hs : s.size ≤ 281474976710656) (hi : i ≤ 281474976710656) :
    Calls Tryz.prog 117 #[.string s, .int .i64 x] w (Two w (unitAt s.data.toList i)) := by
  by_cases ho : s.size ≤ i
  · have hE := unitAt_out (l := s.data.toList) (i := i) (by rw [len_data]; exact ho)
    have HE := Lib.hid hE
    clear hE
    subst hx
    go_enter Tryz.func117, Tryz.ntmps117
    go_wp2_with fail
    go_ret2
    exact ⟨by rw [HE.out]; rfl, Below.refl _ _⟩
  · have hlt : i < s.size := by omega
    cases h1 : ((s[i].toNat : Int) == 109)
    · exact span_unitAt_loop s x i hx w hs hlt (by rw [atB_lt hlt]; rintro ⟨h, _⟩; rw [h] at h1; simp at h1) (.inl h1)
    · by_cases h2 : i + 1 < s.size
      · cases h3 : ((s[i+1].toNat : Int) == 115)
        · exact span_unitAt_loop s x i hx w hs hlt (by rw [atB_lt h2]; rintro ⟨_, _, h⟩; rw [h] at h3; simp at h3) (.inr (.inr ⟨h2, h1, h3⟩))
        · have e1 : atB s.data.toList i = 109 := by rw [atB_lt hlt]; exact litT (n := 109) (by omega) rfl h1
          have e2 : atB s.data.toList (i + 1) = 115 := by rw [atB_lt h2]; exact litT (n := 115) (by omega) rfl h3
          have hE := unitAt_ms (l := s.data.toList) (i := i) (by rw [len_data]; exact h2) e1 e2
          clear e1 e2
          have HE := Lib.hid hE
          clear hE
          subst hx
          go_enter Tryz.func117, Tryz.ntmps117
          have hi2 : ((i : Int) < (s.size : Int)) = True := by simp; omega
          have hi3 : ((i : Int) + 1 < (s.size : Int)) = True := by simp; omega
          go_wp2_with fail
          go_ret2
          exact ⟨by rw [HE.out]; rfl, Below.refl _ _⟩
      · exact span_unitAt_loop s x i hx w hs hlt (by rw [len_data]; omega) (.inr (.inl ⟨h1, by simp; omega⟩))
end Go.Proofs.YtpkeonafcldkhaaGreatDoor
