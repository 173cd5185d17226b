import Derived.Test.YtpkeonafcldkhaaGreatDoorUtfA
import Derived.Test.YtpkeonafcldkhaaGreatDoorPlD
import Derived.Deep.QuietTactic
import Derived.BigQuiet
/- span: units and runs of digits. -/
set_option linter.unusedVariables false
set_option linter.unusedSimpArgs false
namespace Go.Proofs.YtpkeonafcldkhaaGreatDoor
open Go.RowKit

theorem span_digit (c : UInt8) (w : World) :
    Calls Tryz.prog 128 #[.int .u8 (c.toNat : Int)] w fun e w' => e = .returned (.bool (digit c)) ∧ w = w' := by
  go_enter Tryz.func128, Tryz.ntmps128
  go_wp2
  all_goals (go_ret; exact ⟨ret_bool (by rw [Bool.eq_iff_iff]; simp [digit]; omega), rfl⟩)
set_option maxRecDepth 100000 in
theorem span_run (s : ByteArray) (x : Int) (i : Nat) (hx : x = (i : Int)) (w : World) (hs : s.size ≤ 281474976710656) (hi : i ≤ 281474976710656) :
    Calls Tryz.prog 116 #[.string s, .int .i64 x] w fun e w' => e = .returned (.int .i64 (spanEnd digit s.data.toList i : Nat)) ∧ w = w' := by
  subst hx
  go_enter Tryz.func116, Tryz.ntmps116
  go_wp2_with fail
  go_loop [1] (fun t => ∃ k : Nat, k ≤ 562949953421312 ∧ t = .int .i64 k ∧ Hid (spanEnd digit s.data.toList k = spanEnd digit s.data.toList i)) (fun t => s.size - (intOf t).toNat)
  case atStart => exact ⟨i, by omega, rfl, rfl⟩
  case round =>
    obtain ⟨k, hk, rfl, hsp⟩ := hrel
    by_cases hlt : k < s.size
    · cases hd : digit s[k]
      all_goals
        go_wp2_with (go_at_call 128; refine (span_digit _ _).mono ?_; rintro e w' ⟨rfl, rfl⟩)
      · go_ret
        exact ⟨ret_int (by rw [← hsp.out, spanEnd_stopB hlt hd]), rfl⟩
      · go_round
        case rel => exact ⟨k + 1, by omega, by go_num, (spanEnd_stepB hlt hd).trans hsp.out⟩
        case measure => simp [intOf]; omega
    · go_wp2_with fail
      go_ret
      exact ⟨ret_int (by rw [← hsp.out, spanEnd_end (by simpa using hlt)]), rfl⟩
theorem span_name (x : Int) (k : Nat) (hx : x = (k : Int)) (hk : k < 6) (w : World) :
    Calls Tryz.prog 129 #[.int .i64 x] w fun e w' => e = .returned (.string ⟨#[uLet k]⟩) ∧ w = w' := by
  subst hx
  match k, hk with
  | 0, _ | 1, _ | 2, _ | 3, _ | 4, _ | 5, _ =>
    go_enter Tryz.func129, Tryz.ntmps129
    go_wp2_with fail
    go_ret
    exact ⟨rfl, rfl⟩
theorem span_size (x : Int) (u : Nat) (hx : x = (u : Int)) (hu : u ≤ 6) (w : World) :
    Calls Tryz.prog 119 #[.int .i64 x] w fun e w' => e = .returned (.int .i64 (uSize u : Nat)) ∧ w = w' := by
  subst hx
  match u, hu with
  | 0, _ | 1, _ | 2, _ | 3, _ | 4, _ | 5, _ | 6, _ =>
    go_enter Tryz.func119, Tryz.ntmps119
    go_wp2_with fail
    go_ret
    exact ⟨rfl, rfl⟩
set_option maxRecDepth 100000 in
set_option maxHeartbeats 400000 in
theorem span_saturated (s : ByteArray) (w : World) (hs : s.size ≤ 281474976710656) (hd : ∀ k (h : k < s.size), 48 ≤ s[k].toNat ∧ s[k].toNat ≤ 57) :
    Calls Tryz.prog 118 #[.string s] w fun e w' => e = .returned (.int .i64 (sat s.data.toList : Nat)) ∧ w = w' := by
  have HD := Lib.hid hd
  clear hd
  go_enter Tryz.func118, Tryz.ntmps118
  go_wp2_with fail
  go_loop [3, 4] (fun v i => ∃ k n : Nat, k ≤ s.size ∧ i = .int .i64 k ∧ v = .int .i64 n ∧ (n : Int) ≤ 315360000000001 ∧ Hid (satGo n (s.data.toList.drop k) = sat s.data.toList)) (fun _ i => s.size - (intOf i).toNat)
  case atStart => exact ⟨0, 0, Nat.zero_le _, by go_num, by go_num, by omega, Lib.hid (by rw [List.drop_zero, sat])⟩
  case round =>
    obtain ⟨k, n, hk, rfl, rfl, hn, hsp⟩ := hrel
    by_cases hlt : k < s.size
    · have hst : satGo (satStep n s[k]) (s.data.toList.drop (k + 1)) = sat s.data.toList := by
        have h1 := drop_at (l := s.data.toList) (i := k) (by rw [len_data]; exact hlt)
        rw [atB_lt hlt] at h1
        exact (satGo_cons _ _ _).symm.trans ((congrArg (satGo n) h1).symm.trans hsp.out)
      rw [satStep] at hst
      obtain ⟨h1, h2⟩ := HD.out k hlt
      clear hsp
      by_cases hb : (315360000000001 : Int) < (n : Int) * 10 + ((s[k].toNat : Int) - 48)
      · rw [Nat.min_eq_right (by omega)] at hst
        have HS := Lib.hid hst
        have hB : ((315360000000001 : Int) < (n : Int) * 10 + ((s[k].toNat : Int) - 48)) = True := by simp [hb]
        clear hst hb
        go_wp2_with fail
        go_round
        case rel => exact ⟨k + 1, 315360000000001, by omega, by go_num, by go_num, by omega, HS.out⟩
        case measure => simp [intOf]; omega
      · rw [Nat.min_eq_left (by omega)] at hst
        have HS := Lib.hid hst
        have hB : ((315360000000001 : Int) < (n : Int) * 10 + ((s[k].toNat : Int) - 48)) = False := by simp [hb]
        clear hst
        go_wp2_with fail
        go_round
        case rel => exact ⟨k + 1, n * 10 + (s[k].toNat - 48), by omega, by go_num, by go_num, by omega, HS.out⟩
        case measure => simp [intOf]; omega
    · have hst : sat s.data.toList = n := by rw [← hsp.out, List.drop_eq_nil_of_le (by rw [len_data]; omega)]; rfl
      have HS := Lib.hid hst
      clear hst hsp
      go_wp2_with fail
      go_ret
      exact ⟨ret_int (by rw [HS.out]), rfl⟩
end Go.Proofs.YtpkeonafcldkhaaGreatDoor
