import Derived.Test.YtpkeonafcldkhaaGreatDoorUtfB
import Derived.Test.YtpkeonafcldkhaaGreatDoorPlC
/- utf: digits, escape, Unquote. -/
set_option linter.unusedVariables false
set_option linter.unusedSimpArgs false
namespace Go.Proofs.YtpkeonafcldkhaaGreatDoor
open Go.RowKit

theorem digI_some {c : UInt8} {d : Nat} (h : digVal c = some d) : digI c = d := by rw [digI, h]
theorem digI_none {c : UInt8} (h : digVal c = none) : digI c = -1 := by rw [digI, h]
theorem digVal_lt {c : UInt8} {d : Nat} (h : digVal c = some d) : d < 16 := by
  unfold digVal at h
  repeat' split at h
  all_goals simp at h
  all_goals omega

set_option maxRecDepth 100000 in
set_option maxHeartbeats 600000 in
theorem utf_digits (s : ByteArray) (x : Int) (n : Nat) (hx : x = (n : Int)) (b : Int) (base : Nat) (hb : b = (base : Int)) (w : World) (hs : s.size ≤ 281474976710656) (hn : n ≤ 8) (hbase : base = 8 ∨ base = 16) :
    Calls Tryz.prog 107 #[.string s, .int .i64 x, .int .i32 b] w fun e w' => e = .returned (.tuple #[.int .i32 (optN (digsB s.data.toList n base)), .bool (digsB s.data.toList n base).isSome]) ∧ Below w.heap.size w w' := by
  subst hx hb
  by_cases hl : s.size < n
  · have hT : digsB s.data.toList n base = none := by rw [digsB, if_pos (by rw [len_data]; exact hl)]
    rw [hT]
    go_enter Tryz.func107, Tryz.ntmps107
    go_wp2_with fail
    go_ret2
    exact ⟨rfl, Below.refl _ _⟩
  · obtain ⟨D, hD⟩ : ∃ D, D = s.data.toList.take n := ⟨_, rfl⟩
    have hDl : D.length = n := by rw [hD, List.length_take, len_data]; omega
    have hT : digsB s.data.toList n base = digsGoB base 0 D := by rw [digsB, if_neg (by rw [len_data]; exact hl), hD]
    rw [hT]
    generalize hT2 : digsGoB base 0 D = T
    have HX := Lib.hid hD
    have HD := Lib.hid hDl
    have HT := Lib.hid hT2
    have hb1 : 8 ≤ base ∧ base ≤ 16 := by omega
    obtain ⟨hb1, hb2⟩ := hb1
    clear hT hT2 hD hDl hbase
    go_enter Tryz.func107, Tryz.ntmps107
    go_wp2_with (with_reducible refine wpList_bytes_of_string rfl (.tmp 18) 9 40 5 rfl (s.extract 0 n) rfl Tryz.underlying9 Tryz.underlying40 Tryz.underlying5 ?_)
    intro cap w1 hcap hb0 hbel1 hsz1
    rw [← HX.out] at hb0
    have hmin : min n s.size = n := by omega
    rw [hmin] at hcap ⊢
    clear hmin
    go_wp2_with fail
    go_loop [8, 21] (fun v i => ∃ k vv : Nat, k ≤ n ∧ i = .int .i64 k ∧ v = .int .i32 vv ∧ vv ≤ 134217727 ∧ Hid (digsGoB base vv (D.drop k) = T)) (fun _ i => n - (intOf i).toNat)
    case atStart => exact ⟨0, 0, Nat.zero_le _, rfl, rfl, by omega, HT.out⟩
    case round =>
      obtain ⟨k, vv, hk, rfl, rfl, hvv, hT⟩ := hrel
      clear HX HT
      by_cases hlt : k < n
      · have hkD : k < D.length := by rw [HD.out]; exact hlt
        have hc := hb0.cell hkD
        have hcons : D.drop k = D[k] :: D.drop (k + 1) := List.drop_eq_getElem_cons hkD
        have hT2 := hT.out
        rw [hcons, digsGoB] at hT2
        clear hT
        generalize D[k] = c at hc hT2
        cases hd : digVal c with
        | none =>
          have hdi := digI_none hd
          rw [hd] at hT2
          have HT := Lib.hid hT2
          clear hT2 hd hcons hb0
          go_wp2_with (go_at_call 123; refine (utf_digit _ _).mono ?_; rintro e w' ⟨rfl, rfl⟩; rw [hdi])
          go_ret2
          exact ⟨by rw [← HT.out]; rfl, hbel1⟩
        | some d =>
          have hdi := digI_some hd
          have hd16 := digVal_lt hd
          rw [hd] at hT2
          simp only at hT2
          by_cases hdb : d < base ∧ vv ≤ 8388607
          · rw [if_pos hdb] at hT2
            obtain ⟨hdb1, hdb2⟩ := hdb
            have hmul : vv * base ≤ 8388607 * 16 := Nat.mul_le_mul hdb2 hb2
            have hcast : ((vv * base : Nat) : Int) = (vv : Int) * (base : Int) := by simp
            have hmul2 : (vv : Int) * (base : Int) ≤ 134217712 := by omega
            have hmul3 : 0 ≤ (vv : Int) * (base : Int) := by omega
            have HC := Lib.hid hcast
            have HM := Lib.hid hmul
            have HT := Lib.hid hT2
            clear hT2 hd hcons hb0 hcast hmul
            go_wp2_with (go_at_call 123; refine (utf_digit _ _).mono ?_; rintro e w' ⟨rfl, rfl⟩; rw [hdi])
            have hm := HM.out
            have hc2 := HC.out
            go_round
            case rel => exact ⟨k + 1, vv * base + d, by omega, by go_num, by rw [Int.natCast_add, hc2], by omega, HT.out⟩
            case measure => simp [intOf]; omega
          · rw [if_neg hdb] at hT2
            have HT := Lib.hid hT2
            have hdb' : base ≤ d ∨ (d < base ∧ 8388607 < vv) := by omega
            clear hT2 hd hcons hb0 hdb
            rcases hdb' with h | ⟨h, h2⟩
            all_goals
              go_wp2_with (go_at_call 123; refine (utf_digit _ _).mono ?_; rintro e w' ⟨rfl, rfl⟩; rw [hdi])
              go_ret2
              exact ⟨by rw [← HT.out]; rfl, hbel1⟩
      · have hT2 := hT.out
        rw [List.drop_eq_nil_of_le (by rw [HD.out]; omega)] at hT2
        have HT := Lib.hid hT2
        clear hT2 hT hb0
        go_wp2_with fail
        go_ret2
        exact ⟨by rw [← HT.out]; rfl, hbel1⟩
end Go.Proofs.YtpkeonafcldkhaaGreatDoor
