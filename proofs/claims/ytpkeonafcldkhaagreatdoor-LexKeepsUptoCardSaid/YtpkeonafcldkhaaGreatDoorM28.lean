import Derived.Test.YtpkeonafcldkhaaGreatDoorM27
import Derived.Test.YtpkeonafcldkhaaGreatDoorM05
/- strconv: readFloat at a hexadecimal lexeme. -/
set_option linter.unusedVariables false
set_option linter.unusedSimpArgs false
namespace Go.Proofs.YtpkeonafcldkhaaGreatDoor
open Go.RowKit

theorem ret7x {M X X' z z' : Int} {tr : Bool} (h : X = X') (hz : z = z') : Ending.returned (.tuple #[.int .u64 M, .int .i64 X, .bool false, .bool tr, .bool true, .int .i64 z, .bool true]) = .returned (.tuple #[.int .u64 M, .int .i64 X', .bool false, .bool tr, .bool true, .int .i64 z', .bool true]) := by rw [h, hz]
def HexRel (m k : Nat) (P : Int) (dg : Bool) : Prop := 2 ≤ k ∧ k ≤ m ∧ -(k : Int) ≤ P ∧ P ≤ 0 ∧ (2 < k → dg = true)
def hexExp (M N D : Nat) : Int := if M ≠ 0 then 4 * (D : Int) - 4 * (N : Int) else 0
theorem hex_zero {M N D : Nat} (h : M = 0) : hexExp M N D = 0 := by rw [hexExp, if_neg (by simpa using h)]
theorem hex_close {M N D : Nat} (hM : M ≠ 0) (h : N ≤ 16 ∧ D ≤ 1000) : wrap64 (wrap64 (wrap64 ((D : Int) * 4)) - wrap64 ((N : Int) * 4)) = hexExp M N D := by
  rw [hexExp, if_pos hM]; unfold wrap64; omega
theorem mulx {M v : Nat} (h : M < 1152921504606846976) (hv : v < 16) : IntKind.u64.wrap ((M : Int) * 16) = ((M * 16 : Nat) : Int) ∧ IntKind.u64.wrap (((M * 16 : Nat) : Int) + (v : Int)) = ((M * 16 + v : Nat) : Int) := by
  constructor <;> (rw [IntKind.wrap_u64]; omega)
set_option maxRecDepth 100000 in
set_option maxHeartbeats 8000000 in
theorem fp_readFloat_hex (s : ByteArray) (w : World) (m : Nat) (hs : s.size ≤ 1000) (hm3 : 3 ≤ m) (hmz : m + 1 < s.size) (hx0 : s[0].toNat = 48) (hx1 : (s[1].toNat ||| 32) = 120) (hm : HexOk s.data.toList m) (hp1 : s[m].toNat = 112) (hp2 : s[m+1].toNat = 48) (hsz : s.size = m + 2)
    (M N D : Nat) (tr : Bool) (hr : rxAt s.data.toList m = ⟨M, N, D, tr⟩) :
    Calls Tryz.prog 143 #[.string s] w fun e w' => e = .returned (.tuple #[.int .u64 (M : Int), .int .i64 (hexExp M N D), .bool false, .bool tr, .bool true, .int .i64 (s.size : Int), .bool true]) ∧ w = w' := by
  have HSZ := Lib.hid hsz
  clear hsz
  have h2s : 2 < s.size := by omega
  have e43 : ((s[0].toNat : Int) == 43) = false := by rw [hx0]; rfl
  have e45 : ((s[0].toNat : Int) == 45) = false := by rw [hx0]; rfl
  have z1 : (s = ByteArray.empty) = False := by
    apply eq_false
    intro h; rw [h] at h2s; simp at h2s
  have HM := Lib.hid hm
  have HR := Lib.hid hr
  have HP1 := Lib.hid hp1
  have HP2 := Lib.hid hp2
  have HX1 := Lib.hid hx1
  have HX0 := Lib.hid hx0
  clear hm hr hp1 hp2 hx1 hx0
  go_enter Tryz.func143, Tryz.ntmps143
  go_wp2_with fail
  go_step3
  go_upto_region 12 with fail
  go_cut [54] from 36 to 54 (fun c wx => c = .bool true ∧ wx = w)
  case first =>
    have q1 : ((2 : Int) < (s.size : Int)) = True := by simp; omega
    have e48 : ((s[0].toNat : Int) == 48) = true := by rw [HX0.out]; rfl
    have e120 : (bits .or .u8 ((s[1].toNat : Nat) : Int) 32 == 120) = true := by
      rw [show bits .or .u8 ((s[1].toNat : Nat) : Int) 32 = ((s[1].toNat ||| 32 : Nat) : Int) from u8_or_nat s[1].toNat 32 (UInt8.toNat_lt _) (by omega), HX1.out]; rfl
    go_wp2_with fail
    refine (Tryz.internal_strconv_lower _ _).mono ?_
    rintro e w' ⟨rfl, rfl⟩
    go_wp2_with fail
    go_meet
    exact ⟨rfl, rfl⟩
  case rest =>
    obtain ⟨rfl, rfl⟩ := hcut
    go_wp2_with fail
    go_step3
    go_wp2_with fail
    go_loop [2, 5, 7, 9, 13, 14, 15, 16, 17] (fun t2 t5 t7 t9 t13 t14 t15 t16 t17 => ∃ (k M N D : Nat) (P : Int) (dg tr : Bool), Hid (rxAt s.data.toList k = ⟨M, N, D, tr⟩) ∧ Hid (HexRel m k P dg) ∧ t2 = .int .u64 (M : Int) ∧ t5 = .bool tr ∧ t7 = .int .i64 (k : Int) ∧ t9 = .bool false ∧ t13 = .bool false ∧ t14 = .bool dg ∧ t15 = .int .i64 (D : Int) ∧ t16 = .int .i64 (N : Int) ∧ t17 = .int .i64 P) (fun t2 t5 t7 t9 t13 t14 t15 t16 t17 => s.size - (intOf t7).toNat)
    case atStart => exact ⟨2, 0, 0, 0, 0, false, false, Lib.hid (rxAt_two _), Lib.hid ⟨Nat.le_refl _, by omega, by omega, by omega, by omega⟩, rfl, rfl, rfl, rfl, rfl, rfl, rfl, rfl, rfl⟩
    case round =>
      obtain ⟨k, M1, N1, D1, P1, dg1, tr1, hst, hkb, rfl, rfl, rfl, rfl, rfl, rfl, rfl, rfl, rfl⟩ := hrel
      obtain ⟨k2, hkm, p1b, p2b, hdg⟩ := hkb.out
      have hok := rxAt_ok HM.out k k2 hkm
      rw [hst.out] at hok
      have n123 := hok.ndm
      have n4 := hok.mant
      simp only at n123 n4
      have H4 := Lib.hid n4
      clear n4 hok
      by_cases hlt : k < m
      · have hks : k < s.size := by omega
        have hat : atB s.data.toList k = s[k] := atB_lt hks
        have q1 : ((k : Int) < (s.size : Int)) = True := by simp; omega
        have hcl := HM.out.2 k k2 hlt
        rw [hat] at hcl
        have p10 : N1 < 16 → M1 < 1152921504606846976 := fun h => Nat.lt_of_lt_of_le H4.out (Nat.pow_le_pow_right (n := 16) (by omega) (show N1 ≤ 15 by omega))
        have HP10 := Lib.hid p10
        have HAT := Lib.hid hat
        have HHX := Lib.hid hcl
        have HKL := Lib.hid (show ¬ (s.data.toList.length ≤ k) by rw [len_data]; omega)
        have HN3 := Lib.hid n123
        have HK2 := Lib.hid k2
        have HK : Hid (HexRel m (k + 1) P1 true) := Lib.hid ⟨by omega, by omega, by omega, by omega, fun _ => rfl⟩
        have HK0 : Hid (HexRel m (k + 1) (P1 - 1) true) := Lib.hid ⟨by omega, by omega, by omega, by omega, fun _ => rfl⟩
        have hP1 : -1000 ≤ P1 ∧ P1 ≤ 0 := by omega
        have hK1 : k < 1000 := by omega
        have hlt16 := hexV_lt _ hcl
        have hD1 : N1 ≤ 16 ∧ D1 ≤ 1000 := by omega
        clear p10 hat n123 k2 p1b p2b hdg
        cases hd : digit s[k]
        · -- a letter
          have hlow := hexd_low _ HHX.out hd
          obtain ⟨L, hL⟩ : ∃ L, L = (s[k].toNat ||| 32) := ⟨_, rfl⟩
          have hv : hexV s[k] = L - 87 := by
            rw [hL]
            have h1 : hexV s[k] = (s[k].toNat ||| 32) - 87 := by unfold hexV; rw [hd, if_neg (by simp)]
            exact h1
          have hlow : 97 ≤ L ∧ L ≤ 102 := by rw [hL]; exact hlow
          have o1 : bits .or .u8 (s[k].toNat : Int) 32 = (L : Int) := by rw [hL]; exact u8_or_nat s[k].toNat 32 (UInt8.toNat_lt _) (by omega)
          have hd2 : digit (atB s.data.toList k) = false := by rw [HAT.out]; exact hd
          have hx2 : hexd (atB s.data.toList k) = true := by rw [HAT.out]; exact HHX.out
          have hln : (atB s.data.toList k).toNat = s[k].toNat := congrArg UInt8.toNat HAT.out
          have hrng : (97 ≤ (atB s.data.toList k).toNat ∧ (atB s.data.toList k).toNat ≤ 102) ∨ (65 ≤ (atB s.data.toList k).toNat ∧ (atB s.data.toList k).toNat ≤ 70) := by
            simpa [hexd, hd2] using hx2
          have hc65 : 65 ≤ s[k].toNat := by omega
          have e95 : ((s[k].toNat : Int) == 95) = false := by simp; omega
          have e46 : ((s[k].toNat : Int) == 46) = false := by simp; omega
          have g1 : ∀ [inst : Decidable ((48 : Int) ≤ (s[k].toNat : Int))], @decide _ inst = true := fun {inst} => decide_eq_true (by omega)
          have g2 : ∀ [inst : Decidable ((s[k].toNat : Int) ≤ 57)], @decide _ inst = false := fun {inst} => decide_eq_false (by omega)
          have g3 : ∀ [inst : Decidable ((97 : Int) ≤ (L : Int))], @decide _ inst = true := fun {inst} => decide_eq_true (by omega)
          have g4 : ∀ [inst : Decidable ((L : Int) ≤ 102)], @decide _ inst = true := fun {inst} => decide_eq_true (by omega)
          have HV := Lib.hid hv
          have HLW := Lib.hid hlow
          have hc48 : s[k].toNat ≠ 48 := by omega
          by_cases hn : N1 < 16
          · have e16 : ((N1 : Int) < 16) = True := by simp; omega
            have hvv : hexV (atB s.data.toList k) = L - 87 := by rw [HAT.out]; exact hv
            have hN := rx_in hst.out HK2.out (Nat.lt_of_not_le HKL.out) (by omega) hn
            rw [hvv] at hN
            have HN := Lib.hid hN
            obtain ⟨mx1, mx2⟩ := mulx (HP10.out hn) (show L - 87 < 16 by omega)
            have u1 : IntKind.u8.wrap (IntKind.u8.wrap ((L : Int) - 97) + 10) = ((L - 87 : Nat) : Int) := by rw [IntKind.wrap_u8, IntKind.wrap_u8]; omega
            clear hN hvv hd2 hx2 hln hrng hv hlow hc65 hcl hlt16 hc48 hL
            go_wp2_with fail
            all_goals first
              | (exfalso; omega)
              | (refine (Tryz.internal_strconv_lower _ _).mono ?_; rintro e w' ⟨rfl, rfl⟩; rw [o1]; go_wp2_with fail)
            all_goals first
              | (exfalso; omega)
              | (refine (Tryz.internal_strconv_lower _ _).mono ?_; rintro e w' ⟨rfl, rfl⟩; rw [o1]; go_wp2_with fail)
            all_goals first
              | (exfalso; omega)
              | (refine (Tryz.internal_strconv_lower _ _).mono ?_; rintro e w' ⟨rfl, rfl⟩; rw [o1]; go_wp2_with fail)
            all_goals first
              | (exfalso; omega)
              | (go_round; (case rel => exact ⟨k + 1, M1 * 16 + (L - 87), N1 + 1, D1 + 1, P1, true, tr1, HN, HK, (vi (by first | rfl | omega | (have hbb := HP10.out hn; have hll := HLW.out; simp only [IntKind.wrap_u64, IntKind.wrap_u8]; omega))), rfl, (vi (by first | rfl | omega)), rfl, rfl, rfl, (vi (by first | rfl | omega | (simp only [wrap64]; omega))), (vi (by first | rfl | omega | (simp only [wrap64]; omega))), rfl⟩); (case measure => simp [intOf]; omega))
          · have e16 : ((N1 : Int) < 16) = False := by simp; omega
            have hN := rx_out1 hst.out HK2.out (Nat.lt_of_not_le HKL.out) (by omega) hn
            have HN := Lib.hid hN
            clear hN hd2 hx2 hln hrng hv hlow hc65 hcl hlt16 hc48 hL
            go_wp2_with fail
            all_goals first
              | (exfalso; omega)
              | (refine (Tryz.internal_strconv_lower _ _).mono ?_; rintro e w' ⟨rfl, rfl⟩; rw [o1]; go_wp2_with fail)
            all_goals first
              | (exfalso; omega)
              | (refine (Tryz.internal_strconv_lower _ _).mono ?_; rintro e w' ⟨rfl, rfl⟩; rw [o1]; go_wp2_with fail)
            all_goals first
              | (exfalso; omega)
              | (go_round; (case rel => exact ⟨k + 1, M1, N1, D1 + 1, P1, true, true, HN, HK, (vi (by first | rfl | omega | (have hbb := HP10.out hn; have hll := HLW.out; simp only [IntKind.wrap_u64, IntKind.wrap_u8]; omega))), rfl, (vi (by first | rfl | omega)), rfl, rfl, rfl, (vi (by first | rfl | omega | (simp only [wrap64]; omega))), (vi (by first | rfl | omega | (simp only [wrap64]; omega))), rfl⟩); (case measure => simp [intOf]; omega))
        · -- a digit
          have hdf := digit_fits hd
          have hd2 : digit (atB s.data.toList k) = true := by rw [HAT.out]; exact hd
          have hln : (atB s.data.toList k).toNat = s[k].toNat := congrArg UInt8.toNat HAT.out
          have hvv : hexV (atB s.data.toList k) = s[k].toNat - 48 := by unfold hexV; rw [if_pos hd2, hln]
          have e95 : ((s[k].toNat : Int) == 95) = false := by simp; omega
          have e46 : ((s[k].toNat : Int) == 46) = false := by simp; omega
          have g1 : ∀ [inst : Decidable ((48 : Int) ≤ (s[k].toNat : Int))], @decide _ inst = true := fun {inst} => decide_eq_true (by omega)
          have g2 : ∀ [inst : Decidable ((s[k].toNat : Int) ≤ 57)], @decide _ inst = true := fun {inst} => decide_eq_true (by omega)
          by_cases hz : s[k].toNat = 48 ∧ D1 = 0
          · obtain ⟨hz1, rfl⟩ := hz
            have e48 : ((s[k].toNat : Int) == 48) = true := by rw [hz1]; rfl
            have HN := Lib.hid (rx_same hst.out HK2.out (Nat.lt_of_not_le HKL.out) (by omega) rfl)
            clear hvv hd2 hln hcl hlt16
            go_wp2_with fail
            all_goals first
              | (exfalso; first | omega | (have := eqT e48; omega) | (have := neT e48; omega))
              | (go_round; (case rel => exact ⟨k + 1, M1, N1, 0, P1 - 1, true, tr1, HN, HK0, (vi (by first | rfl | omega)), rfl, (vi (by first | rfl | omega)), rfl, rfl, rfl, (vi (by first | rfl | omega | (simp only [wrap64]; omega))), (vi (by first | rfl | omega | (simp only [wrap64]; omega))), (vi (by first | rfl | omega | (simp only [wrap64]; omega)))⟩); (case measure => simp [intOf]; omega))
          · by_cases hn : N1 < 16
            · have e16 : ((N1 : Int) < 16) = True := by simp; omega
              have hN := rx_in hst.out HK2.out (Nat.lt_of_not_le HKL.out) (by omega) hn
              rw [hvv] at hN
              have HN := Lib.hid hN
              clear hN hvv hd2 hln hcl hlt16
              cases e48 : ((s[k].toNat : Int) == 48)
              all_goals
                go_wp2_with fail
                all_goals first
                  | (exfalso; first | omega | (have := eqT e48; omega) | (have := neT e48; omega))
                  | (go_round; (case rel => exact ⟨k + 1, M1 * 16 + (s[k].toNat - 48), N1 + 1, D1 + 1, P1, true, tr1, HN, HK, (vi (by first | rfl | omega | (have hbb := HP10.out hn; simp only [IntKind.wrap_u64, IntKind.wrap_u8]; omega))), rfl, (vi (by first | rfl | omega)), rfl, rfl, rfl, (vi (by first | rfl | omega | (simp only [wrap64]; omega))), (vi (by first | rfl | omega | (simp only [wrap64]; omega))), (vi (by first | rfl | omega | (simp only [wrap64]; omega)))⟩); (case measure => simp [intOf]; omega))
            · have e16 : ((N1 : Int) < 16) = False := by simp; omega
              by_cases h48 : s[k].toNat = 48
              · have HN := Lib.hid (rx_out0 hst.out HK2.out (Nat.lt_of_not_le HKL.out) (by omega) (by omega) hn)
                have e48 : ((s[k].toNat : Int) == 48) = true := by rw [h48]; rfl
                clear hvv hd2 hln hcl hlt16
                go_wp2_with fail
                all_goals first
                  | (exfalso; first | omega | (have := eqT e48; omega) | (have := neT e48; omega))
                  | (go_round; (case rel => exact ⟨k + 1, M1, N1, D1 + 1, P1, true, tr1, HN, HK, (vi (by first | rfl | omega)), rfl, (vi (by first | rfl | omega)), rfl, rfl, rfl, (vi (by first | rfl | omega | (simp only [wrap64]; omega))), (vi (by first | rfl | omega | (simp only [wrap64]; omega))), (vi (by first | rfl | omega | (simp only [wrap64]; omega)))⟩); (case measure => simp [intOf]; omega))
              · have HN := Lib.hid (rx_out1 hst.out HK2.out (Nat.lt_of_not_le HKL.out) (by omega) hn)
                have e48 : ((s[k].toNat : Int) == 48) = false := by simp; exact fun h => h48 (by omega)
                clear hvv hd2 hln hcl hlt16
                go_wp2_with fail
                all_goals first
                  | (exfalso; first | omega | (have := eqT e48; omega) | (have := neT e48; omega))
                  | (go_round; (case rel => exact ⟨k + 1, M1, N1, D1 + 1, P1, true, true, HN, HK, (vi (by first | rfl | omega)), rfl, (vi (by first | rfl | omega)), rfl, rfl, rfl, (vi (by first | rfl | omega | (simp only [wrap64]; omega))), (vi (by first | rfl | omega | (simp only [wrap64]; omega))), (vi (by first | rfl | omega | (simp only [wrap64]; omega)))⟩); (case measure => simp [intOf]; omega))
      · have hkeq : k = m := by omega
        subst hkeq
        have hfin := hst.out
        rw [HR.out] at hfin
        injection hfin with i1 i2 i3 i4
        subst i1 i2 i3 i4
        have hdt : dg1 = true := hdg (by omega)
        subst hdt
        have hks : k < s.size := by omega
        have q1 : ((k : Int) < (s.size : Int)) = True := by simp; omega
        have hc := HP1.out
        have e95 : ((s[k].toNat : Int) == 95) = false := by rw [hc]; rfl
        have e46 : ((s[k].toNat : Int) == 46) = false := by rw [hc]; rfl
        have g1 : ∀ [inst : Decidable ((48 : Int) ≤ (s[k].toNat : Int))], @decide _ inst = true := fun {inst} => decide_eq_true (by omega)
        have g2 : ∀ [inst : Decidable ((s[k].toNat : Int) ≤ 57)], @decide _ inst = false := fun {inst} => decide_eq_false (by omega)
        have o1 : bits .or .u8 (s[k].toNat : Int) 32 = 112 := by
          rw [show bits .or .u8 (s[k].toNat : Int) 32 = ((s[k].toNat ||| 32 : Nat) : Int) from u8_or_nat s[k].toNat 32 (UInt8.toNat_lt _) (by omega), hc]; rfl
        have HNB := Lib.hid (show N ≤ 16 ∧ D ≤ 1000 from ⟨n123.1, by omega⟩)
        clear n123 k2 hkm p1b p2b hdg hc hlt
        go_wp2_with fail
        all_goals first
          | (exfalso; omega)
          | (refine (Tryz.internal_strconv_lower _ _).mono ?_; rintro e w' ⟨rfl, rfl⟩; rw [o1]; go_wp2_with fail)
        all_goals first
          | (exfalso; omega)
          | (refine (Tryz.internal_strconv_lower _ _).mono ?_; rintro e w'' ⟨rfl, rfl⟩; rw [o1]; go_wp2_with fail)
        refine (Tryz.internal_strconv_lower _ _).mono ?_
        rintro e w3 ⟨rfl, rfl⟩
        rw [o1]
        have hc2 := HP2.out
        have q2 : ((s.size : Int) ≤ (k : Int) + 1) = False := by simp; omega
        have x43 : ((s[k+1].toNat : Int) == 43) = false := by rw [hc2]; rfl
        have x45 : ((s[k+1].toNat : Int) == 45) = false := by rw [hc2]; rfl
        have r2n : ∀ [inst : Decidable ((s[k+1].toNat : Int) < 48)], @decide _ inst = false := fun {inst} => decide_eq_false (by omega)
        have r3n : ∀ [inst : Decidable ((57 : Int) < (s[k+1].toNat : Int))], @decide _ inst = false := fun {inst} => decide_eq_false (by omega)
        go_upto_region 67 with fail
        go_upto_region 68 with fail
        go_wp2_with fail
        go_loop [7, 9, 20] (fun t7 t9 t20 => ∃ (i : Nat), Hid (k + 1 ≤ i ∧ i ≤ k + 2) ∧ t7 = .int .i64 (i : Int) ∧ t9 = .bool false ∧ t20 = .int .i64 0) (fun t7 t9 t20 => s.size - (intOf t7).toNat)
        case atStart => exact ⟨k + 1, Lib.hid ⟨Nat.le_refl _, by omega⟩, (vi (by first | rfl | omega)), rfl, rfl⟩
        case round =>
          obtain ⟨i, hib, rfl, rfl, rfl⟩ := hrel
          have hib' := hib.out
          have hsz := HSZ.out
          by_cases hi : i < s.size
          · obtain rfl : i = k + 1 := by omega
            have hif : 48 ≤ s[k+1].toNat ∧ s[k+1].toNat ≤ 57 := by omega
            have p1 : (((k + 1 : Nat) : Int) < (s.size : Int)) = True := by simp; omega
            have p1' : ((k : Int) + 1 < (s.size : Int)) = True := by simp; omega
            have p2 : ∀ [inst : Decidable ((48 : Int) ≤ (s[k+1].toNat : Int))], @decide _ inst = true := fun {inst} => decide_eq_true (by omega)
            have p3 : ∀ [inst : Decidable ((s[k+1].toNat : Int) ≤ 57)], @decide _ inst = true := fun {inst} => decide_eq_true (by omega)
            have p4 : ((s[k+1].toNat : Int) == 95) = false := by rw [hc2]; rfl
            clear hib' q2 hsz
            go_wp2_with fail
            all_goals first
              | (exfalso; omega)
              | (go_round; (case rel => exact ⟨k + 2, Lib.hid ⟨by omega, Nat.le_refl _⟩, (vi (by first | rfl | omega | (simp only [wrap64]; omega))), rfl, (vi (by first | rfl | omega | (simp only [wrap64]; omega)))⟩); (case measure => simp [intOf]; omega))
          · have hie : i = s.size := by omega
            subst hie
            clear q2 hib' hsz
            cases em : ((M : Int) != 0)
            all_goals
              go_wp2_with fail
              try rw [Exit.noGoto_ret]
              refine bodyPost_ret (results_tmp7 rfl _ _ _) rfl ?_
              refine ⟨ret7x ?_ rfl, rfl⟩
              first
                | exact (hex_zero (bneF em)).symm
                | exact hex_close (bneT em) HNB.out
end Go.Proofs.YtpkeonafcldkhaaGreatDoor
