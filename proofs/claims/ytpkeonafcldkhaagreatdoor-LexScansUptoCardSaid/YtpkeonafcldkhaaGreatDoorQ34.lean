import Derived.Test.YtpkeonafcldkhaaGreatDoorQ33
/- Part of the proof of YtpkeonafcldkhaaGreatDoorCardS CardV: RcA RcB RcC RaD RaE RaF RaG. -/
set_option linter.unusedVariables false
set_option linter.unusedSimpArgs false
namespace Go.Proofs.YtpkeonafcldkhaaGreatDoor
open Go.RowKit
theorem r03_digit (c : UInt8) (w : World) :
  Calls Tryz.prog 86 #[.int .u8 (c.toNat : Int)] w fun e w' => e = .returned (.bool (digit c)) ∧ w = w' := by
 go_enter Tryz.func86, Tryz.ntmps86
 go_wp2
 all_goals (go_ret; exact ⟨ret_bool (by rw [Bool.eq_iff_iff]; simp [digit]; omega), rfl⟩)
set_option maxRecDepth 100000 in
theorem r03_run (s : ByteArray) (i : Nat) (w : World) (hs : s.size ≤ 281474976710656) (hi : i ≤ 281474976710656) :
  Calls Tryz.prog 65 #[.string s, .int .i64 (i : Int)] w fun e w' => e = .returned (.int .i64 (spanEnd digit s.data.toList i : Nat)) ∧ w = w' := by
 go_enter Tryz.func65, Tryz.ntmps65
 go_wp2_with fail
 go_loop [1] (fun t => ∃ k : Nat, k ≤ 562949953421312 ∧ t = .int .i64 k ∧ Hid (spanEnd digit s.data.toList k = spanEnd digit s.data.toList i)) (fun t => s.size - (intOf t).toNat)
 case atStart => exact ⟨i, by omega, rfl, rfl⟩
 case round =>
  obtain ⟨k, hk, rfl, hsp⟩ := hrel
  by_cases hlt : k < s.size
  ·cases hd : digit s[k]
   all_goals
    go_wp2_with (go_at_call 86; refine (r03_digit _ _).mono ?_; rintro e w' ⟨rfl, rfl⟩; rw [hd])
   ·go_ret
    exact ⟨ret_int (by rw [← hsp.out, spanEnd_stopB hlt hd]), rfl⟩
   ·exact ⟨⟨k + 1, by omega, by go_num, Lib.hid ((spanEnd_stepB hlt hd).trans hsp.out)⟩, rz_meas hlt⟩
  ·go_wp2_with fail
   go_ret
   exact ⟨ret_int (by rw [← hsp.out, spanEnd_end (by simpa using hlt)]), rfl⟩
def rUv (u : Nat × Nat) (j : Nat) : Value := if u.1 = 7 then .tuple #[.int .i64 0, .int .i64 0, .int .i64 0] else .tuple #[.int .i64 ((u.2 - j : Nat) : Int), .int .i64 (uSize u.1 : Int), .int .i64 ((u.1 + 1 : Nat) : Int)]
set_option maxRecDepth 100000 in
set_option maxHeartbeats 1000000 in
theorem r03_unit (s : ByteArray) (i : Nat) (w : World) (hs : s.size ≤ 281474976710656) (hi : i ≤ 281474976710656) :
  Calls Tryz.prog 66 #[.string s, .int .i64 (i : Int)] w fun e w' => e = .returned (rUv (unitAt s.data.toList i) i) ∧ w = w' := by
 obtain ⟨V, hV⟩ : ∃ V, V = rUv (unitAt s.data.toList i) i := ⟨_, rfl⟩
 rw [← hV]
 have HV := Lib.hid hV
 clear hV
 by_cases hlt : i < s.size
 ·have hat := atB_lt hlt
  by_cases hm : s[i].toNat = 109
  ·have h109 : atB s.data.toList i = 109 := by rw [hat]; exact u8_lit (n := 109) (by omega) hm
   by_cases h2 : i + 1 < s.size
   ·have hat2 := atB_lt h2
    by_cases h3 : s[i+1].toNat = 115
    ·have hE := unitAt_ms (l := s.data.toList) (i := i) (by rw [len_data]; exact h2) h109 (by rw [hat2]; exact u8_lit (n := 115) (by omega) h3)
     have HV2 : Hid (V = .tuple #[.int .i64 2, .int .i64 1, .int .i64 7]) := Lib.hid (by rw [HV.out, hE]; simp [rUv, uSize])
     have hc : ((s[i].toNat : Int) == 109) = true := beq_iff_eq.2 (by omega)
     have hc3 : ((s[i+1].toNat : Int) == 115) = true := beq_iff_eq.2 (by omega)
     clear hE h109 hat hat2 HV hm h3
     go_enter Tryz.func66, Tryz.ntmps66
     go_wp2_with fail
     refine bodyPost_ret (rz_res3 rfl _ _ _) rfl ?_
     exact ⟨by rw [HV2.out]; rfl, rfl⟩
    ·have hE := unitAt_hit (l := s.data.toList) (i := i) (k := 4) (by rw [len_data]; exact hlt) (by rintro ⟨_, _, h⟩; rw [hat2] at h; rw [h] at h3; exact h3 rfl) (by omega) (by rw [h109]; rfl)
     have HV2 : Hid (V = .tuple #[.int .i64 1, .int .i64 60000, .int .i64 5]) := Lib.hid (by rw [HV.out, hE]; simp [rUv, uSize])
     have hc : ((s[i].toNat : Int) == 109) = true := beq_iff_eq.2 (by omega)
     have hc3 : ((s[i+1].toNat : Int) == 115) = false := beq_eq_false_iff_ne.2 (by omega)
     clear hE h109 hat hat2 HV hm h3
     go_enter Tryz.func66, Tryz.ntmps66
     go_wp2_with fail
     refine bodyPost_ret (rz_res3 rfl _ _ _) rfl ?_
     exact ⟨by rw [HV2.out]; rfl, rfl⟩
   ·have hE := unitAt_hit (l := s.data.toList) (i := i) (k := 4) (by rw [len_data]; exact hlt) (by rintro ⟨_, h, _⟩; rw [len_data] at h; exact h2 h) (by omega) (by rw [h109]; rfl)
    have HV2 : Hid (V = .tuple #[.int .i64 1, .int .i64 60000, .int .i64 5]) := Lib.hid (by rw [HV.out, hE]; simp [rUv, uSize])
    have hc : ((s[i].toNat : Int) == 109) = true := beq_iff_eq.2 (by omega)
    clear hE h109 hat HV hm
    go_enter Tryz.func66, Tryz.ntmps66
    go_wp2_with fail
    refine bodyPost_ret (rz_res3 rfl _ _ _) rfl ?_
    exact ⟨by rw [HV2.out]; rfl, rfl⟩
  ·have hn : ¬ (atB s.data.toList i = 109 ∧ i + 1 < s.data.toList.length ∧ atB s.data.toList (i + 1) = 115) := by
    rintro ⟨h, _⟩; rw [hat] at h; exact hm (by rw [h]; rfl)
   have hc4 : ((s[i].toNat : Int) == 109) = false := beq_eq_false_iff_ne.2 (by omega)
   by_cases hk : s[i].toNat = 121 ∨ s[i].toNat = 119 ∨ s[i].toNat = 100 ∨ s[i].toNat = 104 ∨ s[i].toNat = 115
   ·rcases hk with hk | hk | hk | hk | hk
    ·have hE := unitAt_hit (l := s.data.toList) (i := i) (k := 0) (by rw [len_data]; exact hlt) hn (by omega) (by rw [hat]; exact (u8_lit (n := 121) (by omega) hk).symm)
     have HV2 : Hid (V = .tuple #[.int .i64 1, .int .i64 31536000000, .int .i64 1]) := Lib.hid (by rw [HV.out, hE]; simp [rUv, uSize])
     have hc0 : ((s[i].toNat : Int) == 121) = true := beq_iff_eq.2 (by omega)
     clear hE hat HV hm hk hn
     go_enter Tryz.func66, Tryz.ntmps66
     go_wp2_with fail
     refine bodyPost_ret (rz_res3 rfl _ _ _) rfl ?_
     exact ⟨by rw [HV2.out]; rfl, rfl⟩
    ·have hE := unitAt_hit (l := s.data.toList) (i := i) (k := 1) (by rw [len_data]; exact hlt) hn (by omega) (by rw [hat]; exact (u8_lit (n := 119) (by omega) hk).symm)
     have HV2 : Hid (V = .tuple #[.int .i64 1, .int .i64 604800000, .int .i64 2]) := Lib.hid (by rw [HV.out, hE]; simp [rUv, uSize])
     have hc0 : ((s[i].toNat : Int) == 121) = false := beq_eq_false_iff_ne.2 (by omega)
     have hc1 : ((s[i].toNat : Int) == 119) = true := beq_iff_eq.2 (by omega)
     clear hE hat HV hm hk hn
     go_enter Tryz.func66, Tryz.ntmps66
     go_wp2_with fail
     refine bodyPost_ret (rz_res3 rfl _ _ _) rfl ?_
     exact ⟨by rw [HV2.out]; rfl, rfl⟩
    ·have hE := unitAt_hit (l := s.data.toList) (i := i) (k := 2) (by rw [len_data]; exact hlt) hn (by omega) (by rw [hat]; exact (u8_lit (n := 100) (by omega) hk).symm)
     have HV2 : Hid (V = .tuple #[.int .i64 1, .int .i64 86400000, .int .i64 3]) := Lib.hid (by rw [HV.out, hE]; simp [rUv, uSize])
     have hc0 : ((s[i].toNat : Int) == 121) = false := beq_eq_false_iff_ne.2 (by omega)
     have hc1 : ((s[i].toNat : Int) == 119) = false := beq_eq_false_iff_ne.2 (by omega)
     have hc2 : ((s[i].toNat : Int) == 100) = true := beq_iff_eq.2 (by omega)
     clear hE hat HV hm hk hn
     go_enter Tryz.func66, Tryz.ntmps66
     go_wp2_with fail
     refine bodyPost_ret (rz_res3 rfl _ _ _) rfl ?_
     exact ⟨by rw [HV2.out]; rfl, rfl⟩
    ·have hE := unitAt_hit (l := s.data.toList) (i := i) (k := 3) (by rw [len_data]; exact hlt) hn (by omega) (by rw [hat]; exact (u8_lit (n := 104) (by omega) hk).symm)
     have HV2 : Hid (V = .tuple #[.int .i64 1, .int .i64 3600000, .int .i64 4]) := Lib.hid (by rw [HV.out, hE]; simp [rUv, uSize])
     have hc0 : ((s[i].toNat : Int) == 121) = false := beq_eq_false_iff_ne.2 (by omega)
     have hc1 : ((s[i].toNat : Int) == 119) = false := beq_eq_false_iff_ne.2 (by omega)
     have hc2 : ((s[i].toNat : Int) == 100) = false := beq_eq_false_iff_ne.2 (by omega)
     have hc3 : ((s[i].toNat : Int) == 104) = true := beq_iff_eq.2 (by omega)
     clear hE hat HV hm hk hn
     go_enter Tryz.func66, Tryz.ntmps66
     go_wp2_with fail
     refine bodyPost_ret (rz_res3 rfl _ _ _) rfl ?_
     exact ⟨by rw [HV2.out]; rfl, rfl⟩
    ·have hE := unitAt_hit (l := s.data.toList) (i := i) (k := 5) (by rw [len_data]; exact hlt) hn (by omega) (by rw [hat]; exact (u8_lit (n := 115) (by omega) hk).symm)
     have HV2 : Hid (V = .tuple #[.int .i64 1, .int .i64 1000, .int .i64 6]) := Lib.hid (by rw [HV.out, hE]; simp [rUv, uSize])
     have hc0 : ((s[i].toNat : Int) == 121) = false := beq_eq_false_iff_ne.2 (by omega)
     have hc1 : ((s[i].toNat : Int) == 119) = false := beq_eq_false_iff_ne.2 (by omega)
     have hc2 : ((s[i].toNat : Int) == 100) = false := beq_eq_false_iff_ne.2 (by omega)
     have hc3 : ((s[i].toNat : Int) == 104) = false := beq_eq_false_iff_ne.2 (by omega)
     have hc5 : ((s[i].toNat : Int) == 115) = true := beq_iff_eq.2 (by omega)
     clear hE hat HV hm hk hn
     go_enter Tryz.func66, Tryz.ntmps66
     go_wp2_with fail
     refine bodyPost_ret (rz_res3 rfl _ _ _) rfl ?_
     exact ⟨by rw [HV2.out]; rfl, rfl⟩
   ·have hE := unitAt_miss (l := s.data.toList) (i := i) (by rw [len_data]; exact hlt) hn (by
     intro k hk6 he
     rw [hat] at he
     rw [← he] at hk hm
     revert hk hm
     match k, hk6 with
     | 0, _ | 1, _ | 2, _ | 3, _ | 4, _ | 5, _ => decide)
    have HV2 : Hid (V = .tuple #[.int .i64 0, .int .i64 0, .int .i64 0]) := Lib.hid (by rw [HV.out, hE]; rfl)
    have hc0 : ((s[i].toNat : Int) == 121) = false := beq_eq_false_iff_ne.2 (by omega)
    have hc1 : ((s[i].toNat : Int) == 119) = false := beq_eq_false_iff_ne.2 (by omega)
    have hc2 : ((s[i].toNat : Int) == 100) = false := beq_eq_false_iff_ne.2 (by omega)
    have hc3 : ((s[i].toNat : Int) == 104) = false := beq_eq_false_iff_ne.2 (by omega)
    have hc5 : ((s[i].toNat : Int) == 115) = false := beq_eq_false_iff_ne.2 (by omega)
    clear hE hat HV hm hk hn
    go_enter Tryz.func66, Tryz.ntmps66
    go_wp2_with fail
    refine bodyPost_ret (rz_res3 rfl _ _ _) rfl ?_
    exact ⟨by rw [HV2.out]; rfl, rfl⟩
 ·have hE := unitAt_out (l := s.data.toList) (i := i) (by rw [len_data]; omega)
  have HV2 : Hid (V = .tuple #[.int .i64 0, .int .i64 0, .int .i64 0]) := Lib.hid (by rw [HV.out, hE]; rfl)
  clear hE HV
  go_enter Tryz.func66, Tryz.ntmps66
  go_wp2_with fail
  refine bodyPost_ret (rz_res3 rfl _ _ _) rfl ?_
  exact ⟨by rw [HV2.out]; rfl, rfl⟩
def manyN (l : List UInt8) (E : Nat) : Nat := if 315360000000000 / E < sat l then 315360000000001 else sat l * E
theorem satGo_up : ∀ (l : List UInt8) (n : Nat), n ≤ 315360000000001 → n ≤ satGo n l
 | [], _, _ => Nat.le_refl _
 |c :: r, n, h => by
  rw [satGo_cons]
  have h1 := satGo_up r (satStep n c) (satStep_le n c)
  have h2 : n ≤ satStep n c := by unfold satStep; omega
  omega
set_option maxRecDepth 100000 in
set_option maxHeartbeats 1000000 in
theorem r03_many (s : ByteArray) (E : Nat) (w : World) (hs : s.size ≤ 281474976710656) (hE1 : 1 ≤ E) (hE2 : E ≤ 31536000000) (hd : ∀ k (h : k < s.size), 48 ≤ s[k].toNat ∧ s[k].toNat ≤ 57) :
  Calls Tryz.prog 67 #[.string s, .int .i64 (E : Int)] w fun e w' => e = .returned (.int .i64 (manyN s.data.toList E : Nat)) ∧ w = w' := by
 have HD := Lib.hid hd
 obtain ⟨V, hV⟩ : ∃ V, V = manyN s.data.toList E := ⟨_, rfl⟩
 rw [← hV]
 have HV := Lib.hid hV
 obtain ⟨q, hq⟩ : ∃ q, q = 315360000000000 / E := ⟨_, rfl⟩
 have hq1 : q ≤ 315360000000000 := by rw [hq]; exact Nat.div_le_self _ _
 have hq2 : q * E ≤ 315360000000000 := by rw [hq]; exact Nat.div_mul_le_self _ _
 have hqn : (315360000000000 : Int) / (E : Int) = (q : Int) := by rw [hq, Int.natCast_ediv]; rfl
 have hz0 : ((E : Int) == 0) = false := by rw [beq_eq_false_iff_ne]; omega
 have HQ := Lib.hid hq
 have HQ2 := Lib.hid hq2
 clear hd hV hq hq2
 go_enter Tryz.func67, Tryz.ntmps67
 go_wp2_with fail
 go_loop [5, 6] (fun v i => ∃ k n : Nat, k ≤ s.size ∧ i = .int .i64 k ∧ v = .int .i64 n ∧ n ≤ q ∧ Hid (satGo n (s.data.toList.drop k) = sat s.data.toList)) (fun _ i => s.size - (intOf i).toNat)
 case atStart => exact ⟨0, 0, Nat.zero_le _, by go_num, by go_num, by omega, Lib.hid (by rw [List.drop_zero, sat])⟩
 case round =>
  obtain ⟨k, n, hk, rfl, rfl, hn, hsp⟩ := hrel
  by_cases hlt : k < s.size
  ·have hst : satGo (satStep n s[k]) (s.data.toList.drop (k + 1)) = sat s.data.toList := by
    have h1 := drop_at (l := s.data.toList) (i := k) (by rw [len_data]; exact hlt)
    rw [atB_lt hlt] at h1
    exact (satGo_cons _ _ _).symm.trans ((congrArg (satGo n) h1).symm.trans hsp.out)
   obtain ⟨h1, h2⟩ := HD.out k hlt
   have hup := satGo_up (s.data.toList.drop (k + 1)) (satStep n s[k]) (satStep_le n _)
   rw [hst] at hup
   rw [satStep] at hst hup
   clear hsp
   by_cases hb : q < n * 10 + (s[k].toNat - 48)
   ·have hVV : V = 315360000000001 := by rw [HV.out, manyN, ← HQ.out, if_pos (by omega)]
    have HVV := Lib.hid hVV
    have hB : ((q : Int) < (n : Int) * 10 + ((s[k].toNat : Int) - 48)) = True := eq_true (by omega)
    clear hst hb hVV hup
    go_wp2_with fail
    go_ret
    exact ⟨ret_int (by rw [HVV.out]; rfl), rfl⟩
   ·rw [Nat.min_eq_left (by omega)] at hst
    have HS := Lib.hid hst
    have hB : ((q : Int) < (n : Int) * 10 + ((s[k].toNat : Int) - 48)) = False := eq_false (by omega)
    clear hst hup
    go_wp2_with fail
    exact ⟨⟨k + 1, n * 10 + (s[k].toNat - 48), by omega, by go_num, by go_num, by omega, HS.out⟩, rz_meas hlt⟩
  ·have hst : sat s.data.toList = n := by rw [← hsp.out, List.drop_eq_nil_of_le (by rw [len_data]; omega)]; rfl
   have hVV : V = n * E := by rw [HV.out, manyN, ← HQ.out, hst, if_neg (by omega)]
   have HVV := Lib.hid hVV
   have hmul : n * E ≤ 315360000000000 := Nat.le_trans (Nat.mul_le_mul_right _ hn) HQ2.out
   have hmul2 : (n : Int) * (E : Int) ≤ 315360000000000 := by rw [← Int.natCast_mul]; omega
   have hmul0 : 0 ≤ (n : Int) * (E : Int) := by rw [← Int.natCast_mul]; omega
   clear hst hsp hVV hmul
   go_wp2_with fail
   go_ret
   exact ⟨ret_int (by rw [HVV.out, Int.natCast_mul]), rfl⟩
theorem rUv_none (i j : Nat) : rUv (7, i) j = .tuple #[.int .i64 0, .int .i64 0, .int .i64 0] := rfl
theorem rUv_some {u b j : Nat} (h : u ≠ 7) : rUv (u, b) j = .tuple #[.int .i64 ((b - j : Nat) : Int), .int .i64 (uSize u : Int), .int .i64 ((u + 1 : Nat) : Int)] := by
 unfold rUv; exact if_neg h
theorem unitAt_gt (l : List UInt8) (i : Nat) (h : (unitAt l i).1 ≠ 7) : i < (unitAt l i).2 := by
 unfold unitAt at h ⊢
 split
 ·rename_i h1; rw [if_pos h1] at h; exact absurd rfl h
 ·rename_i h1
  rw [if_neg h1] at h
  split
  ·simp
  ·rename_i h2
   rw [if_neg h2] at h
   split
   ·rename_i h3; rw [if_pos h3] at h; exact absurd rfl h
   ·simp
set_option maxRecDepth 100000 in
set_option maxHeartbeats 1000000 in
theorem r03_Prefix (s : ByteArray) (w : World) (hs : s.size ≤ 281474976710656) :
  Calls Tryz.prog 56 #[.string s] w fun e w' => e = .returned (.int .i64 (spanPrefix s.data.toList : Nat)) ∧ w = w' := by
 obtain ⟨V, hV⟩ : ∃ V, V = spanPrefix s.data.toList := ⟨_, rfl⟩
 rw [← hV]
 have HV := Lib.hid hV
 clear hV
 go_enter Tryz.func56, Tryz.ntmps56
 go_wp2_with fail
 go_loop [3, 4] (fun v x => ∃ f fin next sum : Nat, fin ≤ s.size ∧ next ≤ 7 ∧ 8 ≤ f + next ∧ v = .int .i64 fin ∧ x = .int .i64 next ∧ Hid ((mGo f s.data.toList fin next sum).1 = V)) (fun v _ => s.size - (intOf v).toNat)
 case atStart => exact ⟨8, 0, 0, 0, Nat.zero_le _, by omega, by omega, by go_num, by go_num, Lib.hid HV.out.symm⟩
 case round =>
  obtain ⟨f, fin, next, sum, hfin, hnext, hf, rfl, rfl, hM⟩ := hrel
  obtain ⟨f, rfl⟩ : ∃ g, f = g + 1 := ⟨f - 1, by omega⟩
  by_cases hlt : fin < s.size
  ·go_wp2_with fail
   refine (r03_run s fin _ hs (by omega)).mono ?_
   rintro e w1 ⟨rfl, rfl⟩
   have hat1 := spanEnd_ge digit s.data.toList fin
   have hat2 := spanEnd_le digit s.data.toList fin (by rw [len_data]; exact hfin)
   rw [len_data] at hat2
   obtain ⟨at', hat⟩ : ∃ k, k = spanEnd digit s.data.toList fin := ⟨_, rfl⟩
   rw [← hat] at hat1 hat2 ⊢
   have HA := Lib.hid hat
   clear hat
   go_wp2_with fail
   refine (r03_unit s at' _ hs (by omega)).mono ?_
   rintro e w2 ⟨rfl, rfl⟩
   have hU := unitAt_ge s.data.toList at'
   have hG := unitAt_gt s.data.toList at'
   rw [len_data] at hU
   obtain ⟨u, behind, hu⟩ : ∃ u b, (u, b) = unitAt s.data.toList at' := ⟨_, _, rfl⟩
   rw [← hu] at hU hG ⊢
   obtain ⟨hU1, hU2, hU3⟩ := hU
   have HU := Lib.hid hu
   clear hu
   simp only at hU1 hU2 hU3 hG
   by_cases h7 : u = 7
   ·have hE := (congrArg Prod.fst (mGo_stop (f := f) (l := s.data.toList) (fin := fin) (next := next) (sum := sum) (.inr (.inr (by rw [← HA.out, ← HU.out]; exact h7))))).symm.trans hM.out
    subst h7
    rw [rUv_none]
    have HE := Lib.hid hE
    clear hE hM
    go_wp2_with fail
    all_goals (go_ret; exact ⟨ret_int (by rw [← HE.out]), rfl⟩)
   ·rw [rUv_some h7]
    have hG2 := hG h7
    have hG3 := hU2 hat2
    have hu6 : u ≤ 6 := by omega
    have hn0 : (((behind - at' : Nat) : Int) == 0) = false := beq_eq_false_iff_ne.2 (by omega)
    have hn2 : behind - at' ≤ 2814749767106560 := by omega
    clear hG hU1 hU2 hU3
    cases hq : ((at' : Int) == (fin : Int))
    ·by_cases hr : u < next
     ·have hE := (congrArg Prod.fst (mGo_stop (f := f) (l := s.data.toList) (fin := fin) (next := next) (sum := sum) (.inr (.inl (by rw [← HA.out, ← HU.out]; exact hr))))).symm.trans hM.out
      have HE := Lib.hid hE
      have hrr : ((u : Int) + 1 ≤ (next : Int)) = True := eq_true (by omega)
      clear hE hM hr h7
      go_wp2_with fail
      go_ret
      exact ⟨ret_int (by rw [← HE.out]), rfl⟩
     ·have hg := (congrArg Prod.fst (mGo_go (f := f) (l := s.data.toList) (fin := fin) (next := next) (sum := sum) HA.out.symm HU.out.symm (by have := neT hq; omega) (by omega) h7)).symm.trans hM.out
      have HG := Lib.hid hg
      have hrr : ((u : Int) + 1 ≤ (next : Int)) = False := eq_false (by omega)
      clear hg hM
      have hm : fin < behind := by omega
      go_wp2_with fail
      exact ⟨⟨f, behind, u + 1, _, hG3, by omega, by omega, by apply rz_vi; omega, by go_num, HG.out⟩, by simp [intOf]; omega⟩
    ·have hE := (congrArg Prod.fst (mGo_stop (f := f) (l := s.data.toList) (fin := fin) (next := next) (sum := sum) (.inl (by rw [← HA.out]; exact Int.ofNat.inj (eqT hq))))).symm.trans hM.out
     have HE := Lib.hid hE
     clear hE hM h7
     go_wp2_with fail
     go_ret
     exact ⟨ret_int (by rw [← HE.out]), rfl⟩
  ·have hE := (congrArg Prod.fst (mGo_stop (f := f) (l := s.data.toList) (fin := fin) (next := next) (sum := sum) (.inl (spanEnd_end (by rw [len_data]; omega))))).symm.trans hM.out
   have HE := Lib.hid hE
   clear hE hM
   go_wp2_with fail
   go_ret
   exact ⟨ret_int (by rw [← HE.out]), rfl⟩
theorem part_more {n u sum rs : Nat} {l : List UInt8} (hn : n = sat l) (h : sum = min rs 315360000000001) : partSum n u sum = min (rs + manyN l (uSize u)) 315360000000001 := by
 subst hn
 by_cases hb : 315360000000000 / uSize u < sat l
 ·rw [partSum_big hb, manyN, if_pos hb]; omega
 ·rw [partSum_min (by omega), manyN, if_neg hb]; omega
theorem manyN_le (l : List UInt8) (u : Nat) : manyN l (uSize u) ≤ 315360000000001 := by
 unfold manyN
 split
 ·exact Nat.le_refl _
 ·have := part_mul (n := sat l) (u := u) (by omega); omega
theorem ret_two' {w w' : World} {r : Nat × Nat} {a b : Nat} (h : r = (a, b)) (hb : w = w') : (Ending.returned (.tuple #[.int .i64 (a : Int), .int .i64 (b : Int)]) = .returned (.tuple #[.int .i64 (r.1 : Nat), .int .i64 (r.2 : Nat)])) ∧ w = w' := by
 subst h; exact ⟨rfl, hb⟩
set_option maxRecDepth 100000 in
set_option maxHeartbeats 1000000 in
theorem r03_Parse_loop (s : ByteArray) (w : World) (hs : s.size ≤ 64) (h0 : 0 < s.size) (hm : (measure s.data.toList).1 = s.size) :
  Calls Tryz.prog 38 #[.string s] w fun e w' => e = .returned (.tuple #[.int .i64 ((spanParse s.data.toList).1 : Nat), .int .i64 ((spanParse s.data.toList).2 : Nat)]) ∧ w = w' := by
 obtain ⟨r, hr⟩ : ∃ r, r = spanParse s.data.toList := ⟨_, rfl⟩
 have hR : r = if 315360000000000 < (measure s.data.toList).2 then (0, 31) else ((measure s.data.toList).2, 0) := by
  rw [hr, spanParse, if_neg (by rw [len_data]; omega), if_neg (by rw [hm, len_data]; omega)]
 rw [← hr]
 have HR := Lib.hid hR
 have hnp : ((spanPrefix s.data.toList : Int) != (s.size : Int)) = false := by
  rw [bne_eq_false_iff_eq, spanPrefix, hm]
 have HM := Lib.hid hm
 clear hr hR hm
 obtain ⟨hne1, hne2⟩ := ne_facts h0
 go_enter Tryz.func38, Tryz.ntmps38
 go_wp2_with fail
 refine (r03_Prefix s _ (by omega)).mono ?_
 rintro e w1 ⟨rfl, rfl⟩
 go_wp2_with fail
 clear hnp hne1 hne2
 go_loop [4, 5] (fun v x => ∃ f fin next sum rs : Nat, fin ≤ s.size ∧ next ≤ 7 ∧ 8 ≤ f + next ∧ rs ≤ next * 315360000000001 ∧ v = .int .i64 rs ∧ x = .int .i64 fin ∧ Hid (mGo f s.data.toList fin next sum = measure s.data.toList) ∧ Hid (sum = min rs 315360000000001)) (fun _ x => s.size - (intOf x).toNat)
 case atStart => exact ⟨8, 0, 0, 0, 0, Nat.zero_le _, by omega, by omega, by omega, by go_num, by go_num, Lib.hid rfl, Lib.hid (by omega)⟩
 case round =>
  obtain ⟨f, fin, next, sum, rs, hfin, hnext, hf, hrs, rfl, rfl, hM, hS⟩ := hrel
  obtain ⟨f, rfl⟩ : ∃ g, f = g + 1 := ⟨f - 1, by omega⟩
  have hrs2 : rs ≤ 2207520000000007 := by omega
  by_cases hlt : fin < s.size
  ·have hgo : ¬ (spanEnd digit s.data.toList fin = fin ∨ (unitAt s.data.toList (spanEnd digit s.data.toList fin)).1 < next ∨ (unitAt s.data.toList (spanEnd digit s.data.toList fin)).1 = 7) := by
    intro h
    have h1 := mGo_stop (f := f) (sum := sum) h
    rw [hM.out] at h1
    have h2 := HM.out
    rw [h1] at h2
    simp only at h2
    omega
   have HGO := Lib.hid hgo
   clear hgo
   go_wp2_with fail
   refine (r03_run s fin _ (by omega) (by omega)).mono ?_
   rintro e w1 ⟨rfl, rfl⟩
   have hat1 := spanEnd_ge digit s.data.toList fin
   have hat2 := spanEnd_le digit s.data.toList fin (by rw [len_data]; exact hfin)
   rw [len_data] at hat2
   obtain ⟨at', hat⟩ : ∃ k, k = spanEnd digit s.data.toList fin := ⟨_, rfl⟩
   rw [← hat] at hat1 hat2 HGO ⊢
   have HA := Lib.hid hat
   clear hat
   go_wp2_with fail
   refine (r03_unit s at' _ (by omega) (by omega)).mono ?_
   rintro e w2 ⟨rfl, rfl⟩
   have hU := unitAt_ge s.data.toList at'
   have hG := unitAt_gt s.data.toList at'
   rw [len_data] at hU
   obtain ⟨u, behind, hu⟩ : ∃ u b, (u, b) = unitAt s.data.toList at' := ⟨_, _, rfl⟩
   rw [← hu] at hU hG HGO ⊢
   obtain ⟨hU1, hU2, hU3⟩ := hU
   have HU := Lib.hid hu
   clear hu
   simp only at hU1 hU2 hU3 hG
   have hgo := HGO.out
   simp only at hgo
   clear HGO
   have h7 : u ≠ 7 := fun h => hgo (.inr (.inr h))
   rw [rUv_some h7]
   have hG2 := hG h7
   have hG3 := hU2 hat2
   have hu6 : u ≤ 6 := by omega
   have hun : next ≤ u := by omega
   have hg := (mGo_go (f := f) (l := s.data.toList) (fin := fin) (next := next) (sum := sum) HA.out.symm HU.out.symm (by omega) hun h7).symm.trans hM.out
   have hdig := part_digits (s := s) (i := fin) HA.out.symm
   have hts : (s.extract fin at').size ≤ 281474976710656 := by simp; omega
   have htd : (s.extract fin at').data.toList = (s.data.toList.drop fin).take (at' - fin) := Lib.extract_data ..
   have hpm := part_more (u := u) (sum := sum) (rs := rs) (rfl : sat ((s.data.toList.drop fin).take (at' - fin)) = _) hS.out
   have hml := manyN_le ((s.data.toList.drop fin).take (at' - fin)) u
   have hz := uSize_pos u
   have hcall := fun w => r03_many (s.extract fin at') (uSize u) w hts hz.1 hz.2 hdig
   rw [htd] at hcall
   rw [hpm] at hg
   generalize manyN ((s.data.toList.drop fin).take (at' - fin)) (uSize u) = m at hcall hg hml
   have HG := Lib.hid hg
   have HC := Lib.hid hcall
   clear hG hU1 hU2 hU3 hgo hg hpm hdig hts htd hcall hM hS hz HA HU h7
   obtain ⟨g, hgap⟩ : ∃ g, g = behind - at' := ⟨_, rfl⟩
   have hbe : behind = at' + g := by omega
   rw [← hgap]
   clear hgap
   subst hbe
   go_wp2_with fail
   refine (HC.out _).mono ?_
   rintro e w2 ⟨rfl, rfl⟩
   clear HC
   go_wp2_with fail
   exact ⟨⟨f, at' + g, u + 1, _, rs + m, hG3, by omega, by omega, by omega, by apply rz_vi; omega, by apply rz_vi; omega, HG.out, Lib.hid rfl⟩, by simp [intOf]; omega⟩
  ·have hE := (mGo_stop (f := f) (l := s.data.toList) (fin := fin) (next := next) (sum := sum) (.inl (spanEnd_end (by rw [len_data]; omega)))).symm.trans hM.out
   have hS2 := hS.out
   have hR2 := HR.out
   rw [← hE] at hR2
   simp only at hR2
   by_cases hb : 315360000000000 < rs
   ·rw [if_pos (by omega)] at hR2
    have HR2 := Lib.hid hR2
    clear hE hM hS hS2 hR2
    go_wp2_with fail
    go_ret2
    exact ret_two' HR2.out rfl
   ·rw [if_neg (by omega), show sum = rs by omega] at hR2
    have HR2 := Lib.hid hR2
    clear hE hM hS hS2 hR2
    go_wp2_with fail
    go_ret2
    exact ret_two' HR2.out rfl
set_option maxRecDepth 100000 in
set_option maxHeartbeats 400000 in
theorem r03_Parse (s : ByteArray) (w : World) (hs : s.size ≤ maxLen) :
  Calls Tryz.prog 38 #[.string s] w fun e w' => e = .returned (.tuple #[.int .i64 ((spanParse s.data.toList).1 : Nat), .int .i64 ((spanParse s.data.toList).2 : Nat)]) ∧ w = w' := by
 unfold maxLen at hs
 by_cases hl : 64 < s.size
 ·have hE : spanParse s.data.toList = (0, 1) := by rw [spanParse, if_pos (by rw [len_data]; exact hl)]
  have HE := Lib.hid hE
  clear hE
  go_enter Tryz.func38, Tryz.ntmps38
  go_wp2_with fail
  go_ret2
  exact ret_two' HE.out rfl
 ·by_cases h0 : s.size = 0
  ·have hb : s = ByteArray.empty := by
    have : s.data = #[] := Array.eq_empty_of_size_eq_zero h0
    cases s; simp only at this; rw [this]; rfl
   have hE : spanParse s.data.toList = (0, 30) := by rw [hb]; decide
   have HE := Lib.hid hE
   clear hE
   subst hb
   go_enter Tryz.func38, Tryz.ntmps38
   go_wp2_with fail
   go_ret2
   exact ret_two' HE.out rfl
  ·by_cases hm : (measure s.data.toList).1 = s.size
   ·exact r03_Parse_loop s w (by omega) (by omega) hm
   ·have hle := spanPrefix_le s.data.toList
    rw [spanPrefix, len_data] at hle
    have hE : spanParse s.data.toList = (0, 30) := by
     rw [spanParse, if_neg (by rw [len_data]; omega), if_pos (.inr (by rw [len_data]; omega))]
    have HE := Lib.hid hE
    have hnp : ((spanPrefix s.data.toList : Int) != (s.size : Int)) = true := by
     rw [bne_iff_ne, spanPrefix]; omega
    obtain ⟨hne1, hne2⟩ := ne_facts (show 0 < s.size by omega)
    clear hE hm hle
    go_enter Tryz.func38, Tryz.ntmps38
    go_wp2_with fail
    refine (r03_Prefix s _ (by omega)).mono ?_
    rintro e w1 ⟨rfl, rfl⟩
    go_wp2_with fail
    go_ret2
    exact ret_two' HE.out rfl
def letA (c : UInt8) : Int := if isPlain c = true then ((plainB c).toNat : Int) else -1
def letKey (j : Nat) : Nat := match j with | 0 => 97 | 1 => 98 | 2 => 116 | 3 => 110 | 4 => 118 | 5 => 102 | _ => 114
theorem letA_hit : ∀ c : UInt8, ∀ k : Fin 7, c.toNat = letKey k.val → letA c = (k.val : Int) + 7 :=
 all_bytesR (P := fun c => ∀ k : Fin 7, c.toNat = letKey k.val → letA c = (k.val : Int) + 7) (by decide +kernel)
theorem letA_miss : ∀ c : UInt8, (∀ k : Fin 7, c.toNat ≠ letKey k.val) → letA c = -1 :=
 all_bytesR (P := fun c => (∀ k : Fin 7, c.toNat ≠ letKey k.val) → letA c = -1) (by decide +kernel)
theorem let_more {c : UInt8} {k m : Nat} (h : ∀ j, j < k → c.toNat ≠ letKey j) (hm : letKey k = m) (hq : ((m : Int) == (c.toNat : Int)) = false) : ∀ j, j < k + 1 → c.toNat ≠ letKey j := by
 intro j hj
 by_cases hjk : j < k
 ·exact h j hjk
 ·have : j = k := by omega
  subst this
  have := beq_eq_false_iff_ne.1 hq
  omega
theorem letTab1 : ∀ k : Fin 7, (((⟨#[97, 7, 98, 8, 116, 9, 110, 10, 118, 11, 102, 12, 114, 13]⟩ : ByteArray)[2 * k.val]'(by have := k.isLt; simp [ByteArray.size]; omega)).toNat : Int) = letKey k.val := by decide
theorem letTab2 : ∀ k : Fin 7, (((⟨#[97, 7, 98, 8, 116, 9, 110, 10, 118, 11, 102, 12, 114, 13]⟩ : ByteArray)[2 * k.val + 1]'(by have := k.isLt; simp [ByteArray.size]; omega)).toNat : Int) = (k.val : Int) + 7 := by decide
set_option maxRecDepth 100000 in
set_option maxHeartbeats 2000000 in
theorem r01_letter (c : UInt8) (w : World) :
  Calls Tryz.prog 88 #[.int .u8 (c.toNat : Int), .string ⟨#[97, 7, 98, 8, 116, 9, 110, 10, 118, 11, 102, 12, 114, 13]⟩] w fun e w' => e = .returned (.int .i64 (letA c)) ∧ w = w' := by
 obtain ⟨s, hs⟩ : ∃ s : ByteArray, s = ⟨#[97, 7, 98, 8, 116, 9, 110, 10, 118, 11, 102, 12, 114, 13]⟩ := ⟨_, rfl⟩
 rw [← hs]
 have hsz : s.size = 14 := by rw [hs]; rfl
 have he : ∀ k : Fin 7, ((s[2 * k.val]'(by omega)).toNat : Int) = letKey k.val := by
  subst hs; exact letTab1
 have hv : ∀ k : Fin 7, ((s[2 * k.val + 1]'(by omega)).toNat : Int) = (k.val : Int) + 7 := by
  subst hs; exact letTab2
 have HE := Lib.hid he
 have HV := Lib.hid hv
 clear hs he hv
 go_enter Tryz.func88, Tryz.ntmps88
 go_wp2_with fail
 go_loop [5] (fun t => ∃ k : Nat, k ≤ 7 ∧ t = .int .i64 ((2 * k : Nat) : Int) ∧ Hid (∀ j, j < k → c.toNat ≠ letKey j)) (fun t => 14 - (intOf t).toNat)
 case atStart => exact ⟨0, by omega, rfl, Lib.hid (fun j hj => absurd hj (by omega))⟩
 case round =>
  obtain ⟨k, hk, rfl, hmiss⟩ := hrel
  have hks : k = 0 ∨ k = 1 ∨ k = 2 ∨ k = 3 ∨ k = 4 ∨ k = 5 ∨ k = 6 ∨ k = 7 := by omega
  clear hk
  rcases hks with rfl | rfl | rfl | rfl | rfl | rfl | rfl | rfl
  ·have he := HE.out ⟨0, by omega⟩
   have hv := HV.out ⟨0, by omega⟩
   simp only [letKey, Nat.reduceMul, Nat.reduceAdd] at he hv
   cases hq : ((97 : Int) == (c.toNat : Int))
   ·have HM := Lib.hid (let_more hmiss.out (m := 97) rfl hq)
    clear hmiss
    go_wp2_with fail
    exact ⟨⟨1, by omega, rfl, HM⟩, by simp [intOf]⟩
   ·have hE := Lib.hid (letA_hit c ⟨0, by omega⟩ (by have := beq_iff_eq.1 hq; simp only [letKey]; omega))
    clear hmiss
    go_wp2_with fail
    go_ret
    exact ⟨ret_int (by rw [hE.out]; rfl), rfl⟩
  ·have he := HE.out ⟨1, by omega⟩
   have hv := HV.out ⟨1, by omega⟩
   simp only [letKey, Nat.reduceMul, Nat.reduceAdd] at he hv
   cases hq : ((98 : Int) == (c.toNat : Int))
   ·have HM := Lib.hid (let_more hmiss.out (m := 98) rfl hq)
    clear hmiss
    go_wp2_with fail
    exact ⟨⟨2, by omega, rfl, HM⟩, by simp [intOf]⟩
   ·have hE := Lib.hid (letA_hit c ⟨1, by omega⟩ (by have := beq_iff_eq.1 hq; simp only [letKey]; omega))
    clear hmiss
    go_wp2_with fail
    go_ret
    exact ⟨ret_int (by rw [hE.out]; rfl), rfl⟩
  ·have he := HE.out ⟨2, by omega⟩
   have hv := HV.out ⟨2, by omega⟩
   simp only [letKey, Nat.reduceMul, Nat.reduceAdd] at he hv
   cases hq : ((116 : Int) == (c.toNat : Int))
   ·have HM := Lib.hid (let_more hmiss.out (m := 116) rfl hq)
    clear hmiss
    go_wp2_with fail
    exact ⟨⟨3, by omega, rfl, HM⟩, by simp [intOf]⟩
   ·have hE := Lib.hid (letA_hit c ⟨2, by omega⟩ (by have := beq_iff_eq.1 hq; simp only [letKey]; omega))
    clear hmiss
    go_wp2_with fail
    go_ret
    exact ⟨ret_int (by rw [hE.out]; rfl), rfl⟩
  ·have he := HE.out ⟨3, by omega⟩
   have hv := HV.out ⟨3, by omega⟩
   simp only [letKey, Nat.reduceMul, Nat.reduceAdd] at he hv
   cases hq : ((110 : Int) == (c.toNat : Int))
   ·have HM := Lib.hid (let_more hmiss.out (m := 110) rfl hq)
    clear hmiss
    go_wp2_with fail
    exact ⟨⟨4, by omega, rfl, HM⟩, by simp [intOf]⟩
   ·have hE := Lib.hid (letA_hit c ⟨3, by omega⟩ (by have := beq_iff_eq.1 hq; simp only [letKey]; omega))
    clear hmiss
    go_wp2_with fail
    go_ret
    exact ⟨ret_int (by rw [hE.out]; rfl), rfl⟩
  ·have he := HE.out ⟨4, by omega⟩
   have hv := HV.out ⟨4, by omega⟩
   simp only [letKey, Nat.reduceMul, Nat.reduceAdd] at he hv
   cases hq : ((118 : Int) == (c.toNat : Int))
   ·have HM := Lib.hid (let_more hmiss.out (m := 118) rfl hq)
    clear hmiss
    go_wp2_with fail
    exact ⟨⟨5, by omega, rfl, HM⟩, by simp [intOf]⟩
   ·have hE := Lib.hid (letA_hit c ⟨4, by omega⟩ (by have := beq_iff_eq.1 hq; simp only [letKey]; omega))
    clear hmiss
    go_wp2_with fail
    go_ret
    exact ⟨ret_int (by rw [hE.out]; rfl), rfl⟩
  ·have he := HE.out ⟨5, by omega⟩
   have hv := HV.out ⟨5, by omega⟩
   simp only [letKey, Nat.reduceMul, Nat.reduceAdd] at he hv
   cases hq : ((102 : Int) == (c.toNat : Int))
   ·have HM := Lib.hid (let_more hmiss.out (m := 102) rfl hq)
    clear hmiss
    go_wp2_with fail
    exact ⟨⟨6, by omega, rfl, HM⟩, by simp [intOf]⟩
   ·have hE := Lib.hid (letA_hit c ⟨5, by omega⟩ (by have := beq_iff_eq.1 hq; simp only [letKey]; omega))
    clear hmiss
    go_wp2_with fail
    go_ret
    exact ⟨ret_int (by rw [hE.out]; rfl), rfl⟩
  ·have he := HE.out ⟨6, by omega⟩
   have hv := HV.out ⟨6, by omega⟩
   simp only [letKey, Nat.reduceMul, Nat.reduceAdd] at he hv
   cases hq : ((114 : Int) == (c.toNat : Int))
   ·have HM := Lib.hid (let_more hmiss.out (m := 114) rfl hq)
    clear hmiss
    go_wp2_with fail
    exact ⟨⟨7, by omega, rfl, HM⟩, by simp [intOf]⟩
   ·have hE := Lib.hid (letA_hit c ⟨6, by omega⟩ (by have := beq_iff_eq.1 hq; simp only [letKey]; omega))
    clear hmiss
    go_wp2_with fail
    go_ret
    exact ⟨ret_int (by rw [hE.out]; rfl), rfl⟩
  ·have hE := Lib.hid (letA_miss c (fun k => hmiss.out k.val k.isLt))
   clear hmiss
   go_wp2_with fail
   go_ret
   exact ⟨ret_int (by rw [hE.out]), rfl⟩
def NextPost (w : World) (n : Nat) (e : Ending) (w' : World) : Prop := ∃ r : Int, e = .returned (.tuple #[.int .i32 r, .int .i64 (n : Int)]) ∧ Below w.heap.size w w'
set_option maxRecDepth 100000 in
set_option maxHeartbeats 1000000 in
theorem r01_next (s : ByteArray) (i : Nat) (w : World) (hs : s.size ≤ 281474976710656) (hi : i < s.size) :
  Calls Tryz.prog 87 #[.string s, .int .i64 (i : Int)] w (NextPost w (nextW s.data.toList i)) := by
 obtain ⟨N, hN⟩ : ∃ N, N = nextW s.data.toList i := ⟨_, rfl⟩
 rw [← hN]
 have HN := Lib.hid hN
 clear hN
 have hi0 : decide ((i : Int) < 0) = false := by simp
 have hi1 : decide (s.size ≤ i) = false := by simpa using hi
 have hi2 : decide ((s.size : Int) ≤ (i : Int)) = false := by simpa using hi
 go_enter Tryz.func87, Tryz.ntmps87
 go_wp2_with fail
 go_loopw [6] (fun t wr => ∃ v : Nat, 1 ≤ v ∧ v ≤ 5 ∧ i + v ≤ s.size + 1 ∧ t = .int .i64 v ∧ Below w.heap.size w wr ∧ Hid (∀ u, 1 ≤ u → u < v → formI (guessI s.data.toList i u) ≠ (s.data.toList.drop i).take u)) (fun t _ => 5 - (intOf t).toNat)
 case atStart => exact ⟨1, by omega, by omega, by omega, rfl, Below.refl _ _, Lib.hid (fun u h1 h2 => by omega)⟩
 case round =>
  obtain ⟨v, hv1, hv5, hiv, rfl, hbel, hno⟩ := hrel
  by_cases hc : v ≤ 4 ∧ i + v ≤ s.size
  ·obtain ⟨hv4, hiv2⟩ := hc
   go_wp2_with fail
   refine (r01_guess s i v _ hs hv1 hv4 hiv2).mono ?_
   rintro e w1 ⟨rfl, rfl⟩
   obtain ⟨n, hn⟩ : ∃ n, n = guessI s.data.toList i v := ⟨_, rfl⟩
   rw [← hn]
   have HG := Lib.hid hn
   clear hn
   go_wp2_with fail
   refine (r01_form n _).mono ?_
   rintro e w1 ⟨rfl, hb1⟩
   obtain ⟨F, hF⟩ : ∃ F : ByteArray, F = ⟨(formI n).toArray⟩ := ⟨_, rfl⟩
   have hFd : F.data.toList = formI n := by rw [hF]
   have hFs : F.size ≤ 4 := by rw [← len_data, hFd]; exact formI_len n
   have hbel2 := hbel.trans (hb1.mono hbel.size)
   rw [← hF]
   have HFd := Lib.hid hFd
   have HB := Lib.hid hbel2
   clear hF hFd hb1 hbel hbel2
   by_cases hh : formI n = (s.data.toList.drop i).take v
   ·have hNv := nextW_hit (l := s.data.toList) (i := i) (w := v) (by rw [len_data]; exact hiv2) hv1 hv4 (by rw [← HG.out]; exact hh)
    have hsz : F.size = v := by rw [← len_data, HFd.out, hh, List.length_take, List.length_drop, len_data]; omega
    have hex : ((s.extract i (i + v)).toList == F.toList) = true := by
     rw [beq_iff_eq, ByteArray.toList_eq, ByteArray.toList_eq, HFd.out, hh, Lib.extract_data, show i + v - i = v by omega]
    have HNv := Lib.hid hNv
    clear hNv hh hno
    go_wp2_with fail
    go_ret2
    exact ⟨_, by rw [HN.out, HNv.out]; rfl, HB.out⟩
   ·have hno2 : ∀ u, 1 ≤ u → u < v + 1 → formI (guessI s.data.toList i u) ≠ (s.data.toList.drop i).take u := by
     intro u h1 h2
     by_cases hu : u < v
     ·exact hno.out u h1 hu
     ·obtain rfl : u = v := by omega
      rw [← HG.out]; exact hh
    have hex : ((s.extract i (i + v)).toList == F.toList) = false := by
     rw [beq_eq_false_iff_ne, ByteArray.toList_eq, ByteArray.toList_eq, HFd.out, Lib.extract_data, show i + v - i = v by omega]
     exact fun e => hh e.symm
    have HNO := Lib.hid hno2
    clear hh hno hno2
    cases hsz : ((F.size : Int) == (v : Int))
    all_goals
     go_wp2_with fail
     exact ⟨⟨v + 1, by omega, by omega, by omega, by go_num, HB.out, HNO⟩, by simp [intOf]; omega⟩
  ·have hN0 := nextW_none (l := s.data.toList) (i := i) (w := v) (by rw [len_data]; exact hi) (by rw [len_data]; omega) hno.out
   have HN0 := Lib.hid hN0
   clear hN0 hno
   by_cases hv4 : v ≤ 4
   ·have hx : ((v : Int) ≤ (s.size : Int) - (i : Int)) = False := eq_false (by omega)
    clear hc
    go_wp2_with fail
    go_ret2
    exact ⟨_, by rw [HN.out, HN0.out]; rfl, hbel⟩
   ·have hx : ((v : Int) ≤ 4) = False := eq_false (by omega)
    clear hc
    go_wp2_with fail
    go_ret2
    exact ⟨_, by rw [HN.out, HN0.out]; rfl, hbel⟩
set_option maxRecDepth 100000 in
set_option maxHeartbeats 1000000 in
theorem r01_valid (s : ByteArray) (w : World) (hs : s.size ≤ 281474976710656) :
  Calls Tryz.prog 68 #[.string s] w fun e w' => e = .returned (.bool (valid s.data.toList)) ∧ Below w.heap.size w w' := by
 have h0 := vFrom_zero s.data.toList
 obtain ⟨V, hV⟩ : ∃ V, V = valid s.data.toList := ⟨_, rfl⟩
 rw [← hV] at h0 ⊢
 have HZ := Lib.hid h0
 clear hV h0
 go_enter Tryz.func68, Tryz.ntmps68
 go_wp2_with fail
 go_loopw [3] (fun t wr => ∃ k : Nat, k ≤ s.size ∧ t = .int .i64 k ∧ Below w.heap.size w wr ∧ Hid (vFrom s.data.toList k = V)) (fun t _ => s.size - (intOf t).toNat)
 case atStart => exact ⟨0, by omega, rfl, Below.refl _ _, Lib.hid HZ.out⟩
 case round =>
  obtain ⟨k, hk, rfl, hbel, hsp⟩ := hrel
  by_cases hlt : k < s.size
  ·go_wp2_with fail
   refine (r01_next s k _ hs hlt).mono ?_
   rintro e w1 ⟨r, rfl, hb1⟩
   have hbel2 := hbel.trans (hb1.mono hbel.size)
   clear hbel hb1
   cases hb : bad s.data.toList k
   ·have hw1 := dec_pos s.data.toList k
    have hw2 := dec_w s.data.toList k (by rw [len_data]; exact hlt)
    rw [len_data] at hw2
    have hst := (vFrom_step (by rw [len_data]; exact hlt) hb).trans hsp.out
    have hnw : nextW s.data.toList k = (dec s.data.toList k).2 := by rw [nextW, hb, if_neg (by simp)]
    rw [hnw]
    generalize (dec s.data.toList k).2 = n at *
    have HS := Lib.hid hst
    have hn0 : ((n : Int) == 0) = false := beq_eq_false_iff_ne.2 (by omega)
    clear hst hnw hsp hb
    go_wp2_with fail
    exact ⟨⟨k + n, by omega, by apply rz_vi; omega, hbel2, HS.out⟩, by simp [intOf]; omega⟩
   ·have hnw : nextW s.data.toList k = 0 := by rw [nextW, hb, if_pos rfl]
    have hE := (vFrom_bad (by rw [len_data]; exact hlt) hb).symm.trans hsp.out
    rw [hnw]
    have HE := Lib.hid hE
    clear hnw hE hsp hb
    go_wp2_with fail
    go_ret
    exact ⟨ret_bool HE.out, hbel2⟩
  ·have hE := (vFrom_end (l := s.data.toList) (i := k) (by rw [len_data]; omega)).symm.trans hsp.out
   have HE := Lib.hid hE
   clear hE hsp
   go_wp2_with fail
   go_ret
   exact ⟨ret_bool HE.out, hbel⟩
theorem r01_number' (s : ByteArray) (x y z : Int) (i k base en : Nat) (hx : x = (i : Int)) (hy : y = (k : Int)) (hz : z = (base : Int)) (w : World) (hs : s.size ≤ 281474976710656) (hi : i ≤ 281474976710657) (hk1 : 1 ≤ k) (hk : k ≤ 8) (hen : en ≤ s.size) (hbase : base = 8 ∨ base = 16) :
  Calls Tryz.prog 89 #[.string s, .int .i64 x, .int .i64 y, .int .i64 z, .int .i64 (en : Int)] w fun e w' => e = .returned (.int .i64 (numI (digs ((s.data.toList.take en).drop i) k base))) ∧ w = w' := by
 subst hx hy hz
 exact r01_number s i k base en w hs hi hk1 hk hen hbase
def escW (q : UInt8) (l : List UInt8) : List UInt8 × Nat := match escOut q l with | none => ([], 0) | some (b, n) => (b, n + 1)
def EscRef (w : World) (r : List UInt8 × Nat) (e : Ending) (w' : World) : Prop := e = .returned (.tuple #[.string ⟨r.1.toArray⟩, .int .i64 (r.2 : Int)]) ∧ Below w.heap.size w w'
theorem escRef_of {w w' : World} {r : List UInt8 × Nat} {b : List UInt8} {n : Nat} (h : r = (b, n)) (hb : Below w.heap.size w w') : EscRef w r (.returned (.tuple #[.string ⟨b.toArray⟩, .int .i64 (n : Int)])) w' := by
 subst h; exact ⟨rfl, hb⟩
theorem escRef_none {w w' : World} {r : List UInt8 × Nat} (h : r = ([], 0)) (hb : Below w.heap.size w w') : EscRef w r (.returned (.tuple #[.string ⟨#[]⟩, .int .i64 0])) w' := escRef_of h hb
theorem esc_head {s : ByteArray} {i en : Nat} (h : i < en) (hen : en ≤ s.size) : (s.data.toList.take en).drop i = (s[i]'(by omega)) :: (s.data.toList.take en).drop (i + 1) := by
 rw [List.drop_eq_getElem_cons (by rw [List.length_take, len_data]; omega)]
 congr 1
 rw [List.getElem_take]
 exact gl _ _ _
set_option maxRecDepth 100000 in
theorem r01_escape_end (s : ByteArray) (i en : Nat) (q : UInt8) (w : World) (hs : s.size ≤ 281474976710656) (hen : en ≤ s.size) (hi : i < en) (h : en ≤ i + 1) :
  Calls Tryz.prog 69 #[.string s, .int .i64 (i : Int), .int .i64 (en : Int), .int .u8 (q.toNat : Int)] w (EscRef w (escW q ((s.data.toList.take en).drop (i + 1)))) := by
 have hE : escW q ((s.data.toList.take en).drop (i + 1)) = ([], 0) := by
  rw [List.drop_eq_nil_of_le (by rw [List.length_take]; omega)]; rfl
 have HE := Lib.hid hE
 clear hE
 go_enter Tryz.func69, Tryz.ntmps69
 go_wp2_with fail
 go_ret2
 exact escRef_none HE.out (Below.refl _ _)
set_option maxRecDepth 100000 in
set_option maxHeartbeats 1000000 in
theorem r01_escape_self (s : ByteArray) (i en : Nat) (q : UInt8) (w : World) (hs : s.size ≤ 281474976710656) (hen : en ≤ s.size) (hi : i + 1 < en) (hq : q = 34 ∨ q = 39) (hc : s[i + 1]'(by omega) = q ∨ s[i + 1]'(by omega) = 92) :
  Calls Tryz.prog 69 #[.string s, .int .i64 (i : Int), .int .i64 (en : Int), .int .u8 (q.toNat : Int)] w (EscRef w (escW q ((s.data.toList.take en).drop (i + 1)))) := by
 have hE : escW q ((s.data.toList.take en).drop (i + 1)) = ([s[i + 1]'(by omega)], 2) := by
  rw [esc_head hi hen]
  generalize s[i + 1]'(by omega) = c at hc
  have hp : isPlain c = false := by rcases hc with rfl | rfl <;> (first | (rcases hq with rfl | rfl <;> rfl) | rfl)
  simp [escW, escOut, hp, hc.symm]
 have HE := Lib.hid hE
 have hlit := lit_s1 w _ (s[i + 1]'(by omega)) rfl
 have HB := Lib.hid ((Below.refl w.heap.size w).alloc (Nat.le_refl _) (.cells #[.int .u8 ((s[i + 1]'(by omega)).toNat : Int)] 5))
 have hin : i + 1 < s.size := by omega
 clear hE
 cases hcq : ((s[i + 1].toNat : Int) == (q.toNat : Int))
 ·have h92 : ((s[i + 1].toNat : Int) == 92) = true := by
   rcases hc with h | h
   ·rw [h] at hcq; simp at hcq
   ·rw [h]; rfl
  clear hc hq
  go_enter Tryz.func69, Tryz.ntmps69
  go_wp2_with fail
  go_ret2
  exact escRef_of HE.out HB.out
 ·clear hc hq
  go_enter Tryz.func69, Tryz.ntmps69
  go_wp2_with fail
  go_ret2
  exact escRef_of HE.out HB.out
set_option maxRecDepth 100000 in
set_option maxHeartbeats 1000000 in
theorem r01_escape_plain (s : ByteArray) (i en : Nat) (q : UInt8) (w : World) (hs : s.size ≤ 281474976710656) (hen : en ≤ s.size) (hi : i + 1 < en) (hcq : ((s[i + 1]'(by omega)).toNat : Int) ≠ (q.toNat : Int)) (hc92 : ((s[i + 1]'(by omega)).toNat : Int) ≠ 92) (hp : isPlain (s[i + 1]'(by omega)) = true) :
  Calls Tryz.prog 69 #[.string s, .int .i64 (i : Int), .int .i64 (en : Int), .int .u8 (q.toNat : Int)] w (EscRef w (escW q ((s.data.toList.take en).drop (i + 1)))) := by
 have hin : i + 1 < s.size := by omega
 have hE : escW q ((s.data.toList.take en).drop (i + 1)) = ([plainB s[i + 1]], 2) := by
  rw [esc_head hi hen]
  simp [escW, escOut, hp]
 have hl : letA s[i + 1] = ((plainB s[i + 1]).toNat : Int) := by rw [letA, if_pos hp]
 obtain ⟨p, hp2⟩ : ∃ p, p = plainB s[i + 1] := ⟨_, rfl⟩
 have hp13 : (p.toNat : Int) ≤ 13 := by
  rw [hp2]; unfold plainB; repeat' split
  all_goals decide
 rw [← hp2] at hE hl
 have HE := Lib.hid hE
 have hlit := lit_s1 w _ p rfl
 have HB := Lib.hid ((Below.refl w.heap.size w).alloc (Nat.le_refl _) (.cells #[.int .u8 (p.toNat : Int)] 5))
 have e1 := beq_eq_false_iff_ne.2 hcq
 have e2 := beq_eq_false_iff_ne.2 hc92
 clear hE hp hp2 hcq hc92
 go_enter Tryz.func69, Tryz.ntmps69
 go_wp2_with fail
 refine (r01_letter _ _).mono ?_
 rintro e w1 ⟨rfl, rfl⟩
 rw [hl]
 go_wp2_with fail
 go_ret2
 exact escRef_of HE.out HB.out
set_option maxRecDepth 100000 in
set_option maxHeartbeats 1000000 in
theorem r01_escape_x (s : ByteArray) (i en : Nat) (q : UInt8) (w : World) (hs : s.size ≤ 281474976710656) (hen : en ≤ s.size) (hi : i + 1 < en) (hq : q = 34 ∨ q = 39) (hc : s[i + 1]'(by omega) = 120) :
  Calls Tryz.prog 69 #[.string s, .int .i64 (i : Int), .int .i64 (en : Int), .int .u8 (q.toNat : Int)] w (EscRef w (escW q ((s.data.toList.take en).drop (i + 1)))) := by
 have hin : i + 1 < s.size := by omega
 have hql : (q.toNat : Int) = 34 ∨ (q.toNat : Int) = 39 := by
  rcases hq with rfl | rfl
  ·exact .inl rfl
  ·exact .inr rfl
 have hc120 : (s[i + 1].toNat : Int) = 120 := by rw [hc]; rfl
 have hq2 : ¬ ((120 : UInt8) = 92 ∨ (120 : UInt8) = q) := by rcases hq with rfl | rfl <;> decide
 have hE : escW q ((s.data.toList.take en).drop (i + 1)) = match digs ((s.data.toList.take en).drop (i + 1 + 1)) 2 16 with | some v => ([UInt8.ofNat v], 4) | none => ([], 0) := by
  rw [esc_head hi hen, hc]
  simp only [escW, escOut, if_neg hq2, show isPlain 120 = false from rfl, Bool.false_eq_true, if_false, if_true]
  cases digs ((s.data.toList.take en).drop (i + 1 + 1)) 2 16 <;> rfl
 have hl : letA s[i + 1] = -1 := by rw [hc]; decide
 have e1 : ((s[i + 1].toNat : Int) == (q.toNat : Int)) = false := beq_eq_false_iff_ne.2 (by omega)
 have e2 : ((s[i + 1].toNat : Int) == 92) = false := beq_eq_false_iff_ne.2 (by omega)
 have e3 : ((s[i + 1].toNat : Int) == 120) = true := beq_iff_eq.2 hc120
 cases hd : digs ((s.data.toList.take en).drop (i + 1 + 1)) 2 16 with
 |none =>
  rw [hd] at hE
  have HE := Lib.hid hE
  have HD := Lib.hid hd
  clear hE hd hq hql hc120 hq2 hc
  go_enter Tryz.func69, Tryz.ntmps69
  go_wp2_with fail
  refine (r01_letter _ _).mono ?_
  rintro e w1 ⟨rfl, rfl⟩
  rw [hl]
  go_wp2_with fail
  refine (r01_number' s _ _ _ (i + 2) 2 16 en (by omega) (by rfl) (by rfl) _ hs (by omega) (by omega) (by omega) hen (.inr rfl)).mono ?_
  rintro e w1 ⟨rfl, rfl⟩
  rw [HD.out, numI]
  go_wp2_with fail
  go_ret2
  exact escRef_none HE.out (Below.refl _ _)
 |some v =>
  rw [hd] at hE
  simp only at hE
  have hv := digs_lt (by omega) hd
  obtain ⟨x, hx⟩ : ∃ x, x = UInt8.ofNat v := ⟨_, rfl⟩
  have hxv : (v : Int) = (x.toNat : Int) := by rw [hx, u8_val (by omega)]
  rw [← hx] at hE
  have HE := Lib.hid hE
  have HD := Lib.hid hd
  have hlit := lit_s1 w (v : Int) x hxv
  have HB := Lib.hid ((Below.refl w.heap.size w).alloc (Nat.le_refl _) (.cells #[.int .u8 (v : Int)] 5))
  have hv2 : (v : Int) ≤ 255 := by omega
  clear hE hd hq hql hc120 hq2 hc hx hxv hv
  go_enter Tryz.func69, Tryz.ntmps69
  go_wp2_with fail
  refine (r01_letter _ _).mono ?_
  rintro e w1 ⟨rfl, rfl⟩
  rw [hl]
  go_wp2_with fail
  refine (r01_number' s _ _ _ (i + 2) 2 16 en (by omega) (by rfl) (by rfl) _ hs (by omega) (by omega) (by omega) hen (.inr rfl)).mono ?_
  rintro e w1 ⟨rfl, rfl⟩
  rw [HD.out, numI]
  go_wp2_with fail
  go_ret2
  exact escRef_of HE.out HB.out
def octW (D : Option Nat) : List UInt8 × Nat := match D with | some v => (if v ≤ 255 then ([UInt8.ofNat v], 4) else ([], 0)) | none => ([], 0)
set_option maxRecDepth 100000 in
set_option maxHeartbeats 2000000 in
theorem r01_escape_u (s : ByteArray) (i en : Nat) (q : UInt8) (w : World) (hs : s.size ≤ 281474976710656) (hen : en ≤ s.size) (hi : i + 1 < en) (hq : q = 34 ∨ q = 39) (hc : s[i + 1]'(by omega) = 117 ∨ s[i + 1]'(by omega) = 85) :
  Calls Tryz.prog 69 #[.string s, .int .i64 (i : Int), .int .i64 (en : Int), .int .u8 (q.toNat : Int)] w (EscRef w (escW q ((s.data.toList.take en).drop (i + 1)))) := by
 have hin : i + 1 < s.size := by omega
 have hql : (q.toNat : Int) = 34 ∨ (q.toNat : Int) = 39 := by
  rcases hq with rfl | rfl
  ·exact .inl rfl
  ·exact .inr rfl
 obtain ⟨k, b, hk, hE, e4, e5, hcv⟩ : ∃ (k : Nat) (b : Bool), (k = 4 ∨ k = 8) ∧ (escW q ((s.data.toList.take en).drop (i + 1)) = match digs ((s.data.toList.take en).drop (i + 1 + 1)) k 16 with | some v => (if isRuneN v then (formB v, 2 + k) else ([], 0)) | none => ([], 0)) ∧
   ((s[i + 1].toNat : Int) == 117) = b ∧ ((s[i + 1].toNat : Int) == 85) = !b ∧ ((b = true ∧ k = 4 ∧ (s[i + 1].toNat : Int) = 117) ∨ (b = false ∧ k = 8 ∧ (s[i + 1].toNat : Int) = 85)) := by
  rcases hc with hc | hc
  ·refine ⟨4, true, .inl rfl, ?_, by rw [hc]; rfl, by rw [hc]; rfl, .inl ⟨rfl, rfl, by rw [hc]; rfl⟩⟩
   have hq2 : ¬ ((117 : UInt8) = 92 ∨ (117 : UInt8) = q) := by rcases hq with rfl | rfl <;> decide
   rw [esc_head hi hen, hc]
   simp only [escW, escOut, if_neg hq2, show isPlain 117 = false from rfl, Bool.false_eq_true, if_false, if_true, show ¬ ((117 : UInt8) = 120) from by decide]
   cases digs ((s.data.toList.take en).drop (i + 1 + 1)) 4 16 with
   |none => rfl
   |some v => cases h : isRuneN v <;> simp [h]
  ·refine ⟨8, false, .inr rfl, ?_, by rw [hc]; rfl, by rw [hc]; rfl, .inr ⟨rfl, rfl, by rw [hc]; rfl⟩⟩
   have hq2 : ¬ ((85 : UInt8) = 92 ∨ (85 : UInt8) = q) := by rcases hq with rfl | rfl <;> decide
   rw [esc_head hi hen, hc]
   simp only [escW, escOut, if_neg hq2, show isPlain 85 = false from rfl, Bool.false_eq_true, if_false, if_true, show ¬ ((85 : UInt8) = 120) from by decide, show ¬ ((85 : UInt8) = 117) from by decide]
   cases digs ((s.data.toList.take en).drop (i + 1 + 1)) 8 16 with
   |none => rfl
   |some v => cases h : isRuneN v <;> simp [h]
 have hl : letA s[i + 1] = -1 := by rcases hc with hc | hc <;> (rw [hc]; decide)
 have e1 : ((s[i + 1].toNat : Int) == (q.toNat : Int)) = false := beq_eq_false_iff_ne.2 (by omega)
 have e2 : ((s[i + 1].toNat : Int) == 92) = false := beq_eq_false_iff_ne.2 (by omega)
 have e3 : ((s[i + 1].toNat : Int) == 120) = false := beq_eq_false_iff_ne.2 (by omega)
 obtain ⟨D, hD⟩ : ∃ D, D = digs ((s.data.toList.take en).drop (i + 1 + 1)) k 16 := ⟨_, rfl⟩
 have hnum : ∀ w, Calls Tryz.prog 89 #[.string s, .int .i64 ((i : Int) + 2), .int .i64 (k : Int), .int .i64 16, .int .i64 (en : Int)] w fun e w' => e = .returned (.int .i64 (numI D)) ∧ w = w' := by
  intro w
  rw [hD]
  exact r01_number' s _ _ _ (i + 2) k 16 en (by omega) rfl (by rfl) w hs (by omega) (by omega) (by omega) hen (.inr rfl)
 rw [← hD] at hE
 obtain ⟨n, hn⟩ : ∃ n, n = numI D := ⟨_, rfl⟩
 obtain ⟨R, hR⟩ : ∃ R, R = escW q ((s.data.toList.take en).drop (i + 1)) := ⟨_, rfl⟩
 rw [← hR] at hE ⊢
 have hEn : (decide (0 ≤ n) && isRuneN n.toNat) = true ∧ R = (formI n, 2 + k) ∨ (decide (0 ≤ n) && isRuneN n.toNat) = false ∧ R = ([], 0) := by
  cases D with
  |none => rw [hn]; exact .inr ⟨rfl, hE⟩
  |some v =>
   rw [hn]
   simp only [numI, Int.toNat_natCast] at hE ⊢
   cases hr : isRuneN v
   ·rw [hr] at hE; exact .inr ⟨by simp, by simpa using hE⟩
   ·rw [hr] at hE
    refine .inl ⟨by simp, ?_⟩
    rw [formI, if_pos ⟨by omega, by simpa using hr⟩]
    simpa using hE
 rw [← hn] at hnum
 have HN := Lib.hid hnum
 clear hE hD hR hn hnum hq hql hc
 rcases hEn with ⟨hr, hE⟩ | ⟨hr, hE⟩
 ·have HE := Lib.hid hE
  have HR := Lib.hid hr
  clear hE hr
  rcases hcv with ⟨rfl, rfl, hcv⟩ | ⟨rfl, rfl, hcv⟩
  all_goals
   clear hk hcv
   go_enter Tryz.func69, Tryz.ntmps69
   go_wp2_with fail
   refine (r01_letter _ _).mono ?_
   rintro e w1 ⟨rfl, rfl⟩
   rw [hl]
   go_wp2_with fail
   refine (HN.out _).mono ?_
   rintro e w1 ⟨rfl, rfl⟩
   go_wp2_with fail
   refine (r01_isRune _ _).mono ?_
   rintro e w1 ⟨rfl, rfl⟩
   rw [HR.out]
   go_wp2_with fail
   refine (r01_form _ _).mono ?_
   rintro e w1 ⟨rfl, hb⟩
   go_wp2_with fail
   go_ret2
   exact escRef_of HE.out hb
 ·have HE := Lib.hid hE
  have HR := Lib.hid hr
  clear hE hr
  rcases hcv with ⟨rfl, rfl, hcv⟩ | ⟨rfl, rfl, hcv⟩
  all_goals
   clear hk hcv
   go_enter Tryz.func69, Tryz.ntmps69
   go_wp2_with fail
   refine (r01_letter _ _).mono ?_
   rintro e w1 ⟨rfl, rfl⟩
   rw [hl]
   go_wp2_with fail
   refine (HN.out _).mono ?_
   rintro e w1 ⟨rfl, rfl⟩
   go_wp2_with fail
   refine (r01_isRune _ _).mono ?_
   rintro e w1 ⟨rfl, rfl⟩
   rw [HR.out]
   go_wp2_with fail
   go_ret2
   exact escRef_none HE.out (Below.refl _ _)
set_option maxRecDepth 100000 in
set_option maxHeartbeats 2000000 in
theorem r01_escape_oct (s : ByteArray) (i en : Nat) (q : UInt8) (w : World) (hs : s.size ≤ 281474976710656) (hen : en ≤ s.size) (hi : i + 1 < en) (hcq : ((s[i + 1]'(by omega)).toNat : Int) ≠ (q.toNat : Int)) (hn : ∀ t ∈ [(92 : UInt8), 120, 117, 85], s[i + 1]'(by omega) ≠ t) (hp : isPlain (s[i + 1]'(by omega)) = false) :
    Calls Tryz.prog 69 #[.string s, .int .i64 (i : Int), .int .i64 (en : Int), .int .u8 (q.toNat : Int)] w (EscRef w (escW q ((s.data.toList.take en).drop (i + 1)))) := by
  have hin : i + 1 < s.size := by omega
  have hne : ∀ t : UInt8, s[i + 1] ≠ t → ((s[i + 1].toNat : Int) == (t.toNat : Int)) = false := fun t h => beq_eq_false_iff_ne.2 (fun e => h (UInt8.toNat_inj.1 (by omega)))
  have n1 : s[i + 1] ≠ 92 := hn 92 (by simp)
  have n2 : s[i + 1] ≠ 120 := hn 120 (by simp)
  have n3 : s[i + 1] ≠ 117 := hn 117 (by simp)
  have n4 : s[i + 1] ≠ 85 := hn 85 (by simp)
  have n5 : s[i + 1] ≠ q := fun e => hcq (by rw [e])
  obtain ⟨D, hD⟩ : ∃ D, D = digs ((s.data.toList.take en).drop (i + 1)) 3 8 := ⟨_, rfl⟩
  have hnum : ∀ w, Calls Tryz.prog 89 #[.string s, .int .i64 ((i : Int) + 1), .int .i64 3, .int .i64 8, .int .i64 (en : Int)] w fun e w' => e = .returned (.int .i64 (numI D)) ∧ w = w' := by
    intro w
    rw [hD]
    exact r01_number' s _ _ _ (i + 1) 3 8 en (by omega) (by rfl) (by rfl) w hs (by omega) (by omega) (by omega) hen (.inl rfl)
  have hE : escW q ((s.data.toList.take en).drop (i + 1)) = octW D := by
    rw [hD, esc_head hi hen]
    have h5 : ¬ (s[i + 1] = 92 ∨ s[i + 1] = q) := by rintro (h | h); · exact n1 h
                                                     · exact n5 h
    unfold escW escOut
    simp only [hp, h5, n2, n3, n4, if_false, Bool.false_eq_true]
    cases digs (s[i + 1] :: (s.data.toList.take en).drop (i + 1 + 1)) 3 8 with
    | none => rfl
    | some v => by_cases h : v ≤ 255 <;> simp [h, octW]
  have hDlt : ∀ v, D = some v → v < 512 := fun v h => by
    have := digs_lt (by omega) (hD.symm.trans h); simpa using this
  have hl : letA s[i + 1] = -1 := by rw [letA, hp]; rfl
  have e1 : ((s[i + 1].toNat : Int) == (q.toNat : Int)) = false := beq_eq_false_iff_ne.2 hcq
  have e2 : ((s[i + 1].toNat : Int) == 92) = false := hne 92 n1
  have e3 : ((s[i + 1].toNat : Int) == 120) = false := hne 120 n2
  have e4 : ((s[i + 1].toNat : Int) == 117) = false := hne 117 n3
  have e5 : ((s[i + 1].toNat : Int) == 85) = false := hne 85 n4
  obtain ⟨R, hR⟩ : ∃ R, R = escW q ((s.data.toList.take en).drop (i + 1)) := ⟨_, rfl⟩
  rw [← hR] at hE ⊢
  have HN := Lib.hid hnum
  clear hnum hD hR hne n1 n2 n3 n4 n5 hn hp hcq
  cases D with
  | none =>
    simp only [octW] at hE
    have HE := Lib.hid hE
    clear hE hDlt
    go_enter Tryz.func69, Tryz.ntmps69
    go_wp2_with fail
    refine (r01_letter _ _).mono ?_
    rintro e w1 ⟨rfl, rfl⟩
    rw [hl]
    go_wp2_with fail
    refine (HN.out _).mono ?_
    rintro e w1 ⟨rfl, rfl⟩
    rw [numI]
    go_wp2_with fail
    go_ret2
    exact escRef_none HE.out (Below.refl _ _)
  | some v =>
    have hv5 := hDlt v rfl
    simp only [octW] at hE
    clear hDlt
    by_cases hv : v ≤ 255
    · rw [if_pos hv] at hE
      obtain ⟨x, hx⟩ : ∃ x, x = UInt8.ofNat v := ⟨_, rfl⟩
      have hxv : (v : Int) = (x.toNat : Int) := by rw [hx, u8_val (by omega)]
      rw [← hx] at hE
      have HE := Lib.hid hE
      have hlit := lit_s1 w (v : Int) x hxv
      have HB := Lib.hid ((Below.refl w.heap.size w).alloc (Nat.le_refl _) (.cells #[.int .u8 (v : Int)] 5))
      have hv2 : (v : Int) ≤ 255 := by omega
      clear hE hx hxv hv5 hv
      go_enter Tryz.func69, Tryz.ntmps69
      go_wp2_with fail
      refine (r01_letter _ _).mono ?_
      rintro e w1 ⟨rfl, rfl⟩
      rw [hl]
      go_wp2_with fail
      refine (HN.out _).mono ?_
      rintro e w1 ⟨rfl, rfl⟩
      rw [numI]
      go_wp2_with fail
      go_ret2
      exact escRef_of HE.out HB.out
    · rw [if_neg hv] at hE
      have HE := Lib.hid hE
      have hv2 : (255 : Int) < (v : Int) := by omega
      clear hE hv
      go_enter Tryz.func69, Tryz.ntmps69
      go_wp2_with fail
      refine (r01_letter _ _).mono ?_
      rintro e w1 ⟨rfl, rfl⟩
      rw [hl]
      go_wp2_with fail
      refine (HN.out _).mono ?_
      rintro e w1 ⟨rfl, rfl⟩
      rw [numI]
      go_wp2_with fail
      go_ret2
      exact escRef_none HE.out (Below.refl _ _)
theorem r01_escape (s : ByteArray) (i en : Nat) (q : UInt8) (w : World) (hs : s.size ≤ 281474976710656) (hen : en ≤ s.size) (hi : i < en) (hq : q = 34 ∨ q = 39) :
  Calls Tryz.prog 69 #[.string s, .int .i64 (i : Int), .int .i64 (en : Int), .int .u8 (q.toNat : Int)] w (EscRef w (escW q ((s.data.toList.take en).drop (i + 1)))) := by
 by_cases h : i + 1 < en
 ·have hin : i + 1 < s.size := by omega
  by_cases h1 : s[i + 1] = q ∨ s[i + 1] = 92
  ·exact r01_escape_self s i en q w hs hen h hq h1
  ·have hq1 : s[i + 1] ≠ q := fun e => h1 (.inl e)
   have hq2 : s[i + 1] ≠ 92 := fun e => h1 (.inr e)
   have hcq : ((s[i + 1]).toNat : Int) ≠ (q.toNat : Int) := fun e => hq1 (UInt8.toNat_inj.1 (by omega))
   cases hp : isPlain s[i + 1]
   ·by_cases h2 : s[i + 1] = 120
    ·exact r01_escape_x s i en q w hs hen h hq h2
    ·by_cases h3 : s[i + 1] = 117 ∨ s[i + 1] = 85
     ·exact r01_escape_u s i en q w hs hen h hq h3
     ·refine r01_escape_oct s i en q w hs hen h hcq ?_ hp
      intro t ht
      simp only [List.mem_cons, List.not_mem_nil, or_false] at ht
      rcases ht with rfl | rfl | rfl | rfl
      ·exact hq2
      ·exact h2
      ·exact fun e => h3 (.inl e)
      ·exact fun e => h3 (.inr e)
   ·refine r01_escape_plain s i en q w hs hen h hcq ?_ hp
    exact fun e => hq2 (u8_lit (n := 92) (by omega) (by omega))
 ·exact r01_escape_end s i en q w hs hen hi (by omega)
theorem r01_escape' (s : ByteArray) (x y : Int) (i en : Nat) (hx : x = (i : Int)) (hy : y = (en : Int)) (q : UInt8) (w : World) (hs : s.size ≤ 281474976710656) (hen : en ≤ s.size) (hi : i < en) (hq : q = 34 ∨ q = 39) :
  Calls Tryz.prog 69 #[.string s, .int .i64 x, .int .i64 y, .int .u8 (q.toNat : Int)] w (EscRef w (escW q ((s.data.toList.take en).drop (i + 1)))) := by
 subst hx hy
 exact r01_escape s i en q w hs hen hi hq
theorem own_formR {w : World} {base : Nat} {e : TypeId} {size n : Nat} {v : Value} {xs : List Value} (h : w.ownsRow base e size v n xs) : ∃ ao c', v = .slice ao n c' := by
 rcases h.2 with ⟨rfl, rfl⟩ | ⟨g, cap, cur, rfl, _⟩
 ·exact ⟨_, _, rfl⟩
 ·exact ⟨_, _, rfl⟩
theorem inside_drop (l : List UInt8) (m : Nat) : (inside l).drop m = (l.take (l.length - 1)).drop (m + 1) := by
 have h : (l.take (l.length - 1)).drop 1 = (l.drop 1).take (l.length - 2) := by rw [List.drop_take, show l.length - 1 - 1 = l.length - 2 by omega]
 rw [Nat.add_comm m 1, ← List.drop_drop, h, inside]
theorem inside_at {s : ByteArray} {k : Nat} (h : k < s.size - 2) : atB (inside s.data.toList) k = s[k + 1]'(by omega) := by
 rw [inside, len_data, atB, List.getD_eq_getElem?_getD, List.getElem?_take_of_lt h, List.getElem?_drop, Nat.add_comm 1 k, List.getElem?_eq_getElem (by rw [len_data]; omega)]
 exact gl _ _ _
theorem escW_none {q : UInt8} {l : List UInt8} (h : escOut q l = none) : escW q l = ([], 0) := by rw [escW, h]
theorem escW_some {q : UInt8} {l b : List UInt8} {n : Nat} (h : escOut q l = some (b, n)) : escW q l = (b, n + 1) := by rw [escW, h]
set_option maxRecDepth 100000 in
theorem r01_unquote_bad (s : ByteArray) (w : World) (hs : s.size ≤ 281474976710656) (hv : valid s.data.toList = false) :
  Calls Tryz.prog 39 #[.string s] w (UnqPost w (4, [])) := by
 go_enter Tryz.func39, Tryz.ntmps39
 go_wp2_with fail
 refine (r01_valid s _ (by omega)).mono ?_
 rintro e w1 ⟨rfl, hb⟩
 rw [hv]
 go_wp2_with fail
 go_ret2
 exact ⟨rfl, hb⟩
set_option maxRecDepth 100000 in
theorem r01_unquote_open (s : ByteArray) (w : World) (hs : s.size ≤ 281474976710656) (hv : valid s.data.toList = true) (hl : litEnd s.data.toList 0 ≠ some s.data.toList.length) :
  Calls Tryz.prog 39 #[.string s] w (UnqPost w (10, [])) := by
 go_enter Tryz.func39, Tryz.ntmps39
 go_wp2_with fail
 refine (r01_valid s _ (by omega)).mono ?_
 rintro e w1 ⟨rfl, hb⟩
 rw [hv]
 rw [len_data] at hl
 have HB := Lib.hid hb
 clear hb hv
 cases hE : litEnd s.data.toList 0 with
 |none =>
  have HE := Lib.hid hE
  clear hE hl
  go_wp2_with fail
  refine (r01_literal s 0 _ (by omega)).mono ?_
  rintro e w2 ⟨rfl, rfl⟩
  rw [HE.out]
  simp only [optN, optE]
  go_wp2_with fail
  go_ret2
  exact ⟨rfl, HB.out⟩
 |some n =>
  rw [hE] at hl
  have hne : ((n : Int) != (s.size : Int)) = true := by
   rw [bne_iff_ne]
   intro e
   exact hl (by rw [show n = s.size by omega])
  have HE := Lib.hid hE
  clear hE hl
  go_wp2_with fail
  refine (r01_literal s 0 _ (by omega)).mono ?_
  rintro e w2 ⟨rfl, rfl⟩
  rw [HE.out]
  simp only [optN, optE]
  go_wp2_with fail
  go_ret2
  exact ⟨rfl, HB.out⟩
set_option maxRecDepth 100000 in
set_option maxHeartbeats 400000 in
theorem r01_unquote_raw (s : ByteArray) (w : World) (hs : s.size ≤ 281474976710) (hv : valid s.data.toList = true) (hl : litEnd s.data.toList 0 = some s.data.toList.length) (h0 : 0 < s.size) (hq : s[0].toNat = 96) :
  Calls Tryz.prog 39 #[.string s] w (UnqPost w (0, inside s.data.toList)) := by
 have h2 := (litEnd_two hl).1
 rw [len_data] at hl h2
 have hw : IntKind.i64.wrap ((s.size : Int) - 1) = (s.size : Int) - 1 := by rw [IntKind.wrap_i64]; omega
 have hnb : ((s.size : Int) != (s.size : Int)) = false := by simp
 go_enter Tryz.func39, Tryz.ntmps39
 go_wp2_with fail
 refine (r01_valid s _ (by omega)).mono ?_
 rintro e w1 ⟨rfl, hb⟩
 rw [hv]
 have HB := Lib.hid hb
 have HL := Lib.hid hl
 have HQ := Lib.hid hq
 clear hb hv hl hq
 go_wp2_with fail
 refine (r01_literal s 0 _ (by omega)).mono ?_
 rintro e w2 ⟨rfl, rfl⟩
 rw [HL.out]
 simp only [optN, optE]
 have hq96 : ((s[0].toNat : Int) == 96) = true := by rw [HQ.out]; rfl
 go_wp2_with fail
 go_ret2
 exact ⟨by rw [← inside_eq, mk_data]; rfl, HB.out⟩
set_option maxRecDepth 100000 in
set_option maxHeartbeats 1000000 in
theorem r01_unquote_esc (s : ByteArray) (w : World) (hs : s.size ≤ 281474976710) (hv : valid s.data.toList = true) (hl : litEnd s.data.toList 0 = some s.data.toList.length) (h0 : 0 < s.size) (hq : s[0] = 34 ∨ s[0] = 39) (T : Option (List UInt8)) (hT : unAt s[0] (inside s.data.toList) 0 [] = T) :
  Calls Tryz.prog 39 #[.string s] w (UnqPost w (unqRes T)) := by
 have h2 := (litEnd_two hl).1
 have hil := inside_len h2
 rw [len_data] at hl h2 hil
 have hw : IntKind.i64.wrap ((s.size : Int) - 1) = (s.size : Int) - 1 := by rw [IntKind.wrap_i64]; omega
 have hnb : ((s.size : Int) != (s.size : Int)) = false := by simp
 have hq96 : ((s[0].toNat : Int) == 96) = false := by rcases hq with h | h <;> (rw [h]; rfl)
 obtain ⟨i0, hi0, hz0, hz1, hz2⟩ := info_parts info_u8
 have HL := Lib.hid hl
 have HQ := Lib.hid hq
 have HT := Lib.hid hT
 have HI := Lib.hid hil
 have HID := Lib.hid (fun m => inside_drop s.data.toList m)
 obtain ⟨I, hI⟩ : ∃ I, I = inside s.data.toList := ⟨_, rfl⟩
 have HAT : Hid (∀ k (h : k < s.size - 2), atB I k = s[k + 1]'(by omega)) := Lib.hid (fun k h => by rw [hI]; exact inside_at h)
 rw [← hI] at HT HI HID
 clear hl hq hT hil hI
 go_enter Tryz.func39, Tryz.ntmps39
 go_wp2_with fail
 refine (r01_valid s _ (by omega)).mono ?_
 rintro e w1 ⟨rfl, hb⟩
 rw [hv]
 clear hv
 go_wp2_with fail
 refine (r01_literal s 0 _ (by omega)).mono ?_
 rintro e w2 ⟨rfl, rfl⟩
 rw [HL.out]
 simp only [optN, optE]
 go_wp2_with fail
 go_loopw [7, 8] (fun v x wr => ∃ (k : Nat) (bs : List UInt8), k ≤ s.size - 2 ∧ bs.length ≤ k ∧ x = .int .i64 ((k : Int) + 1) ∧ wr.ownsRow w.heap.size 5 1 v bs.length (cellsOf bs) ∧ Below w.heap.size w wr ∧ Hid (unAt s[0] I k bs = T)) (fun _ x _ => s.size - (intOf x).toNat)
 case atStart => exact ⟨0, [], Nat.zero_le _, Nat.le_refl _, rfl, World.ownsRow_nil _ _ _ _, hb, HT.out⟩
 case round =>
  obtain ⟨k, bs, hk, hbs, rfl, hown, hbel, hT⟩ := hrel
  clear HT hb
  by_cases hlt : k < s.size - 2
  ·have hkI : k < I.length := by rw [HI.out]; exact hlt
   have hat : atB I k = s[k + 1] := HAT.out k hlt
   have p1 : ((k : Int) + 1 < (s.size : Int) - 1) = True := eq_true (by omega)
   cases hc : ((s[k + 1].toNat : Int) != 92)
   ·have hc92 : atB I k = 92 := by rw [hat]; exact litT (n := 92) (by omega) rfl (by simpa [bne] using hc)
    have hrest : (s.data.toList.take (s.size - 1)).drop (k + 1 + 1) = I.drop (k + 1) := by rw [HID.out, len_data]
    cases he : escOut s[0] (I.drop (k + 1)) with
    |none =>
     have hTn := (unAt_none (bs := bs) hkI hc92 he).symm.trans hT.out
     have hes := escW_none he
     rw [← hrest] at hes
     have HE := Lib.hid hes
     have HTn := Lib.hid hTn
     clear hc92 hrest he hTn hes hat hT hkI
     go_wp2_with fail
     refine (r01_escape' s _ _ (k + 1) (s.size - 1) (by omega) (by omega) s[0] _ (by omega) (by omega) (by omega) HQ.out).mono ?_
     rintro e w4 ⟨rfl, hb4⟩
     rw [HE.out]
     have HB := Lib.hid (hbel.trans (hb4.mono hbel.size))
     clear hb4 hown hbel
     go_wp2_with fail
     go_ret2
     exact ⟨by rw [← HTn.out]; rfl, HB.out⟩
    |some p =>
     obtain ⟨b, n⟩ := p
     have hn := escOut_n he
     have hTn := (unAt_esc (bs := bs) hkI hc92 he).trans hT.out
     have hes := escW_some he
     rw [← hrest] at hes
     rw [List.length_drop, HI.out] at hn
     obtain ⟨hn1, hn2, hn3⟩ := hn
     have HE := Lib.hid hes
     have HTn := Lib.hid hTn
     clear hc92 hrest he hTn hes hat hT hkI
     go_wp2_with fail
     refine (r01_escape' s _ _ (k + 1) (s.size - 1) (by omega) (by omega) s[0] _ (by omega) (by omega) (by omega) HQ.out).mono ?_
     rintro e w4 ⟨rfl, hb4⟩
     rw [HE.out]
     have hnb0 : (((n + 1 : Nat) : Int) == 0) = false := by rw [beq_eq_false_iff_ne]; omega
     have HB := Lib.hid (hbel.trans (hb4.mono hbel.size))
     have HO := Lib.hid (own_below hown hb4)
     have hsz : (⟨b.toArray⟩ : ByteArray).size = b.length := by simp [ByteArray.size]
     clear hb4 hown hbel
     obtain ⟨B, hB⟩ : ∃ B : ByteArray, B = ⟨b.toArray⟩ := ⟨_, rfl⟩
     have hBc : Lib.strCells B = cellsOf b := by rw [hB]; simp [cellsOf, Lib.strCells]
     simp only
     rw [← hB] at hsz ⊢
     have HBc := Lib.hid hBc
     clear hB hBc
     obtain ⟨ao, c', rfl⟩ := own_formR HO.out
     go_wp2_with (at_builtin; refine Lib.wpList_append_own_string _ rfl _ _ 40 9 rfl w.heap.size 5 i0 Tryz.underlying40 Tryz.underlying9 hi0 hz0 hz1 hz2 _ _ _ rfl HO.out B rfl (by unfold maxLen; omega) (by omega) HB.out.size ?_)
     intro v3 w3 hown3 hgr3 _
     have HB3 := Lib.hid (HB.out.grown hgr3 HB.out.size (fun g hg => (HO.out.lt g hg).1))
     have HO3 := Lib.hid hown3
     clear hown3 hgr3
     go_wp2_with fail
     exact ⟨⟨k + 1 + n, bs ++ b, by omega, by rw [List.length_append]; omega, by apply rz_vi; omega, by rw [cellsOf_append, List.length_append, ← HBc.out]; exact HO3.out, HB3.out, HTn.out⟩, by simp [intOf]; omega⟩
   ·have hc92 : atB I k ≠ 92 := by rw [hat]; exact litF (n := 92) (by omega) rfl (by simpa [bne] using hc)
    have hTn := (unAt_plain (q := s[0]) (bs := bs) hkI hc92).trans hT.out
    rw [hat] at hTn
    have HTn := Lib.hid hTn
    clear hc92 hat hTn hT
    go_wp2_with (at_builtin; refine wpList_push rfl (.tmp 42) (.tmp 46) 40 rfl w.heap.size 5 (.int .u8 0) 1 1 info_u8 Tryz.underlying40 rfl (by omega) _ bs.length _ rfl hown [.int .u8 (s[k + 1].toNat : Int)] rfl rfl (one1 rfl) (by unfold maxLen; omega) (by omega) hbel.size ?_)
    intro v' w4 ho hg
    have HB := Lib.hid (hbel.grown hg hbel.size (fun g hg2 => (hown.lt g hg2).1))
    have HO := Lib.hid ho
    clear ho hg hown hbel
    go_wp2_with fail
    exact ⟨⟨k + 1, bs ++ [s[k + 1]], by omega, by simp; omega, by go_num, by rw [cellsOf_append, List.length_append]; exact HO.out, HB.out, HTn.out⟩, by simp [intOf]; omega⟩
  ·have p1 : ((k : Int) + 1 < (s.size : Int) - 1) = False := eq_false (by omega)
   have hTe := (unAt_end (q := s[0]) (bs := bs) (k := k) (by rw [HI.out]; omega)).symm.trans hT.out
   have HTe := Lib.hid hTe
   have hback := run_string_own (P := Tryz.prog) hown 40 9 Tryz.underlying40 Tryz.underlying5 Tryz.underlying9
   have hsz : (⟨bs.toArray⟩ : ByteArray).size ≤ 281474976710656 := by simp [ByteArray.size]; omega
   have HS := Lib.hid hsz
   clear hTe hT hsz
   go_wp2_with fail
   refine (r01_valid ⟨bs.toArray⟩ _ HS.out).mono ?_
   rintro e w4 ⟨rfl, hb4⟩
   have hown4 := own_below hown hb4
   have hback4 := run_string_own (P := Tryz.prog) hown4 40 9 Tryz.underlying40 Tryz.underlying5 Tryz.underlying9
   have HB := Lib.hid (hbel.trans (hb4.mono hbel.size))
   clear hown hown4 hbel hb4 hback
   rw [show ((⟨bs.toArray⟩ : ByteArray).data.toList) = bs from by simp]
   cases hvb : valid bs
   ·have HV := Lib.hid hvb
    clear hvb
    go_wp2_with fail
    go_ret2
    exact ⟨by rw [← HTe.out, unqRes]; simp [HV.out], HB.out⟩
   ·have HV := Lib.hid hvb
    clear hvb
    go_wp2_with fail
    go_ret2
    exact ⟨by rw [← HTe.out, unqRes]; simp [HV.out], HB.out⟩
theorem r01_unquote (s : ByteArray) (w : World) (hs : s.size ≤ 281474976710) :
  Calls Tryz.prog 39 #[.string s] w (UnqPost w (unquote s.data.toList)) := by
 unfold unquote
 cases hv : valid s.data.toList
 ·rw [if_pos rfl]
  exact r01_unquote_bad s w (by omega) hv
 ·rw [if_neg (by simp)]
  by_cases hl : litEnd s.data.toList 0 = some s.data.toList.length
  ·rw [if_neg (by simpa using hl)]
   have h2 := (litEnd_two hl).1
   have h0 : 0 < s.size := by rw [len_data] at h2; omega
   have hat := atB_lt h0
   have hqq := (litEnd_two hl).2
   rw [hat] at hqq ⊢
   by_cases hq : s[0] = 96
   ·rw [if_pos hq]
    exact r01_unquote_raw s w hs hv hl h0 (by rw [hq]; rfl)
   ·rw [if_neg hq]
    have hq' : s[0] = 34 ∨ s[0] = 39 := by
     simp only [isQuote, Bool.or_eq_true, beq_iff_eq] at hqq
     rcases hqq with (h | h) | h
     ·exact .inl h
     ·exact .inr h
     ·exact absurd h hq
    have hT : unAt s[0] (inside s.data.toList) 0 [] = unesc s[0] s.data.toList.length (inside s.data.toList) := by
     rw [unAt, List.drop_zero, unesc_fuel s[0] (inside s.data.toList).length s.data.toList.length _ (Nat.le_refl _) (by rw [inside_len h2]; omega)]
     cases unesc s[0] s.data.toList.length (inside s.data.toList) <;> simp
    exact r01_unquote_esc s w hs hv hl h0 hq' _ hT
  ·rw [if_pos hl]
   exact r01_unquote_open s w (by omega) hv hl
end Go.Proofs.YtpkeonafcldkhaaGreatDoor
