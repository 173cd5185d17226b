import Derived.Test.YtpkeonafcldkhaaGreatDoorQ08
/- Part of the proof of YtpkeonafcldkhaaGreatDoorCardS CardV: RaB RaC. -/
set_option linter.unusedVariables false
set_option linter.unusedSimpArgs false
namespace Go.Proofs.YtpkeonafcldkhaaGreatDoor
open Go.RowKit
theorem r01_literal_out (s : ByteArray) (i : Nat) (w : World) (hi : s.size ≤ i) :
  Calls Tryz.prog 58 #[.string s, .int .i64 (i : Int)] w fun e w' => e = .returned (.tuple #[.int .i64 0, .int .i64 10]) ∧ w = w' := by
 go_enter Tryz.func58, Tryz.ntmps58
 go_wp2_with fail
 go_ret2
 exact ⟨rfl, rfl⟩
theorem r01_literal_no (s : ByteArray) (i : Nat) (w : World) (hi : i < s.size) (h1 : s[i].toNat < 34 ∨ 34 < s[i].toNat) (h2 : s[i].toNat < 39 ∨ 39 < s[i].toNat) (h3 : s[i].toNat < 96 ∨ 96 < s[i].toNat) :
  Calls Tryz.prog 58 #[.string s, .int .i64 (i : Int)] w fun e w' => e = .returned (.tuple #[.int .i64 0, .int .i64 10]) ∧ w = w' := by
 have b1 : ((s[i].toNat : Int) != 34) = true := by rw [bne_iff_ne]; omega
 have b2 : ((s[i].toNat : Int) != 39) = true := by rw [bne_iff_ne]; omega
 have b3 : ((s[i].toNat : Int) != 96) = true := by rw [bne_iff_ne]; omega
 clear h1 h2 h3
 go_enter Tryz.func58, Tryz.ntmps58
 go_wp2_with fail
 go_ret2
 exact ⟨rfl, rfl⟩
set_option maxRecDepth 100000 in
set_option maxHeartbeats 1000000 in
theorem r01_literal_raw (s : ByteArray) (i : Nat) (w : World) (hs : s.size ≤ 281474976710656) (hi : i < s.size) (T : Option Nat) (hT : LitRel s s[i] T (i + 1)) (hq : s[i] = 96)
  (hb1 : ((s[i].toNat : Int) != 34) = true) (hb2 : ((s[i].toNat : Int) != 39) = true) (hb3 : ((s[i].toNat : Int) != 96) = false) :
  Calls Tryz.prog 58 #[.string s, .int .i64 (i : Int)] w fun e w' => e = .returned (.tuple #[.int .i64 (optN T), .int .i64 (optE 10 T)]) ∧ w = w' := by
 have hi0 : decide ((i : Int) < 0) = false := by simp
 have hi1 : decide (s.size ≤ i) = false := by simpa using hi
 have hi2 : decide ((s.size : Int) ≤ (i : Int)) = false := by simpa using hi
 have HT := Lib.hid hT
 have HQ := Lib.hid hq
 clear hT hq
 all_goals
  go_enter Tryz.func58, Tryz.ntmps58
  go_wp2_with fail
  go_loop [7] (fun t => ∃ k : Nat, k ≤ s.size + 1 ∧ t = .int .i64 k ∧ LitRel s s[i] T k) (fun t => s.size + 1 - (intOf t).toNat)
  case atStart => exact ⟨i + 1, by omega, by go_num, HT.out⟩
  case round =>
   obtain ⟨k, hk, rfl, hrel⟩ := hrel
   clear HT
   have HR := Lib.hid hrel
   clear hrel
   by_cases hlt : k < s.size
   ·cases h1 : ((s[k].toNat : Int) == (s[i].toNat : Int))
    ·go_wp2_with fail
     go_round
     case rel => exact ⟨k + 1, by omega, by go_num, lit_raw HR.out HQ.out hlt (u8F h1)⟩
     case measure => simp [intOf]; omega
    ·go_wp2_with fail
     go_ret2
     exact ⟨ret_lit (lit_hit HR.out hlt (u8T h1)) (by simp [optN]) rfl, rfl⟩
   ·go_wp2_with fail
    go_ret2
    exact ⟨ret_lit (lit_out HR.out (by omega)) rfl rfl, rfl⟩
set_option maxRecDepth 100000 in
set_option maxHeartbeats 2000000 in
theorem r01_literal_esc (s : ByteArray) (i : Nat) (w : World) (hs : s.size ≤ 281474976710656) (hi : i < s.size) (T : Option Nat) (hT : LitRel s s[i] T (i + 1)) (hq : s[i] ≠ 96)
  (b1 b2 : Bool) (hb1 : ((s[i].toNat : Int) != 34) = b1) (hb2 : ((s[i].toNat : Int) != 39) = b2) (hb4 : ((s[i].toNat : Int) != 96) = true) (hbb : (b1 && b2) = false) :
  Calls Tryz.prog 58 #[.string s, .int .i64 (i : Int)] w fun e w' => e = .returned (.tuple #[.int .i64 (optN T), .int .i64 (optE 10 T)]) ∧ w = w' := by
 have hi0 : decide ((i : Int) < 0) = false := by simp
 have hi1 : decide (s.size ≤ i) = false := by simpa using hi
 have hi2 : decide ((s.size : Int) ≤ (i : Int)) = false := by simpa using hi
 have HT := Lib.hid hT
 have HQ := Lib.hid hq
 clear hT hq
 cases b1 <;> cases b2 <;> first | (simp at hbb; done) | skip
 all_goals
  clear hbb
  go_enter Tryz.func58, Tryz.ntmps58
  go_wp2_with fail
  go_loop [7] (fun t => ∃ k : Nat, k ≤ s.size + 1 ∧ t = .int .i64 k ∧ LitRel s s[i] T k) (fun t => s.size + 1 - (intOf t).toNat)
  case atStart => exact ⟨i + 1, by omega, by go_num, HT.out⟩
  case round =>
   obtain ⟨k, hk, rfl, hrel⟩ := hrel
   clear HT
   have HR := Lib.hid hrel
   clear hrel
   by_cases hlt : k < s.size
   ·cases h1 : ((s[k].toNat : Int) == (s[i].toNat : Int))
    ·cases h2 : ((s[k].toNat : Int) == 10)
     ·cases h3 : ((s[k].toNat : Int) == 92)
      ·go_wp2_with fail
       go_round
       case rel => exact ⟨k + 1, by omega, by go_num, lit_plain HR.out HQ.out hlt (u8F h1) (litF (n := 10) (by omega) rfl h2) (litF (n := 92) (by omega) rfl h3)⟩
       case measure => simp [intOf]; omega
      ·by_cases hlt2 : k + 1 < s.size
       ·cases h4 : ((s[k + 1].toNat : Int) == 10)
        ·go_wp2_with fail
         go_round
         case rel => first | exact ⟨k + 2, by omega, by go_num, lit_esc HR.out HQ.out hlt2 (u8F h1) (litT (n := 92) (by omega) rfl h3) (litF (n := 10) (by omega) rfl h4)⟩ | ((repeat apply Exists.intro); exact ⟨⟨k + 2, by omega, by go_num, lit_esc HR.out HQ.out hlt2 (u8F h1) (litT (n := 92) (by omega) rfl h3) (litF (n := 10) (by omega) rfl h4)⟩, rfl⟩)
         case measure => simp [intOf]; omega
        ·go_wp2_with fail
         go_ret2
         exact ⟨ret_lit (lit_esc_nl HR.out HQ.out hlt2 (u8F h1) (litT (n := 92) (by omega) rfl h3) (litT (n := 10) (by omega) rfl h4)) rfl rfl, rfl⟩
       ·go_wp2_with fail
        go_round
        case rel => first | exact ⟨k + 2, by omega, by go_num, lit_esc_end HR.out (by omega) (u8F h1)⟩ | ((repeat apply Exists.intro); exact ⟨⟨k + 2, by omega, by go_num, lit_esc_end HR.out (by omega) (u8F h1)⟩, rfl⟩)
        case measure => simp [intOf]; omega
     ·go_wp2_with fail
      go_ret2
      exact ⟨ret_lit (lit_nl HR.out HQ.out hlt (u8F h1) (litT (n := 10) (by omega) rfl h2)) rfl rfl, rfl⟩
    ·go_wp2_with fail
     go_ret2
     exact ⟨ret_lit (lit_hit HR.out hlt (u8T h1)) (by simp [optN]) rfl, rfl⟩
   ·go_wp2_with fail
    go_ret2
    exact ⟨ret_lit (lit_out HR.out (by omega)) rfl rfl, rfl⟩
theorem r01_literal (s : ByteArray) (i : Nat) (w : World) (hs : s.size ≤ 281474976710656) :
  Calls Tryz.prog 58 #[.string s, .int .i64 (i : Int)] w fun e w' => e = .returned (.tuple #[.int .i64 (optN (litEnd s.data.toList i)), .int .i64 (optE 10 (litEnd s.data.toList i))]) ∧ w = w' := by
 by_cases hi : i < s.size
 ·have hil : i < s.data.toList.length := by rw [len_data]; exact hi
  have hat := atB_lt hi
  by_cases hq : isQuote s[i] = true
  ·have hT : LitRel s s[i] (litEnd s.data.toList i) (i + 1) := by
    refine ⟨by omega, ?_⟩
    rw [litEnd, if_pos ⟨hil, by rw [hat]; exact hq⟩, hat]; rfl
   by_cases h96 : s[i] = 96
   ·have e : s[i].toNat = 96 := by rw [h96]; rfl
    exact r01_literal_raw s i w hs hi _ hT h96 (by rw [bne_iff_ne]; omega) (by rw [bne_iff_ne]; omega) (by rw [e]; rfl)
   ·have e : s[i].toNat = 34 ∨ s[i].toNat = 39 := by
     simp only [isQuote, Bool.or_eq_true, beq_iff_eq] at hq
     rcases hq with (h | h) | h
     ·left; rw [h]; rfl
     ·right; rw [h]; rfl
     ·exact absurd h h96
    rcases e with e | e
    ·exact r01_literal_esc s i w hs hi _ hT h96 false true (by rw [e]; rfl) (by rw [e]; rfl) (by rw [e]; rfl) rfl
    ·exact r01_literal_esc s i w hs hi _ hT h96 true false (by rw [e]; rfl) (by rw [e]; rfl) (by rw [e]; rfl) rfl
  ·have hT : litEnd s.data.toList i = none := by rw [litEnd, if_neg]; rw [hat]; exact fun h => hq h.2
   rw [hT]
   have h1 : s[i].toNat ≠ 34 := fun e => hq (by simp [isQuote, u8_lit (n := 34) (by omega) e])
   have h2 : s[i].toNat ≠ 39 := fun e => hq (by simp [isQuote, u8_lit (n := 39) (by omega) e])
   have h3 : s[i].toNat ≠ 96 := fun e => hq (by simp [isQuote, u8_lit (n := 96) (by omega) e])
   exact r01_literal_no s i w hi (by omega) (by omega) (by omega)
 ·have hT : litEnd s.data.toList i = none := by rw [litEnd, if_neg]; rw [len_data]; exact fun h => hi h.1
  rw [hT]
  exact r01_literal_out s i w (by omega)
theorem r01_digit (c : UInt8) (w : World) :
  Calls Tryz.prog 114 #[.int .u8 (c.toNat : Int)] w fun e w' => e = .returned (.int .i64 (digI c)) ∧ w = w' := by
 by_cases h1 : 48 ≤ c.toNat ∧ c.toNat ≤ 57
 ·have hf := Lib.hid (show digI c = (c.toNat : Int) - 48 by rw [digI, digVal, if_pos h1]; simp; omega)
  obtain ⟨h1, h2⟩ := h1
  go_enter Tryz.func114, Tryz.ntmps114
  go_wp2_with fail
  go_ret
  exact ⟨ret_int (by rw [hf.out]), rfl⟩
 ·by_cases h2 : 97 ≤ c.toNat ∧ c.toNat ≤ 102
  ·have hf := Lib.hid (show digI c = (c.toNat : Int) - 97 + 10 by rw [digI, digVal, if_neg h1, if_pos h2]; simp; omega)
   obtain ⟨h2, h3⟩ := h2
   clear h1
   go_enter Tryz.func114, Tryz.ntmps114
   go_wp2_with fail
   go_ret
   exact ⟨ret_int (by rw [hf.out]), rfl⟩
  ·by_cases h3 : 65 ≤ c.toNat ∧ c.toNat ≤ 70
   ·have hf := Lib.hid (show digI c = (c.toNat : Int) - 65 + 10 by rw [digI, digVal, if_neg h1, if_neg h2, if_pos h3]; simp; omega)
    obtain ⟨h3, h4⟩ := h3
    clear h1 h2
    go_enter Tryz.func114, Tryz.ntmps114
    go_wp2_with fail
    go_ret
    exact ⟨ret_int (by rw [hf.out]), rfl⟩
   ·have hf := Lib.hid (show digI c = -1 by rw [digI, digVal, if_neg h1, if_neg h2, if_neg h3])
    have hc : c.toNat < 48 ∨ (57 < c.toNat ∧ c.toNat < 65) ∨ (70 < c.toNat ∧ c.toNat < 97) ∨ 102 < c.toNat := by omega
    clear h1 h2 h3
    rcases hc with h | ⟨h, h'⟩ | ⟨h, h'⟩ | h
    all_goals
     go_enter Tryz.func114, Tryz.ntmps114
     go_wp2_with fail
     go_ret
     exact ⟨ret_int (by rw [hf.out]), rfl⟩
theorem lit_s1 (w : World) (a : Int) (c : UInt8) (h : a = (c.toNat : Int)) :
  (convert 40 9 (.slice (some ⟨w.heap.size, 0, none⟩) 1 1)).run Tryz.prog (w.alloc (.cells #[.int .u8 a] 5)) = .ok (.string ⟨#[c]⟩) (w.alloc (.cells #[.int .u8 a] 5)) := by
 subst h
 have ho : (w.alloc (.cells #[.int .u8 (c.toNat : Int)] 5)).ownsRow w.heap.size 5 1 (.slice (some ⟨w.heap.size, 0, none⟩) 1 1) 1 (cellsOf [c]) := World.ownsRow_lit (e := 5) (size := 1) w #[.int .u8 (c.toNat : Int)] 1 (Nat.le_refl _) (by unfold maxLen; omega) rfl
 exact run_string_own (P := Tryz.prog) ho 40 9 Tryz.underlying40 Tryz.underlying5 Tryz.underlying9
theorem lit_s2 (w : World) (a b : Int) (c d : UInt8) (h : a = (c.toNat : Int)) (h2 : b = (d.toNat : Int)) :
  (convert 40 9 (.slice (some ⟨w.heap.size, 0, none⟩) 2 2)).run Tryz.prog (w.alloc (.cells #[.int .u8 a, .int .u8 b] 5)) = .ok (.string ⟨#[c, d]⟩) (w.alloc (.cells #[.int .u8 a, .int .u8 b] 5)) := by
 subst h h2
 have ho : (w.alloc (.cells #[.int .u8 (c.toNat : Int), .int .u8 (d.toNat : Int)] 5)).ownsRow w.heap.size 5 1 (.slice (some ⟨w.heap.size, 0, none⟩) 2 2) 2 (cellsOf [c, d]) := World.ownsRow_lit (e := 5) (size := 1) w #[.int .u8 (c.toNat : Int), .int .u8 (d.toNat : Int)] 2 (Nat.le_refl _) (by unfold maxLen; omega) rfl
 exact run_string_own (P := Tryz.prog) ho 40 9 Tryz.underlying40 Tryz.underlying5 Tryz.underlying9
theorem lit_s3 (w : World) (a b x : Int) (c d e : UInt8) (h : a = (c.toNat : Int)) (h2 : b = (d.toNat : Int)) (h3 : x = (e.toNat : Int)) :
  (convert 40 9 (.slice (some ⟨w.heap.size, 0, none⟩) 3 3)).run Tryz.prog (w.alloc (.cells #[.int .u8 a, .int .u8 b, .int .u8 x] 5)) = .ok (.string ⟨#[c, d, e]⟩) (w.alloc (.cells #[.int .u8 a, .int .u8 b, .int .u8 x] 5)) := by
 subst h h2 h3
 have ho : (w.alloc (.cells #[.int .u8 (c.toNat : Int), .int .u8 (d.toNat : Int), .int .u8 (e.toNat : Int)] 5)).ownsRow w.heap.size 5 1 (.slice (some ⟨w.heap.size, 0, none⟩) 3 3) 3 (cellsOf [c, d, e]) := World.ownsRow_lit (e := 5) (size := 1) w #[.int .u8 (c.toNat : Int), .int .u8 (d.toNat : Int), .int .u8 (e.toNat : Int)] 3 (Nat.le_refl _) (by unfold maxLen; omega) rfl
 exact run_string_own (P := Tryz.prog) ho 40 9 Tryz.underlying40 Tryz.underlying5 Tryz.underlying9
theorem lit_s4 (w : World) (a b x y : Int) (c d e f : UInt8) (h : a = (c.toNat : Int)) (h2 : b = (d.toNat : Int)) (h3 : x = (e.toNat : Int)) (h4 : y = (f.toNat : Int)) :
  (convert 40 9 (.slice (some ⟨w.heap.size, 0, none⟩) 4 4)).run Tryz.prog (w.alloc (.cells #[.int .u8 a, .int .u8 b, .int .u8 x, .int .u8 y] 5)) = .ok (.string ⟨#[c, d, e, f]⟩) (w.alloc (.cells #[.int .u8 a, .int .u8 b, .int .u8 x, .int .u8 y] 5)) := by
 subst h h2 h3 h4
 have ho : (w.alloc (.cells #[.int .u8 (c.toNat : Int), .int .u8 (d.toNat : Int), .int .u8 (e.toNat : Int), .int .u8 (f.toNat : Int)] 5)).ownsRow w.heap.size 5 1 (.slice (some ⟨w.heap.size, 0, none⟩) 4 4) 4 (cellsOf [c, d, e, f]) := World.ownsRow_lit (e := 5) (size := 1) w #[.int .u8 (c.toNat : Int), .int .u8 (d.toNat : Int), .int .u8 (e.toNat : Int), .int .u8 (f.toNat : Int)] 4 (Nat.le_refl _) (by unfold maxLen; omega) rfl
 exact run_string_own (P := Tryz.prog) ho 40 9 Tryz.underlying40 Tryz.underlying5 Tryz.underlying9
theorem u8_val {x : Nat} (h : x < 256) : ((UInt8.ofNat x).toNat : Int) = (x : Int) := by
 simp; omega
def numI (o : Option Nat) : Int := match o with | some v => v | none => -1
set_option maxRecDepth 100000 in
set_option maxHeartbeats 1000000 in
theorem r01_number (s : ByteArray) (i k base en : Nat) (w : World) (hs : s.size ≤ 281474976710656) (hi : i ≤ 281474976710657) (hk1 : 1 ≤ k) (hk : k ≤ 8) (hen : en ≤ s.size) (hbase : base = 8 ∨ base = 16) :
  Calls Tryz.prog 89 #[.string s, .int .i64 (i : Int), .int .i64 (k : Int), .int .i64 (base : Int), .int .i64 (en : Int)] w fun e w' => e = .returned (.int .i64 (numI (digs ((s.data.toList.take en).drop i) k base))) ∧ w = w' := by
 obtain ⟨V, hV⟩ : ∃ V, V = numI (digs ((s.data.toList.take en).drop i) k base) := ⟨_, rfl⟩
 rw [← hV]
 have hlen : ((s.data.toList.take en).drop i).length = en - i := by rw [List.length_drop, List.length_take, len_data, Nat.min_eq_left hen]
 by_cases ho : en < i + k
 ·have hT : V = -1 := by
   rw [hV, digs, if_pos (by rw [hlen]; omega)]; rfl
  have HT := Lib.hid hT
  clear hV hT hlen hbase
  go_enter Tryz.func89, Tryz.ntmps89
  go_wp2_with fail
  go_ret
  exact ⟨ret_int HT.out.symm, rfl⟩
 ·obtain ⟨D, hD⟩ : ∃ D, D = ((s.data.toList.take en).drop i).take k := ⟨_, rfl⟩
  have hDl : D.length = k := by rw [hD, List.length_take, hlen]; omega
  have hie : ∀ j, j < k → i + j < s.size := fun j h => by omega
  have hDE : D.drop k = [] := List.drop_eq_nil_of_le (by omega)
  have hDat : ∀ j (h : j < k), D.drop j = s[i + j]'(hie j h) :: D.drop (j + 1) := by
   intro j h
   rw [List.drop_eq_getElem_cons (by rw [hDl]; exact h)]
   congr 1
   subst hD
   simp only [List.getElem_take, List.getElem_drop]
   exact gl _ _ _
  have hR : digs ((s.data.toList.take en).drop i) k base = digsGo base 0 D := by
   rw [digs, if_neg (by rw [hlen]; omega), hD]
  rw [hR] at hV
  generalize hT2 : digsGo base 0 D = R at hV
  have HV := Lib.hid hV
  have HT := Lib.hid hT2
  have HD := Lib.hid hDat
  have HDE := Lib.hid hDE
  clear hV hT2 hDat hR hDl hD hlen hDE
  rcases hbase with rfl | rfl
  all_goals
   go_enter Tryz.func89, Tryz.ntmps89
   go_wp2_with fail
   go_loop [11, 12] (fun n x => ∃ j v : Nat, j ≤ k ∧ x = .int .i64 j ∧ n = .int .i64 v ∧ v ≤ 4294967295 ∧ Hid (v < 16 ^ j) ∧ Hid (digsGo _ v (D.drop j) = R)) (fun _ x => k - (intOf x).toNat)
   case atStart => exact ⟨0, 0, Nat.zero_le _, rfl, rfl, by omega, Lib.hid (by simp), HT.out⟩
   case round =>
    obtain ⟨j, v, hj, rfl, rfl, hv, hpow, hT⟩ := hrel
    clear HT
    by_cases hlt : j < k
    ·have hij : i + j < s.size := by omega
     have hT2 := hT.out
     rw [HD.out j hlt, digsGo] at hT2
     clear hT
     cases hd : digVal s[i + j] with
     |none =>
      have hdi := digI_none hd
      rw [hd] at hT2
      have HT := Lib.hid hT2
      clear hT2 hd
      go_wp2_with (go_at_call 114; refine (r01_digit _ _).mono ?_; rintro e w' ⟨rfl, rfl⟩; rw [hdi])
      go_ret
      exact ⟨ret_int (by rw [HV.out, ← HT.out]; rfl), rfl⟩
     |some d =>
      have hdi := digI_some hd
      have hd16 := digVal_lt hd
      rw [hd] at hT2
      simp only at hT2
      clear hd
      split at hT2
      ·rename_i hdb
       have HT := Lib.hid hT2
       have hp := hpow.out
       have hp2 : (16 : Nat) ^ (j + 1) = 16 ^ j * 16 := Nat.pow_succ ..
       have hp3 : (16 : Nat) ^ (j + 1) ≤ 16 ^ 8 := Nat.pow_le_pow_right (by omega) (by omega)
       have hq : (v * 16 + d) < 16 ^ (j + 1) := by rw [hp2]; omega
       have hq2 : (v * 8 + d) < 16 ^ (j + 1) := by omega
       have hq3 : v * 16 + d ≤ 4294967295 := by
        have : (16 : Nat) ^ 8 = 4294967296 := by decide
        omega
       have HQ := Lib.hid hq
       have HQ2 := Lib.hid hq2
       clear hT2 hp hp2 hp3 hq hq2 hpow
       go_wp2_with (go_at_call 114; refine (r01_digit _ _).mono ?_; rintro e w' ⟨rfl, rfl⟩; rw [hdi])
       refine ⟨⟨trivial, ?_⟩, ?_⟩
       ·(repeat apply Exists.intro)
        first
         |exact ⟨⟨j + 1, _, by omega, by go_num, by go_num, by omega, HQ.out, HT.out⟩, rfl⟩
         |exact ⟨⟨j + 1, _, by omega, by go_num, by go_num, by omega, HQ2.out, HT.out⟩, rfl⟩
       ·simp [intOf]; omega
      ·rename_i hdb
       have HT := Lib.hid hT2
       clear hT2
       go_wp2_with (go_at_call 114; refine (r01_digit _ _).mono ?_; rintro e w' ⟨rfl, rfl⟩; rw [hdi])
       all_goals (go_ret; exact ⟨ret_int (by rw [HV.out, ← HT.out]; rfl), rfl⟩)
    ·have hjk : j = k := by omega
     have hT2 := hT.out
     rw [hjk, HDE.out, digsGo] at hT2
     have HT := Lib.hid hT2
     clear hT hT2 hpow
     go_wp2_with fail
     go_ret
     exact ⟨ret_int (by rw [HV.out, ← HT.out]; rfl), rfl⟩
set_option maxRecDepth 1000000 in
theorem r01_isRune (n : Int) (w : World) :
  Calls Tryz.prog 90 #[.int .i64 n] w fun e w' => e = .returned (.bool (decide (0 ≤ n) && isRuneN n.toNat)) ∧ w = w' := by
 go_enter Tryz.func90, Tryz.ntmps90
 go_wp2
 all_goals (go_ret; exact ⟨ret_bool (by rw [Bool.eq_iff_iff]; simp [isRuneN]; omega), rfl⟩)
set_option maxRecDepth 100000 in
set_option maxHeartbeats 1000000 in
theorem r01_form (n : Int) (w : World) :
  Calls Tryz.prog 91 #[.int .i64 n] w fun e w' => e = .returned (.string ⟨(formI n).toArray⟩) ∧ Below w.heap.size w w' := by
 obtain ⟨b, hb⟩ : ∃ b, b = (decide (0 ≤ n) && isRuneN n.toNat) := ⟨_, rfl⟩
 cases b
 ·have hE : formI n = [] := by
   rw [formI, if_neg]
   rintro ⟨h1, h2⟩
   rw [h2, decide_eq_true h1] at hb
   cases hb
  have HE := Lib.hid hE
  have HB := Lib.hid hb
  clear hE hb
  go_enter Tryz.func91, Tryz.ntmps91
  go_wp2_with fail
  refine (r01_isRune _ _).mono ?_
  rintro e w' ⟨rfl, rfl⟩
  rw [← HB.out]
  go_wp2_with fail
  go_ret
  exact ⟨by rw [HE.out]; rfl, Below.refl _ _⟩
 ·have hb2 := hb.symm
  rw [Bool.and_eq_true, decide_eq_true_eq] at hb2
  obtain ⟨m, rfl⟩ : ∃ m : Nat, n = m := ⟨n.toNat, by omega⟩
  have hE : formI (m : Int) = formB m := by rw [formI, if_pos hb2, Int.toNat_natCast]
  have hle : m ≤ 1114111 := by have := isRuneN_le hb2.2; simpa using this
  rw [hE]
  have HB := Lib.hid hb
  clear hb hb2 hE
  by_cases h1 : m < 128
  ·obtain ⟨c1, hc1⟩ : ∃ c, c = UInt8.ofNat (m) := ⟨_, rfl⟩
   have hF : formB m = [c1] := by rw [formB, if_pos h1, hc1]
   have HF := Lib.hid hF
   have hlit := lit_s1 w (m : Int) c1 (by have := u8_val (x := m) (by omega); rw [hc1]; omega)
   have hbel := (Below.refl w.heap.size w).alloc (Nat.le_refl _) (.cells #[.int .u8 (m : Int)] 5)
   have HB2 := Lib.hid hbel
   have x1 : (m : Int) < 128 := by omega
   clear hF hbel hc1 h1
   go_enter Tryz.func91, Tryz.ntmps91
   go_wp2_with fail
   refine (r01_isRune _ _).mono ?_
   rintro e w' ⟨rfl, rfl⟩
   rw [← HB.out]
   go_wp2_with fail
   go_ret
   exact ⟨by rw [HF.out]; rfl, HB2.out⟩
  ·by_cases h2 : m < 2048
   ·obtain ⟨c1, hc1⟩ : ∃ c, c = UInt8.ofNat (192 + m / 64) := ⟨_, rfl⟩
    obtain ⟨c2, hc2⟩ : ∃ c, c = UInt8.ofNat (128 + m % 64) := ⟨_, rfl⟩
    have hF : formB m = [c1, c2] := by rw [formB, if_neg h1, if_pos h2, hc1, hc2]
    have HF := Lib.hid hF
    have hlit := lit_s2 w (192 + (m : Int) / 64) (128 + (m : Int) % 64) c1 c2 (by have := u8_val (x := 192 + m / 64) (by omega); rw [hc1]; omega) (by have := u8_val (x := 128 + m % 64) (by omega); rw [hc2]; omega)
    have hbel := (Below.refl w.heap.size w).alloc (Nat.le_refl _) (.cells #[.int .u8 (192 + (m : Int) / 64), .int .u8 (128 + (m : Int) % 64)] 5)
    have HB2 := Lib.hid hbel
    have x1 : 128 ≤ (m : Int) := by omega
    have x2 : (m : Int) < 2048 := by omega
    clear hF hbel hc1 hc2 h1 h2
    go_enter Tryz.func91, Tryz.ntmps91
    go_wp2_with fail
    refine (r01_isRune _ _).mono ?_
    rintro e w' ⟨rfl, rfl⟩
    rw [← HB.out]
    go_wp2_with fail
    go_ret
    exact ⟨by rw [HF.out]; rfl, HB2.out⟩
   ·by_cases h3 : m < 65536
    ·obtain ⟨c1, hc1⟩ : ∃ c, c = UInt8.ofNat (224 + m / 4096) := ⟨_, rfl⟩
     obtain ⟨c2, hc2⟩ : ∃ c, c = UInt8.ofNat (128 + m / 64 % 64) := ⟨_, rfl⟩
     obtain ⟨c3, hc3⟩ : ∃ c, c = UInt8.ofNat (128 + m % 64) := ⟨_, rfl⟩
     have hF : formB m = [c1, c2, c3] := by rw [formB, if_neg h1, if_neg h2, if_pos h3, hc1, hc2, hc3]
     have HF := Lib.hid hF
     have hlit := lit_s3 w (224 + (m : Int) / 4096) (128 + (m : Int) / 64 % 64) (128 + (m : Int) % 64) c1 c2 c3 (by have := u8_val (x := 224 + m / 4096) (by omega); rw [hc1]; omega) (by have := u8_val (x := 128 + m / 64 % 64) (by omega); rw [hc2]; omega) (by have := u8_val (x := 128 + m % 64) (by omega); rw [hc3]; omega)
     have hbel := (Below.refl w.heap.size w).alloc (Nat.le_refl _) (.cells #[.int .u8 (224 + (m : Int) / 4096), .int .u8 (128 + (m : Int) / 64 % 64), .int .u8 (128 + (m : Int) % 64)] 5)
     have HB2 := Lib.hid hbel
     have x1 : 2048 ≤ (m : Int) := by omega
     have x2 : (m : Int) ≤ 65535 := by omega
     have ht : ((m : Int) < 65536) = True := eq_true (by omega)
     clear hF hbel hc1 hc2 hc3 h1 h2 h3
     go_enter Tryz.func91, Tryz.ntmps91
     go_wp2_with fail
     refine (r01_isRune _ _).mono ?_
     rintro e w' ⟨rfl, rfl⟩
     rw [← HB.out]
     go_wp2_with fail
     go_ret
     exact ⟨by rw [HF.out]; rfl, HB2.out⟩
    ·obtain ⟨c1, hc1⟩ : ∃ c, c = UInt8.ofNat (240 + m / 262144) := ⟨_, rfl⟩
     obtain ⟨c2, hc2⟩ : ∃ c, c = UInt8.ofNat (128 + m / 4096 % 64) := ⟨_, rfl⟩
     obtain ⟨c3, hc3⟩ : ∃ c, c = UInt8.ofNat (128 + m / 64 % 64) := ⟨_, rfl⟩
     obtain ⟨c4, hc4⟩ : ∃ c, c = UInt8.ofNat (128 + m % 64) := ⟨_, rfl⟩
     have hF : formB m = [c1, c2, c3, c4] := by rw [formB, if_neg h1, if_neg h2, if_neg h3, hc1, hc2, hc3, hc4]
     have HF := Lib.hid hF
     have hlit := lit_s4 w (240 + (m : Int) / 262144) (128 + (m : Int) / 4096 % 64) (128 + (m : Int) / 64 % 64) (128 + (m : Int) % 64) c1 c2 c3 c4 (by have := u8_val (x := 240 + m / 262144) (by omega); rw [hc1]; omega) (by have := u8_val (x := 128 + m / 4096 % 64) (by omega); rw [hc2]; omega) (by have := u8_val (x := 128 + m / 64 % 64) (by omega); rw [hc3]; omega) (by have := u8_val (x := 128 + m % 64) (by omega); rw [hc4]; omega)
     have hbel := (Below.refl w.heap.size w).alloc (Nat.le_refl _) (.cells #[.int .u8 (240 + (m : Int) / 262144), .int .u8 (128 + (m : Int) / 4096 % 64), .int .u8 (128 + (m : Int) / 64 % 64), .int .u8 (128 + (m : Int) % 64)] 5)
     have HB2 := Lib.hid hbel
     have x1 : 65535 < (m : Int) := by omega
     have ht : ((m : Int) < 65536) = False := eq_false (by omega)
     clear hF hbel hc1 hc2 hc3 hc4 h1 h2 h3
     go_enter Tryz.func91, Tryz.ntmps91
     go_wp2_with fail
     refine (r01_isRune _ _).mono ?_
     rintro e w' ⟨rfl, rfl⟩
     rw [← HB.out]
     go_wp2_with fail
     go_ret
     exact ⟨by rw [HF.out]; rfl, HB2.out⟩
set_option maxRecDepth 100000 in
set_option maxHeartbeats 1000000 in
theorem r01_guess (s : ByteArray) (i v : Nat) (w : World) (hs : s.size ≤ 281474976710656) (h1 : 1 ≤ v) (h4 : v ≤ 4) (hi : i + v ≤ s.size) :
    Calls Tryz.prog 113 #[.string s, .int .i64 (i : Int), .int .i64 (v : Int)] w fun e w' => e = .returned (.int .i64 (guessI s.data.toList i v)) ∧ w = w' := by
  have hat := atB_lt (s := s) (i := i) (by omega)
  have hc : (s[i]'(by omega)).toNat < 256 := UInt8.toNat_lt _
  obtain ⟨V, hV⟩ : ∃ V, V = guessI s.data.toList i v := ⟨_, rfl⟩
  rw [← hV]
  rw [guessI, hat] at hV
  by_cases hv1 : v = 1
  · subst hv1
    have hV2 : V = ((s[i]'(by omega)).toNat : Int) := by rw [hV]; simp [gP, offW]
    have HV := Lib.hid hV2
    clear hV hV2 hat
    go_enter Tryz.func113, Tryz.ntmps113
    go_wp2_with fail
    go_ret
    exact ⟨ret_int HV.out.symm, rfl⟩
  · have hgb := gP_bound s.data.toList i (((s[i]'(by omega)).toNat : Int) - offW v) (by unfold offW; repeat' split
                                                                                        all_goals omega)
    have hv : v = 2 ∨ v = 3 ∨ v = 4 := by omega
    obtain ⟨b3, b4, O, e3, e4, hO, hcase⟩ : ∃ (b3 b4 : Bool) (O : Int), ((v : Int) == 3) = b3 ∧ ((v : Int) == 4) = b4 ∧ offW v = O ∧ ((b3 = false ∧ b4 = false ∧ O = 192) ∨ (b3 = true ∧ b4 = false ∧ O = 224) ∨ (b3 = false ∧ b4 = true ∧ O = 240)) :=
      ⟨_, _, _, rfl, rfl, rfl, by rcases hv with rfl | rfl | rfl <;> decide⟩
    rw [hO] at hV hgb
    have e1 : ((v : Int) == 1) = false := beq_eq_false_iff_ne.2 (by omega)
    have his : ∀ j, j + 1 < v → i + (j + 1) < s.size := fun j h => by omega
    have HI := Lib.hid his
    have hlt0 : i < s.size := by omega
    clear hat hv hO his
    obtain ⟨N0, hN0⟩ : ∃ N0, N0 = ((s[i]'hlt0).toNat : Int) - O := ⟨_, rfl⟩
    rw [← hN0] at hV hgb
    have HN := Lib.hid hN0
    have HG := Lib.hid hgb
    have HV := Lib.hid hV
    clear hV hgb hN0
    rcases hcase with ⟨rfl, rfl, rfl⟩ | ⟨rfl, rfl, rfl⟩ | ⟨rfl, rfl, rfl⟩
    all_goals
      go_enter Tryz.func113, Tryz.ntmps113
      go_wp2_with fail
      go_loop [8, 9] (fun n x => ∃ (j : Nat) (y : Int), j + 1 ≤ v ∧ x = .int .i64 ((j : Int) + 1) ∧ n = .int .i64 y ∧ -100000000 ≤ y ∧ y ≤ 100000000 ∧ Hid (y = gP s.data.toList i N0 j)) (fun _ x => v - (intOf x).toNat)
      case atStart =>
        have h0 := HG.out 0 (by omega)
        have hN1 := HN.out
        rw [gP] at h0
        exact ⟨0, N0, by omega, rfl, by rw [hN1], h0.1, h0.2, Lib.hid rfl⟩
      case round =>
        obtain ⟨j, y, hj, rfl, rfl, hy1, hy2, hY⟩ := hrel
        by_cases hlt : j + 1 < v
        · have hidx := HI.out j hlt
          have hb : (s[i + (j + 1)]).toNat < 256 := UInt8.toNat_lt _
          have hst := HG.out (j + 1) (by omega)
          rw [gP, ← hY.out, atB_lt hidx] at hst
          have hst2 : Hid (y * 64 + ((s[i + (j + 1)]).toNat : Int) - 128 = gP s.data.toList i N0 (j + 1)) := Lib.hid (by rw [gP, ← hY.out, atB_lt hidx])
          have HS := Lib.hid hst
          clear hst hY
          go_wp2_with fail
          exact ⟨⟨j + 1, _, by omega, by go_num, rfl, HS.out.1, HS.out.2, hst2⟩, by simp [intOf]; omega⟩
        · have hE : V = y := by rw [HV.out, hY.out, show v - 1 = j by omega]
          have HE := Lib.hid hE
          clear hE hY
          go_wp2_with fail
          go_ret
          exact ⟨ret_int HE.out.symm, rfl⟩
end Go.Proofs.YtpkeonafcldkhaaGreatDoor
