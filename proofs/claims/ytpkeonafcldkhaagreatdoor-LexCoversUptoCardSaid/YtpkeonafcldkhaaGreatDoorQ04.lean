import Derived.Test.YtpkeonafcldkhaaGreatDoorQ03
import Derived.Test.YtpkeonafcldkhaaGreatDoorProg
import Derived.Lib.Strings
/- Part of the proof of YtpkeonafcldkhaaGreatDoorCardS CardV: UtfA. -/
set_option linter.unusedVariables false
set_option linter.unusedSimpArgs false
namespace Go.Proofs.YtpkeonafcldkhaaGreatDoor
open Go.RowKit
set_option maxRecDepth 100000 in
theorem utf_replaced (s : ByteArray) (i : Nat) (w : World) (hs : s.size ≤ 281474976710656) (hi : i < s.size) :
  Calls Tryz.prog 105 #[.string s, .int .i64 (i : Int)] w fun e w' => e = .returned (.bool (repl s.data.toList i)) ∧ w = w' := by
 by_cases h3 : i + 3 ≤ s.size
 ·have hr : repl s.data.toList i = ((s.extract i (i + 3)).toList == [239, 191, 189]) := by
   rw [repl, ByteArray.toList_eq, Lib.extract_data, Nat.add_sub_cancel_left]
  have HR := Lib.hid hr
  clear hr
  go_enter Tryz.func105, Tryz.ntmps105
  go_wp2_with fail
  go_ret
  exact ⟨ret_bool (by rw [HR.out]), rfl⟩
 ·have hr : repl s.data.toList i = false := by
   cases h : repl s.data.toList i
   ·rfl
   ·have := congrArg List.length (beq_iff_eq.1 h)
    simp at this; omega
  have HR := Lib.hid hr
  clear hr
  go_enter Tryz.func105, Tryz.ntmps105
  go_wp2_with fail
  go_ret
  exact ⟨ret_bool (by rw [HR.out]), rfl⟩
set_option maxRecDepth 100000 in
set_option maxHeartbeats 400000 in
theorem utf_valid (s : ByteArray) (w : World) (hs : s.size ≤ 281474976710656) :
  Calls Tryz.prog 77 #[.string s] w fun e w' => e = .returned (.bool (valid s.data.toList)) ∧ Below w.heap.size w w' := by
 have h0 := Lib.hid (vFrom_zero s.data.toList)
 go_enter Tryz.func77, Tryz.ntmps77
 go_wp2_with fail
 go_loopw [] (fun w' => ∃ pos : Nat, pos ≤ s.size ∧ w' = w.iter s pos ∧ Hid (vFrom s.data.toList pos = valid s.data.toList)) (fun w' => s.size - w'.iterPos w.heap.size)
 case atStart => exact ⟨0, Nat.zero_le _, rfl, h0.out⟩
 case round =>
  obtain ⟨pos, hpos, rfl, hv⟩ := hrel
  by_cases hp : pos < s.size
  ·have hpl : pos < s.data.toList.length := by rw [len_data]; exact hp
   have hnx : ∀ ty, (Instr.next (.pointer (some ⟨w.heap.size, 0, none⟩)) true ty).run Tryz.prog (w.iter s pos) = _ := fun ty => run_next_any w s pos ty hp
   have hde := dec_eq s pos
   rw [hde] at hnx
   have hbc := bad_code s.data.toList pos hpl
   have hw1 := dec_pos s.data.toList pos
   have hw2 := dec_w s.data.toList pos hpl
   rw [len_data] at hw2
   have hst := @vFrom_step s.data.toList pos hpl
   have hbd := @vFrom_bad s.data.toList pos hpl
   generalize (dec s.data.toList pos).1 = r at hbc hnx
   generalize (dec s.data.toList pos).2 = d at hw1 hw2 hst hnx
   by_cases hr : r = 65533
   ·subst hr
    cases hrp : repl s.data.toList pos
    ·have hb : bad s.data.toList pos = true := by rw [hbc, hrp]; rfl
     have HF := Lib.hid ((hbd hb).symm.trans hv.out)
     clear hbc hst hbd hb hde
     go_wp2_with (go_at_call 105; refine (utf_replaced s pos _ hs hp).mono ?_; rintro e w' ⟨rfl, rfl⟩)
     go_ret
     exact ⟨ret_bool (by rw [← HF.out]), (Below.refl _ _).alloc (Nat.le_refl _) _⟩
    ·have hb : bad s.data.toList pos = false := by rw [hbc, hrp]; rfl
     have HF := Lib.hid ((hst hb).trans hv.out)
     clear hbc hst hbd hb hde
     go_wp2_with (go_at_call 105; refine (utf_replaced s pos _ hs hp).mono ?_; rintro e w' ⟨rfl, rfl⟩)
     go_roundw
     case rel => exact ⟨pos + d, by omega, rfl, HF.out⟩
     case measure => simp; omega
   ·have hb : bad s.data.toList pos = false := by rw [hbc, beq_eq_false_iff_ne.2 hr]; rfl
    have HF := Lib.hid ((hst hb).trans hv.out)
    have hrb : ((r : Int) == 65533) = false := by rw [beq_eq_false_iff_ne]; omega
    clear hbc hst hbd hb hde hr
    go_wp2_with fail
    go_roundw
    case rel => exact ⟨pos + d, by omega, rfl, HF.out⟩
    case measure => simp; omega
  ·have hnx : ∀ ty, (Instr.next (.pointer (some ⟨w.heap.size, 0, none⟩)) true ty).run Tryz.prog (w.iter s pos) = _ := fun ty => run_next_end w s pos ty hp
   have HF := Lib.hid ((vFrom_end (l := s.data.toList) (i := pos) (by rw [len_data]; omega)).symm.trans hv.out)
   go_wp2_with fail
   go_ret
   exact ⟨ret_bool (by rw [← HF.out]), (Below.refl _ _).alloc (Nat.le_refl _) _⟩
def optN (o : Option Nat) : Int := match o with | some n => n | none => 0
def optE (e : Int) (o : Option Nat) : Int := match o with | some _ => 0 | none => e
theorem u8_lit {a : UInt8} {n : Nat} (hn : n < 256) (h : a.toNat = n) : a = UInt8.ofNat n := (u8_eq hn).2 h
theorem utf_literal_out (s : ByteArray) (i : Nat) (w : World) (hi : s.size ≤ i) :
  Calls Tryz.prog 52 #[.string s, .int .i64 (i : Int)] w fun e w' => e = .returned (.tuple #[.int .i64 0, .int .i64 10]) ∧ w = w' := by
 go_enter Tryz.func52, Tryz.ntmps52
 go_wp2_with fail
 go_ret2
 exact ⟨rfl, rfl⟩
theorem utf_literal_no (s : ByteArray) (i : Nat) (w : World) (hi : i < s.size) (h1 : s[i].toNat < 34 ∨ 34 < s[i].toNat) (h2 : s[i].toNat < 39 ∨ 39 < s[i].toNat) (h3 : s[i].toNat < 96 ∨ 96 < s[i].toNat) :
  Calls Tryz.prog 52 #[.string s, .int .i64 (i : Int)] w fun e w' => e = .returned (.tuple #[.int .i64 0, .int .i64 10]) ∧ w = w' := by
 have b1 : ((s[i].toNat : Int) != 34) = true := by rw [bne_iff_ne]; omega
 have b2 : ((s[i].toNat : Int) != 39) = true := by rw [bne_iff_ne]; omega
 have b3 : ((s[i].toNat : Int) != 96) = true := by rw [bne_iff_ne]; omega
 clear h1 h2 h3
 go_enter Tryz.func52, Tryz.ntmps52
 go_wp2_with fail
 go_ret2
 exact ⟨rfl, rfl⟩
theorem eqT {a b : Int} (h : (a == b) = true) : a = b := beq_iff_eq.1 h
theorem neT {a b : Int} (h : (a == b) = false) : a ≠ b := beq_eq_false_iff_ne.1 h
theorem u8T {a b : UInt8} (h : ((a.toNat : Int) == (b.toNat : Int)) = true) : a = b := by
 have := eqT h
 exact UInt8.toNat_inj.1 (by omega)
theorem u8F {a b : UInt8} (h : ((a.toNat : Int) == (b.toNat : Int)) = false) : a ≠ b := by
 rintro rfl
 simp at h
theorem litT {a : UInt8} {n : Nat} {m : Int} (hn : n < 256) (hm : m = n) (h : ((a.toNat : Int) == m) = true) : a = UInt8.ofNat n :=
 u8_lit hn (by have := eqT h; omega)
theorem litF {a : UInt8} {n : Nat} {m : Int} (hn : n < 256) (hm : m = n) (h : ((a.toNat : Int) == m) = false) : a ≠ UInt8.ofNat n := by
 intro e
 have := (u8_eq hn).1 e
 exact neT h (by omega)
def LitRel (s : ByteArray) (q : UInt8) (T : Option Nat) (k : Nat) : Prop := k ≤ s.size + 1 ∧ litFrom q s.data.toList k = T
theorem lit_out {s : ByteArray} {q : UInt8} {T : Option Nat} {k : Nat} (h : LitRel s q T k) (hk : s.size ≤ k) : T = none := by
 rw [← h.2, litFrom_end (by rw [len_data]; exact hk)]
theorem lit_hit {s : ByteArray} {q : UInt8} {T : Option Nat} {k : Nat} (h : LitRel s q T k) (hk : k < s.size) (hq : s[k] = q) : T = some (k + 1) := by
 rw [← h.2, litFrom_hit (by rw [len_data]; exact hk) (by rw [atB_lt hk]; exact hq)]
theorem lit_raw {s : ByteArray} {q : UInt8} {T : Option Nat} {k : Nat} (h : LitRel s q T k) (hr : q = 96) (hk : k < s.size) (hq : s[k] ≠ q) : LitRel s q T (k + 1) := by
 subst hr
 exact ⟨by omega, (litFrom_raw (by rw [len_data]; exact hk) (by rw [atB_lt hk]; exact hq)).symm.trans h.2⟩
theorem lit_nl {s : ByteArray} {q : UInt8} {T : Option Nat} {k : Nat} (h : LitRel s q T k) (hr : q ≠ 96) (hk : k < s.size) (hq : s[k] ≠ q) (hn : s[k] = 10) : T = none := by
 rw [← h.2, litFrom_nl (by rw [len_data]; exact hk) hr (by rw [atB_lt hk]; exact hq) (by rw [atB_lt hk]; exact hn)]
theorem lit_plain {s : ByteArray} {q : UInt8} {T : Option Nat} {k : Nat} (h : LitRel s q T k) (hr : q ≠ 96) (hk : k < s.size) (hq : s[k] ≠ q) (hn : s[k] ≠ 10) (hb : s[k] ≠ 92) : LitRel s q T (k + 1) :=
 ⟨by omega, (litFrom_plain (by rw [len_data]; exact hk) hr (by rw [atB_lt hk]; exact hq) (by rw [atB_lt hk]; exact hn) (by rw [atB_lt hk]; exact hb)).symm.trans h.2⟩
theorem lit_esc_end {s : ByteArray} {q : UInt8} {T : Option Nat} {k : Nat} (h : LitRel s q T k) (hk : k + 1 = s.size) (hq : s[k]'(by omega) ≠ q) : LitRel s q T (k + 2) := by
 refine ⟨by omega, ?_⟩
 rw [← h.2, litFrom_end (by rw [len_data]; omega), litFrom_esc_end (by rw [len_data]; exact hk) (by rw [atB_lt (by omega)]; exact hq)]
theorem lit_esc_nl {s : ByteArray} {q : UInt8} {T : Option Nat} {k : Nat} (h : LitRel s q T k) (hr : q ≠ 96) (hk : k + 1 < s.size) (hq : s[k] ≠ q) (hb : s[k] = 92) (hn : s[k + 1] = 10) : T = none := by
 rw [← h.2, litFrom_esc_nl (by rw [len_data]; exact hk) hr (by rw [atB_lt (by omega)]; exact hq) (by rw [atB_lt (by omega)]; exact hb) (by rw [atB_lt hk]; exact hn)]
theorem lit_esc {s : ByteArray} {q : UInt8} {T : Option Nat} {k : Nat} (h : LitRel s q T k) (hr : q ≠ 96) (hk : k + 1 < s.size) (hq : s[k] ≠ q) (hb : s[k] = 92) (hn : s[k + 1] ≠ 10) : LitRel s q T (k + 2) :=
 ⟨by omega, (litFrom_esc (by rw [len_data]; exact hk) hr (by rw [atB_lt (by omega)]; exact hq) (by rw [atB_lt (by omega)]; exact hb) (by rw [atB_lt hk]; exact hn)).symm.trans h.2⟩
theorem ret_lit {T U : Option Nat} {a b : Int} (h : T = U) (ha : a = optN U) (hb : b = optE 10 U) : Ending.returned (.tuple #[.int .i64 a, .int .i64 b]) = .returned (.tuple #[.int .i64 (optN T), .int .i64 (optE 10 T)]) := by
 subst h ha hb; rfl
set_option maxRecDepth 100000 in
set_option maxHeartbeats 1000000 in
theorem utf_literal_raw (s : ByteArray) (i : Nat) (w : World) (hs : s.size ≤ 281474976710656) (hi : i < s.size) (T : Option Nat) (hT : LitRel s s[i] T (i + 1)) (hq : s[i] = 96)
  (hb1 : ((s[i].toNat : Int) != 34) = true) (hb2 : ((s[i].toNat : Int) != 39) = true) (hb3 : ((s[i].toNat : Int) != 96) = false) (hb4 : ((s[i].toNat : Int) == 96) = true) :
  Calls Tryz.prog 52 #[.string s, .int .i64 (i : Int)] w fun e w' => e = .returned (.tuple #[.int .i64 (optN T), .int .i64 (optE 10 T)]) ∧ w = w' := by
 have hi0 : decide ((i : Int) < 0) = false := by simp
 have hi1 : decide (s.size ≤ i) = false := by simpa using hi
 have hi2 : decide ((s.size : Int) ≤ (i : Int)) = false := by simpa using hi
 have HT := Lib.hid hT
 have HQ := Lib.hid hq
 clear hT hq
 all_goals
  go_enter Tryz.func52, Tryz.ntmps52
  go_wp2_with fail
  go_loop [7] (fun t => ∃ k : Nat, k ≤ s.size + 1 ∧ t = .int .i64 k ∧ LitRel s s[i] T k) (fun t => s.size + 1 - (intOf t).toNat)
  case atStart => exact ⟨i + 1, by omega, by go_num, HT.out⟩
  case round =>
   obtain ⟨k, hk, rfl, hrel⟩ := hrel
   clear HT
   have HR := Lib.hid hrel
   clear hrel
   by_cases hlt : k < s.size
   ·cases h1 : ((s[k].toNat : Int) == (s[i].toNat : Int))
    ·go_wp2_with fail
     go_round
     case rel => exact ⟨k + 1, by omega, by go_num, lit_raw HR.out HQ.out hlt (u8F h1)⟩
     case measure => simp [intOf]; omega
    ·go_wp2_with fail
     go_ret2
     exact ⟨ret_lit (lit_hit HR.out hlt (u8T h1)) (by simp [optN]) rfl, rfl⟩
   ·go_wp2_with fail
    go_ret2
    exact ⟨ret_lit (lit_out HR.out (by omega)) rfl rfl, rfl⟩
set_option maxRecDepth 100000 in
set_option maxHeartbeats 2000000 in
theorem utf_literal_esc (s : ByteArray) (i : Nat) (w : World) (hs : s.size ≤ 281474976710656) (hi : i < s.size) (T : Option Nat) (hT : LitRel s s[i] T (i + 1)) (hq : s[i] ≠ 96)
  (b1 b2 : Bool) (hb1 : ((s[i].toNat : Int) != 34) = b1) (hb2 : ((s[i].toNat : Int) != 39) = b2) (hb4 : ((s[i].toNat : Int) == 96) = false) (hbb : (b1 && b2) = false) :
  Calls Tryz.prog 52 #[.string s, .int .i64 (i : Int)] w fun e w' => e = .returned (.tuple #[.int .i64 (optN T), .int .i64 (optE 10 T)]) ∧ w = w' := by
 have hi0 : decide ((i : Int) < 0) = false := by simp
 have hi1 : decide (s.size ≤ i) = false := by simpa using hi
 have hi2 : decide ((s.size : Int) ≤ (i : Int)) = false := by simpa using hi
 have HT := Lib.hid hT
 have HQ := Lib.hid hq
 clear hT hq
 cases b1 <;> cases b2 <;> first | (simp at hbb; done) | skip
 all_goals
  clear hbb
  go_enter Tryz.func52, Tryz.ntmps52
  go_wp2_with fail
  go_loop [7] (fun t => ∃ k : Nat, k ≤ s.size + 1 ∧ t = .int .i64 k ∧ LitRel s s[i] T k) (fun t => s.size + 1 - (intOf t).toNat)
  case atStart => exact ⟨i + 1, by omega, by go_num, HT.out⟩
  case round =>
   obtain ⟨k, hk, rfl, hrel⟩ := hrel
   clear HT
   have HR := Lib.hid hrel
   clear hrel
   by_cases hlt : k < s.size
   ·cases h1 : ((s[k].toNat : Int) == (s[i].toNat : Int))
    ·cases h2 : ((s[k].toNat : Int) == 10)
     ·cases h3 : ((s[k].toNat : Int) == 92)
      ·go_wp2_with fail
       go_round
       case rel => exact ⟨k + 1, by omega, by go_num, lit_plain HR.out HQ.out hlt (u8F h1) (litF (n := 10) (by omega) rfl h2) (litF (n := 92) (by omega) rfl h3)⟩
       case measure => simp [intOf]; omega
      ·by_cases hlt2 : k + 1 < s.size
       ·cases h4 : ((s[k + 1].toNat : Int) == 10)
        ·go_wp2_with fail
         go_round
         case rel => first | exact ⟨k + 2, by omega, by go_num, lit_esc HR.out HQ.out hlt2 (u8F h1) (litT (n := 92) (by omega) rfl h3) (litF (n := 10) (by omega) rfl h4)⟩ | ((repeat apply Exists.intro); exact ⟨⟨k + 2, by omega, by go_num, lit_esc HR.out HQ.out hlt2 (u8F h1) (litT (n := 92) (by omega) rfl h3) (litF (n := 10) (by omega) rfl h4)⟩, rfl⟩)
         case measure => simp [intOf]; omega
        ·go_wp2_with fail
         go_ret2
         exact ⟨ret_lit (lit_esc_nl HR.out HQ.out hlt2 (u8F h1) (litT (n := 92) (by omega) rfl h3) (litT (n := 10) (by omega) rfl h4)) rfl rfl, rfl⟩
       ·go_wp2_with fail
        go_round
        case rel => first | exact ⟨k + 2, by omega, by go_num, lit_esc_end HR.out (by omega) (u8F h1)⟩ | ((repeat apply Exists.intro); exact ⟨⟨k + 2, by omega, by go_num, lit_esc_end HR.out (by omega) (u8F h1)⟩, rfl⟩)
        case measure => simp [intOf]; omega
     ·go_wp2_with fail
      go_ret2
      exact ⟨ret_lit (lit_nl HR.out HQ.out hlt (u8F h1) (litT (n := 10) (by omega) rfl h2)) rfl rfl, rfl⟩
    ·go_wp2_with fail
     go_ret2
     exact ⟨ret_lit (lit_hit HR.out hlt (u8T h1)) (by simp [optN]) rfl, rfl⟩
   ·go_wp2_with fail
    go_ret2
    exact ⟨ret_lit (lit_out HR.out (by omega)) rfl rfl, rfl⟩
end Go.Proofs.YtpkeonafcldkhaaGreatDoor
