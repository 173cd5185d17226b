import Derived.Test.YtpkeonafcldkhaaGreatDoorM01
import Derived.Lib.Strings
import Derived.Deep.QuietTactic
import Derived.BigQuiet
/- utf: Valid, Literal. -/
set_option linter.unusedVariables false
set_option linter.unusedSimpArgs false
namespace Go.Proofs.YtpkeonafcldkhaaGreatDoor
open Go.RowKit

theorem ret_ii {j k : IntKind} {a b c d : Int} (h : a = c) (h' : b = d) : Ending.returned (.tuple #[.int j a, .int k b]) = .returned (.tuple #[.int j c, .int k d]) := by rw [h, h']
theorem ret_ib {j : IntKind} {a c : Int} {b d : Bool} (h : a = c) (h' : b = d) : Ending.returned (.tuple #[.int j a, .bool b]) = .returned (.tuple #[.int j c, .bool d]) := by rw [h, h']

set_option maxRecDepth 100000 in
theorem utf_replaced (s : ByteArray) (i : Nat) (w : World) (hs : s.size ≤ 281474976710656) (hi : i < s.size) :
    Calls Tryz.prog 105 #[.string s, .int .i64 (i : Int)] w fun e w' => e = .returned (.bool (repl s.data.toList i)) ∧ w = w' := by
  by_cases h3 : i + 3 ≤ s.size
  · have hr : repl s.data.toList i = ((s.extract i (i + 3)).toList == [239, 191, 189]) := by
      rw [repl, ByteArray.toList_eq, Lib.extract_data, Nat.add_sub_cancel_left]
    have HR := Lib.hid hr
    clear hr
    go_enter Tryz.func105, Tryz.ntmps105
    go_wp2_with fail
    go_ret
    exact ⟨ret_bool (by rw [HR.out]), rfl⟩
  · have hr : repl s.data.toList i = false := by
      cases h : repl s.data.toList i
      · rfl
      · have := congrArg List.length (beq_iff_eq.1 h)
        simp at this; omega
    have HR := Lib.hid hr
    clear hr
    go_enter Tryz.func105, Tryz.ntmps105
    go_wp2_with fail
    go_ret
    exact ⟨ret_bool (by rw [HR.out]), rfl⟩

set_option maxRecDepth 100000 in
set_option maxHeartbeats 400000 in
theorem utf_valid (s : ByteArray) (w : World) (hs : s.size ≤ 281474976710656) :
    Calls Tryz.prog 77 #[.string s] w fun e w' => e = .returned (.bool (valid s.data.toList)) ∧ Below w.heap.size w w' := by
  have h0 := Lib.hid (vFrom_zero s.data.toList)
  go_enter Tryz.func77, Tryz.ntmps77
  go_wp2_with fail
  go_loopw [] (fun w' => ∃ pos : Nat, pos ≤ s.size ∧ w' = w.iter s pos ∧ Hid (vFrom s.data.toList pos = valid s.data.toList)) (fun w' => s.size - w'.iterPos w.heap.size)
  case atStart => exact ⟨0, Nat.zero_le _, rfl, h0.out⟩
  case round =>
    obtain ⟨pos, hpos, rfl, hv⟩ := hrel
    by_cases hp : pos < s.size
    · have hpl : pos < s.data.toList.length := by rw [len_data]; exact hp
      have hnx : ∀ ty, (Instr.next (.pointer (some ⟨w.heap.size, 0, none⟩)) true ty).run Tryz.prog (w.iter s pos) = _ := fun ty => run_next_any w s pos ty hp
      have hde := dec_eq s pos
      rw [hde] at hnx
      have hbc := bad_code s.data.toList pos hpl
      have hw1 := dec_pos s.data.toList pos
      have hw2 := dec_w s.data.toList pos hpl
      rw [len_data] at hw2
      have hst := @vFrom_step s.data.toList pos hpl
      have hbd := @vFrom_bad s.data.toList pos hpl
      generalize (dec s.data.toList pos).1 = r at hbc hnx
      generalize (dec s.data.toList pos).2 = d at hw1 hw2 hst hnx
      by_cases hr : r = 65533
      · subst hr
        cases hrp : repl s.data.toList pos
        · have hb : bad s.data.toList pos = true := by rw [hbc, hrp]; rfl
          have HF := Lib.hid ((hbd hb).symm.trans hv.out)
          clear hbc hst hbd hb hde
          go_wp2_with (go_at_call 105; refine (utf_replaced s pos _ hs hp).mono ?_; rintro e w' ⟨rfl, rfl⟩)
          go_ret
          exact ⟨ret_bool (by rw [← HF.out]), (Below.refl _ _).alloc (Nat.le_refl _) _⟩
        · have hb : bad s.data.toList pos = false := by rw [hbc, hrp]; rfl
          have HF := Lib.hid ((hst hb).trans hv.out)
          clear hbc hst hbd hb hde
          go_wp2_with (go_at_call 105; refine (utf_replaced s pos _ hs hp).mono ?_; rintro e w' ⟨rfl, rfl⟩)
          go_roundw
          case rel => exact ⟨pos + d, by omega, rfl, HF.out⟩
          case measure => simp; omega
      · have hb : bad s.data.toList pos = false := by rw [hbc, beq_eq_false_iff_ne.2 hr]; rfl
        have HF := Lib.hid ((hst hb).trans hv.out)
        have hrb : ((r : Int) == 65533) = false := by rw [beq_eq_false_iff_ne]; omega
        clear hbc hst hbd hb hde hr
        go_wp2_with fail
        go_roundw
        case rel => exact ⟨pos + d, by omega, rfl, HF.out⟩
        case measure => simp; omega
    · have hnx : ∀ ty, (Instr.next (.pointer (some ⟨w.heap.size, 0, none⟩)) true ty).run Tryz.prog (w.iter s pos) = _ := fun ty => run_next_end w s pos ty hp
      have HF := Lib.hid ((vFrom_end (l := s.data.toList) (i := pos) (by rw [len_data]; omega)).symm.trans hv.out)
      go_wp2_with fail
      go_ret
      exact ⟨ret_bool (by rw [← HF.out]), (Below.refl _ _).alloc (Nat.le_refl _) _⟩

def optN (o : Option Nat) : Int := match o with | some n => n | none => 0
def optE (e : Int) (o : Option Nat) : Int := match o with | some _ => 0 | none => e
theorem u8_ne {a b : UInt8} (h : a.toNat ≠ b.toNat) : a ≠ b := fun e => h (by rw [e])
theorem u8_lit {a : UInt8} {n : Nat} (hn : n < 256) (h : a.toNat = n) : a = UInt8.ofNat n := (u8_eq hn).2 h

theorem utf_literal_out (s : ByteArray) (i : Nat) (w : World) (hi : s.size ≤ i) :
    Calls Tryz.prog 52 #[.string s, .int .i64 (i : Int)] w fun e w' => e = .returned (.tuple #[.int .i64 0, .int .i64 10]) ∧ w = w' := by
  go_enter Tryz.func52, Tryz.ntmps52
  go_wp2_with fail
  go_ret2
  exact ⟨rfl, rfl⟩
theorem utf_literal_no (s : ByteArray) (i : Nat) (w : World) (hi : i < s.size) (h1 : s[i].toNat < 34 ∨ 34 < s[i].toNat) (h2 : s[i].toNat < 39 ∨ 39 < s[i].toNat) (h3 : s[i].toNat < 96 ∨ 96 < s[i].toNat) :
    Calls Tryz.prog 52 #[.string s, .int .i64 (i : Int)] w fun e w' => e = .returned (.tuple #[.int .i64 0, .int .i64 10]) ∧ w = w' := by
  have b1 : ((s[i].toNat : Int) != 34) = true := by rw [bne_iff_ne]; omega
  have b2 : ((s[i].toNat : Int) != 39) = true := by rw [bne_iff_ne]; omega
  have b3 : ((s[i].toNat : Int) != 96) = true := by rw [bne_iff_ne]; omega
  clear h1 h2 h3
  go_enter Tryz.func52, Tryz.ntmps52
  go_wp2_with fail
  go_ret2
  exact ⟨rfl, rfl⟩

theorem eqT {a b : Int} (h : (a == b) = true) : a = b := beq_iff_eq.1 h
theorem neT {a b : Int} (h : (a == b) = false) : a ≠ b := beq_eq_false_iff_ne.1 h
theorem u8T {a b : UInt8} (h : ((a.toNat : Int) == (b.toNat : Int)) = true) : a = b := by
  have := eqT h
  exact UInt8.toNat_inj.1 (by omega)
theorem u8F {a b : UInt8} (h : ((a.toNat : Int) == (b.toNat : Int)) = false) : a ≠ b := by
  rintro rfl
  simp at h
theorem litT {a : UInt8} {n : Nat} {m : Int} (hn : n < 256) (hm : m = n) (h : ((a.toNat : Int) == m) = true) : a = UInt8.ofNat n :=
  u8_lit hn (by have := eqT h; omega)
theorem litF {a : UInt8} {n : Nat} {m : Int} (hn : n < 256) (hm : m = n) (h : ((a.toNat : Int) == m) = false) : a ≠ UInt8.ofNat n := by
  intro e
  have := (u8_eq hn).1 e
  exact neT h (by omega)
/-- One round of Literal: the place goes on, and what is to come stays. -/
def LitRel (s : ByteArray) (q : UInt8) (T : Option Nat) (k : Nat) : Prop := k ≤ s.size + 1 ∧ litFrom q s.data.toList k = T

theorem lit_out {s : ByteArray} {q : UInt8} {T : Option Nat} {k : Nat} (h : LitRel s q T k) (hk : s.size ≤ k) : T = none := by
  rw [← h.2, litFrom_end (by rw [len_data]; exact hk)]
theorem lit_hit {s : ByteArray} {q : UInt8} {T : Option Nat} {k : Nat} (h : LitRel s q T k) (hk : k < s.size) (hq : s[k] = q) : T = some (k + 1) := by
  rw [← h.2, litFrom_hit (by rw [len_data]; exact hk) (by rw [atB_lt hk]; exact hq)]
theorem lit_raw {s : ByteArray} {q : UInt8} {T : Option Nat} {k : Nat} (h : LitRel s q T k) (hr : q = 96) (hk : k < s.size) (hq : s[k] ≠ q) : LitRel s q T (k + 1) := by
  subst hr
  exact ⟨by omega, (litFrom_raw (by rw [len_data]; exact hk) (by rw [atB_lt hk]; exact hq)).symm.trans h.2⟩
theorem lit_nl {s : ByteArray} {q : UInt8} {T : Option Nat} {k : Nat} (h : LitRel s q T k) (hr : q ≠ 96) (hk : k < s.size) (hq : s[k] ≠ q) (hn : s[k] = 10) : T = none := by
  rw [← h.2, litFrom_nl (by rw [len_data]; exact hk) hr (by rw [atB_lt hk]; exact hq) (by rw [atB_lt hk]; exact hn)]
theorem lit_plain {s : ByteArray} {q : UInt8} {T : Option Nat} {k : Nat} (h : LitRel s q T k) (hr : q ≠ 96) (hk : k < s.size) (hq : s[k] ≠ q) (hn : s[k] ≠ 10) (hb : s[k] ≠ 92) : LitRel s q T (k + 1) :=
  ⟨by omega, (litFrom_plain (by rw [len_data]; exact hk) hr (by rw [atB_lt hk]; exact hq) (by rw [atB_lt hk]; exact hn) (by rw [atB_lt hk]; exact hb)).symm.trans h.2⟩
theorem lit_esc_end {s : ByteArray} {q : UInt8} {T : Option Nat} {k : Nat} (h : LitRel s q T k) (hk : k + 1 = s.size) (hq : s[k]'(by omega) ≠ q) : LitRel s q T (k + 2) := by
  refine ⟨by omega, ?_⟩
  rw [← h.2, litFrom_end (by rw [len_data]; omega), litFrom_esc_end (by rw [len_data]; exact hk) (by rw [atB_lt (by omega)]; exact hq)]
theorem lit_esc_nl {s : ByteArray} {q : UInt8} {T : Option Nat} {k : Nat} (h : LitRel s q T k) (hr : q ≠ 96) (hk : k + 1 < s.size) (hq : s[k] ≠ q) (hb : s[k] = 92) (hn : s[k + 1] = 10) : T = none := by
  rw [← h.2, litFrom_esc_nl (by rw [len_data]; exact hk) hr (by rw [atB_lt (by omega)]; exact hq) (by rw [atB_lt (by omega)]; exact hb) (by rw [atB_lt hk]; exact hn)]
theorem lit_esc {s : ByteArray} {q : UInt8} {T : Option Nat} {k : Nat} (h : LitRel s q T k) (hr : q ≠ 96) (hk : k + 1 < s.size) (hq : s[k] ≠ q) (hb : s[k] = 92) (hn : s[k + 1] ≠ 10) : LitRel s q T (k + 2) :=
  ⟨by omega, (litFrom_esc (by rw [len_data]; exact hk) hr (by rw [atB_lt (by omega)]; exact hq) (by rw [atB_lt (by omega)]; exact hb) (by rw [atB_lt hk]; exact hn)).symm.trans h.2⟩
theorem ret_lit {T U : Option Nat} {a b : Int} (h : T = U) (ha : a = optN U) (hb : b = optE 10 U) : Ending.returned (.tuple #[.int .i64 a, .int .i64 b]) = .returned (.tuple #[.int .i64 (optN T), .int .i64 (optE 10 T)]) := by
  subst h ha hb; rfl

set_option maxRecDepth 100000 in
set_option maxHeartbeats 1000000 in
theorem utf_literal_raw (s : ByteArray) (i : Nat) (w : World) (hs : s.size ≤ 281474976710656) (hi : i < s.size) (T : Option Nat) (hT : LitRel s s[i] T (i + 1)) (hq : s[i] = 96)
    (hb1 : ((s[i].toNat : Int) != 34) = true) (hb2 : ((s[i].toNat : Int) != 39) = true) (hb3 : ((s[i].toNat : Int) != 96) = false) (hb4 : ((s[i].toNat : Int) == 96) = true) :
    Calls Tryz.prog 52 #[.string s, .int .i64 (i : Int)] w fun e w' => e = .returned (.tuple #[.int .i64 (optN T), .int .i64 (optE 10 T)]) ∧ w = w' := by
  have hi0 : decide ((i : Int) < 0) = false := by simp
  have hi1 : decide (s.size ≤ i) = false := by simpa using hi
  have hi2 : decide ((s.size : Int) ≤ (i : Int)) = false := by simpa using hi
  have HT := Lib.hid hT
  have HQ := Lib.hid hq
  clear hT hq
  all_goals
    go_enter Tryz.func52, Tryz.ntmps52
    go_wp2_with fail
    go_loop [7] (fun t => ∃ k : Nat, k ≤ s.size + 1 ∧ t = .int .i64 k ∧ LitRel s s[i] T k) (fun t => s.size + 1 - (intOf t).toNat)
    case atStart => exact ⟨i + 1, by omega, by go_num, HT.out⟩
    case round =>
      obtain ⟨k, hk, rfl, hrel⟩ := hrel
      clear HT
      have HR := Lib.hid hrel
      clear hrel
      by_cases hlt : k < s.size
      · cases h1 : ((s[k].toNat : Int) == (s[i].toNat : Int))
        · go_wp2_with fail
          go_round
          case rel => exact ⟨k + 1, by omega, by go_num, lit_raw HR.out HQ.out hlt (u8F h1)⟩
          case measure => simp [intOf]; omega
        · go_wp2_with fail
          go_ret2
          exact ⟨ret_lit (lit_hit HR.out hlt (u8T h1)) (by simp [optN]) rfl, rfl⟩
      · go_wp2_with fail
        go_ret2
        exact ⟨ret_lit (lit_out HR.out (by omega)) rfl rfl, rfl⟩

set_option maxRecDepth 100000 in
set_option maxHeartbeats 2000000 in
theorem utf_literal_esc (s : ByteArray) (i : Nat) (w : World) (hs : s.size ≤ 281474976710656) (hi : i < s.size) (T : Option Nat) (hT : LitRel s s[i] T (i + 1)) (hq : s[i] ≠ 96)
    (b1 b2 : Bool) (hb1 : ((s[i].toNat : Int) != 34) = b1) (hb2 : ((s[i].toNat : Int) != 39) = b2) (hb4 : ((s[i].toNat : Int) == 96) = false) (hbb : (b1 && b2) = false) :
    Calls Tryz.prog 52 #[.string s, .int .i64 (i : Int)] w fun e w' => e = .returned (.tuple #[.int .i64 (optN T), .int .i64 (optE 10 T)]) ∧ w = w' := by
  have hi0 : decide ((i : Int) < 0) = false := by simp
  have hi1 : decide (s.size ≤ i) = false := by simpa using hi
  have hi2 : decide ((s.size : Int) ≤ (i : Int)) = false := by simpa using hi
  have HT := Lib.hid hT
  have HQ := Lib.hid hq
  clear hT hq
  cases b1 <;> cases b2 <;> first | (simp at hbb; done) | skip
  all_goals
    clear hbb
    go_enter Tryz.func52, Tryz.ntmps52
    go_wp2_with fail
    go_loop [7] (fun t => ∃ k : Nat, k ≤ s.size + 1 ∧ t = .int .i64 k ∧ LitRel s s[i] T k) (fun t => s.size + 1 - (intOf t).toNat)
    case atStart => exact ⟨i + 1, by omega, by go_num, HT.out⟩
    case round =>
      obtain ⟨k, hk, rfl, hrel⟩ := hrel
      clear HT
      have HR := Lib.hid hrel
      clear hrel
      by_cases hlt : k < s.size
      · cases h1 : ((s[k].toNat : Int) == (s[i].toNat : Int))
        · cases h2 : ((s[k].toNat : Int) == 10)
          · cases h3 : ((s[k].toNat : Int) == 92)
            · go_wp2_with fail
              go_round
              case rel => exact ⟨k + 1, by omega, by go_num, lit_plain HR.out HQ.out hlt (u8F h1) (litF (n := 10) (by omega) rfl h2) (litF (n := 92) (by omega) rfl h3)⟩
              case measure => simp [intOf]; omega
            · by_cases hlt2 : k + 1 < s.size
              · cases h4 : ((s[k + 1].toNat : Int) == 10)
                · go_wp2_with fail
                  go_round
                  case rel => first | exact ⟨k + 2, by omega, by go_num, lit_esc HR.out HQ.out hlt2 (u8F h1) (litT (n := 92) (by omega) rfl h3) (litF (n := 10) (by omega) rfl h4)⟩ | ((repeat apply Exists.intro); exact ⟨⟨k + 2, by omega, by go_num, lit_esc HR.out HQ.out hlt2 (u8F h1) (litT (n := 92) (by omega) rfl h3) (litF (n := 10) (by omega) rfl h4)⟩, rfl⟩)
                  case measure => simp [intOf]; omega
                · go_wp2_with fail
                  go_ret2
                  exact ⟨ret_lit (lit_esc_nl HR.out HQ.out hlt2 (u8F h1) (litT (n := 92) (by omega) rfl h3) (litT (n := 10) (by omega) rfl h4)) rfl rfl, rfl⟩
              · go_wp2_with fail
                go_round
                case rel => first | exact ⟨k + 2, by omega, by go_num, lit_esc_end HR.out (by omega) (u8F h1)⟩ | ((repeat apply Exists.intro); exact ⟨⟨k + 2, by omega, by go_num, lit_esc_end HR.out (by omega) (u8F h1)⟩, rfl⟩)
                case measure => simp [intOf]; omega
          · go_wp2_with fail
            go_ret2
            exact ⟨ret_lit (lit_nl HR.out HQ.out hlt (u8F h1) (litT (n := 10) (by omega) rfl h2)) rfl rfl, rfl⟩
        · go_wp2_with fail
          go_ret2
          exact ⟨ret_lit (lit_hit HR.out hlt (u8T h1)) (by simp [optN]) rfl, rfl⟩
      · go_wp2_with fail
        go_ret2
        exact ⟨ret_lit (lit_out HR.out (by omega)) rfl rfl, rfl⟩

end Go.Proofs.YtpkeonafcldkhaaGreatDoor
/- Plain words: digits with the code's bound; escapes. -/
set_option linter.unusedVariables false
set_option linter.unusedSimpArgs false
namespace Go.Proofs.YtpkeonafcldkhaaGreatDoor
open Go.RowKit

theorem digsGoB_some {base : Nat} : ∀ {l : List UInt8} {v r : Nat}, digsGoB base v l = some r → digsGo base v l = some r
  | [], v, r, h => by simpa [digsGoB, digsGo] using h
  | c :: l, v, r, h => by
    simp only [digsGoB] at h
    simp only [digsGo]
    cases hd : digVal c with
    | none => rw [hd] at h; simp at h
    | some d =>
      rw [hd] at h
      simp only at h ⊢
      by_cases hb : d < base ∧ v ≤ 8388607
      · rw [if_pos hb] at h
        rw [if_pos hb.1]
        exact digsGoB_some h
      · rw [if_neg hb] at h; simp at h
theorem digsGo_ge {base : Nat} (hb : 1 ≤ base) : ∀ {l : List UInt8} {v r : Nat}, digsGo base v l = some r → v ≤ r
  | [], v, r, h => by simp [digsGo] at h; omega
  | c :: l, v, r, h => by
    simp only [digsGo] at h
    cases hd : digVal c with
    | none => rw [hd] at h; simp at h
    | some d =>
      rw [hd] at h
      simp only at h
      split at h
      · have := digsGo_ge hb h
        have h2 : v * 1 ≤ v * base := Nat.mul_le_mul_left v hb
        omega
      · simp at h
theorem digsGo_some {base : Nat} (hb : 1 ≤ base) : ∀ {l : List UInt8} {v r : Nat}, digsGo base v l = some r → r ≤ 8388607 → digsGoB base v l = some r
  | [], v, r, h, _ => by simpa [digsGoB, digsGo] using h
  | c :: l, v, r, h, hr => by
    have hv := digsGo_ge hb h
    simp only [digsGo] at h
    simp only [digsGoB]
    cases hd : digVal c with
    | none => rw [hd] at h; simp at h
    | some d =>
      rw [hd] at h
      simp only at h ⊢
      by_cases hdb : d < base
      · rw [if_pos hdb] at h
        rw [if_pos ⟨hdb, by omega⟩]
        exact digsGo_some hb h hr
      · rw [if_neg hdb] at h; simp at h
theorem digsB_eq {l : List UInt8} {n base : Nat} (hb : 1 ≤ base) (hn : ∀ r, digs l n base = some r → r ≤ 8388607) : digsB l n base = digs l n base := by
  unfold digsB
  unfold digs at hn ⊢
  split
  · rfl
  · rename_i hl
    rw [if_neg hl] at hn
    cases h : digsGo base 0 (l.take n) with
    | some r => exact digsGo_some hb h (hn r h)
    | none =>
      cases h' : digsGoB base 0 (l.take n) with
      | none => rfl
      | some r => rw [digsGoB_some h'] at h; simp at h
theorem digsGo_lt {base : Nat} : ∀ {l : List UInt8} {v r : Nat}, digsGo base v l = some r → r < (v + 1) * base ^ l.length
  | [], v, r, h => by simp [digsGo] at h; simp; omega
  | c :: l, v, r, h => by
    simp only [digsGo] at h
    cases hd : digVal c with
    | none => rw [hd] at h; simp at h
    | some d =>
      rw [hd] at h
      simp only at h
      split at h
      · rename_i hdb
        have := digsGo_lt h
        have h2 : v * base + d + 1 ≤ (v + 1) * base := by rw [Nat.add_mul]; omega
        have h3 := Nat.mul_le_mul_right (base ^ l.length) h2
        rw [List.length_cons, Nat.pow_succ, Nat.mul_comm (base ^ l.length) base, ← Nat.mul_assoc]
        omega
      · simp at h
theorem digs_lt {l : List UInt8} {n base r : Nat} (hb : 1 ≤ base) (h : digs l n base = some r) : r < base ^ n := by
  unfold digs at h
  split at h
  · simp at h
  · have := digsGo_lt h
    have h2 : (l.take n).length ≤ n := List.length_take_le n l
    have h3 := Nat.pow_le_pow_right hb h2
    omega
theorem digsB_16_2 (l : List UInt8) : digsB l 2 16 = digs l 2 16 := digsB_eq (by omega) fun r h => by have := digs_lt (by omega) h; omega
theorem digsB_16_4 (l : List UInt8) : digsB l 4 16 = digs l 4 16 := digsB_eq (by omega) fun r h => by have := digs_lt (by omega) h; omega
theorem digsB_8_3 (l : List UInt8) : digsB l 3 8 = digs l 3 8 := digsB_eq (by omega) fun r h => by have := digs_lt (by omega) h; omega
theorem isRuneN_le {n : Nat} (h : isRuneN n = true) : n ≤ 1114111 := by simp [isRuneN] at h; omega
theorem digsB_16_8 (l : List UInt8) (F : Nat → Option (List UInt8 × Nat)) : ((digsB l 8 16).bind fun v => if isRuneN v then F v else none) = ((digs l 8 16).bind fun v => if isRuneN v then F v else none) := by
  unfold digsB digs
  split
  · rfl
  · cases h : digsGoB 16 0 (l.take 8) with
    | some r => rw [digsGoB_some h]
    | none =>
      cases h' : digsGo 16 0 (l.take 8) with
      | none => rfl
      | some r =>
        cases hr : isRuneN r
        · simp [hr]
        · rw [digsGo_some (by omega) h' (by have := isRuneN_le hr; omega)] at h; simp at h
/-- The escape by its cases. -/
def escB (q : UInt8) (l : List UInt8) : List UInt8 × Nat := (escOut q l).getD ([], 0)
theorem esc_nil (q : UInt8) : escB q [] = ([], 0) := rfl
theorem esc_plain {q c : UInt8} {r : List UInt8} (h : isPlain c = true) : escB q (c :: r) = ([plainB c], 1) := by simp [escB, escOut, h]
theorem esc_self {q c : UInt8} {r : List UInt8} (h : isPlain c = false) (h2 : c = 92 ∨ c = q) : escB q (c :: r) = ([c], 1) := by simp [escB, escOut, h, h2]
theorem esc_x {q c : UInt8} {r : List UInt8} (hc : c = 120) (hq : c ≠ q) : escB q (c :: r) = match digsB r 2 16 with | some v => ([UInt8.ofNat v], 3) | none => ([], 0) := by
  subst hc
  rw [digsB_16_2]
  have h1 : ¬ ((120 : UInt8) = 92 ∨ (120 : UInt8) = q) := by rintro (h | h); · exact absurd h (by decide)
                                                             · exact hq h
  have h0 : isPlain 120 = false := by decide
  unfold escB escOut
  simp only [h0, h1, if_false, if_true, Bool.false_eq_true]
  cases digs r 2 16 <;> rfl
theorem esc_u {q c : UInt8} {r : List UInt8} (hc : c = 117) (hq : c ≠ q) : escB q (c :: r) = match digsB r 4 16 with | some v => if isRuneN v then (formB v, 5) else ([], 0) | none => ([], 0) := by
  subst hc
  rw [digsB_16_4]
  have h1 : ¬ ((117 : UInt8) = 92 ∨ (117 : UInt8) = q) := by rintro (h | h); · exact absurd h (by decide)
                                                             · exact hq h
  have h0 : isPlain 117 = false := by decide
  have h2 : ¬ ((117 : UInt8) = 120) := by decide
  unfold escB escOut
  simp only [h0, h1, h2, if_false, if_true, Bool.false_eq_true]
  cases digs r 4 16 with
  | none => rfl
  | some v => cases h : isRuneN v <;> simp [h]
theorem esc_U {q c : UInt8} {r : List UInt8} (hc : c = 85) (hq : c ≠ q) : escB q (c :: r) = match digsB r 8 16 with | some v => if isRuneN v then (formB v, 9) else ([], 0) | none => ([], 0) := by
  subst hc
  have h1 : ¬ ((85 : UInt8) = 92 ∨ (85 : UInt8) = q) := by rintro (h | h); · exact absurd h (by decide)
                                                           · exact hq h
  have h0 : isPlain 85 = false := by decide
  have h2 : ¬ ((85 : UInt8) = 120) := by decide
  have h3 : ¬ ((85 : UInt8) = 117) := by decide
  unfold escB escOut
  simp only [h0, h1, h2, h3, if_false, if_true, Bool.false_eq_true]
  rw [← digsB_16_8]
  cases digsB r 8 16 with
  | none => rfl
  | some v => cases h : isRuneN v <;> simp [h]
theorem esc_oct {q c : UInt8} {r : List UInt8} (h0 : isPlain c = false) (h1 : c ≠ 92) (hq : c ≠ q) (h2 : c ≠ 120) (h3 : c ≠ 117) (h4 : c ≠ 85) : escB q (c :: r) = match digsB (c :: r) 3 8 with | some v => if v ≤ 255 then ([UInt8.ofNat v], 3) else ([], 0) | none => ([], 0) := by
  rw [digsB_8_3]
  have h5 : ¬ (c = 92 ∨ c = q) := by rintro (h | h); · exact h1 h
                                     · exact hq h
  unfold escB escOut
  simp only [h0, h5, h2, h3, h4, if_false, Bool.false_eq_true]
  cases digs (c :: r) 3 8 with
  | none => rfl
  | some v => by_cases h : v ≤ 255 <;> simp [h]
theorem extract_from (s : ByteArray) (k : Nat) : (s.extract k s.size).data.toList = s.data.toList.drop k := by
  rw [Lib.extract_data, List.take_of_length_le (by simp)]
theorem extract_to (s : ByteArray) (k : Nat) : (s.extract 0 k).data.toList = s.data.toList.take k := by
  rw [Lib.extract_data]; simp
end Go.Proofs.YtpkeonafcldkhaaGreatDoor
/- Plain words of layer 3: durations. -/
set_option linter.unusedVariables false
set_option linter.unusedSimpArgs false
namespace Go.Proofs.YtpkeonafcldkhaaGreatDoor
open Go.RowKit

/-- The letters of the units, the longest unit first. -/
def uLet : Nat → UInt8
  | 0 => 121 | 1 => 119 | 2 => 100 | 3 => 104 | 4 => 109 | _ => 115
/-- The units' milliseconds. -/
def uSize : Nat → Nat
  | 0 => 31536000000 | 1 => 604800000 | 2 => 86400000 | 3 => 3600000 | 4 => 60000 | 5 => 1000 | _ => 1
/-- The unit with this letter; 7: none. -/
def uOf (c : UInt8) : Nat := if c = 121 then 0 else if c = 119 then 1 else if c = 100 then 2 else if c = 104 then 3 else if c = 109 then 4 else if c = 115 then 5 else 7
/-- The unit at a place, and the place behind it. -/
def unitAt (l : List UInt8) (i : Nat) : Nat × Nat :=
  if l.length ≤ i then (7, i)
  else if atB l i = 109 ∧ i + 1 < l.length ∧ atB l (i + 1) = 115 then (6, i + 2)
  else if uOf (atB l i) = 7 then (7, i) else (uOf (atB l i), i + 1)
/-- A run of digits as a number, no more than a little above the greatest duration. -/
def satStep (n : Nat) (c : UInt8) : Nat := min (n * 10 + (c.toNat - 48)) 315360000000001
def satGo (n : Nat) (l : List UInt8) : Nat := l.foldl satStep n
def sat (l : List UInt8) : Nat := satGo 0 l
/-- One part behind the sum. -/
def partSum (n u sum : Nat) : Nat := if 315360000000000 / uSize u < n then 315360000000001 else min (sum + n * uSize u) 315360000000001
/-- The parts of a duration from a place on: the place behind them and their sum. -/
def mGo : Nat → List UInt8 → Nat → Nat → Nat → Nat × Nat
  | 0, _, fin, _, sum => (fin, sum)
  | f + 1, l, fin, next, sum =>
    if spanEnd digit l fin = fin ∨ (unitAt l (spanEnd digit l fin)).1 < next ∨ (unitAt l (spanEnd digit l fin)).1 = 7 then (fin, sum)
    else mGo f l (unitAt l (spanEnd digit l fin)).2 ((unitAt l (spanEnd digit l fin)).1 + 1) (partSum (sat ((l.drop fin).take (spanEnd digit l fin - fin))) (unitAt l (spanEnd digit l fin)).1 sum)
def measure (l : List UInt8) : Nat × Nat := mGo 8 l 0 0 0
def spanPrefix (l : List UInt8) : Nat := (measure l).1
/-- A duration's milliseconds; an error's number. -/
def spanParse (l : List UInt8) : Nat × Nat :=
  if 64 < l.length then (0, 1)
  else if (measure l).1 = 0 ∨ (measure l).1 < l.length then (0, 30)
  else if 315360000000000 < (measure l).2 then (0, 31) else ((measure l).2, 0)
theorem satGo_cons (n : Nat) (c : UInt8) (r : List UInt8) : satGo n (c :: r) = satGo (satStep n c) r := by
  unfold satGo
  exact List.foldl_cons ..
theorem satStep_le (n : Nat) (c : UInt8) : satStep n c ≤ 315360000000001 := by unfold satStep; exact Nat.min_le_right _ _
theorem satGo_le : ∀ (l : List UInt8) (n : Nat), n ≤ 315360000000001 → satGo n l ≤ 315360000000001
  | [], n, h => h
  | c :: r, n, _ => by
    have h := satGo_cons n c r
    rw [h]; exact satGo_le r _ (satStep_le n c)
theorem sat_le (l : List UInt8) : sat l ≤ 315360000000001 := by
  rw [sat]; exact satGo_le l 0 (Nat.zero_le _)
theorem uOf_le (c : UInt8) : uOf c ≤ 5 ∨ uOf c = 7 := by
  unfold uOf
  repeat' split
  all_goals omega
theorem unitAt_ge (l : List UInt8) (i : Nat) : i ≤ (unitAt l i).2 ∧ (i ≤ l.length → (unitAt l i).2 ≤ l.length) ∧ ((unitAt l i).1 ≤ 6 ∨ (unitAt l i).1 = 7) := by
  unfold unitAt
  split
  · exact ⟨Nat.le_refl _, fun h => h, .inr rfl⟩
  · split
    · rename_i h; exact ⟨by simp, fun _ => by simp; omega, .inl (by simp)⟩
    · split
      · exact ⟨Nat.le_refl _, fun h => h, .inr rfl⟩
      · rename_i h; have := uOf_le (atB l i); exact ⟨by simp, fun _ => by simp; omega, .inl (by simp; omega)⟩
theorem mGo_le : ∀ (f : Nat) (l : List UInt8) (fin next sum : Nat), fin ≤ l.length → (mGo f l fin next sum).1 ≤ l.length
  | 0, _, _, _, _, h => h
  | f + 1, l, fin, next, sum, h => by
    rw [mGo]
    split
    · exact h
    · exact mGo_le f l _ _ _ ((unitAt_ge l _).2.1 (spanEnd_le digit l fin h))
theorem spanPrefix_le (l : List UInt8) : spanPrefix l ≤ l.length := mGo_le 8 l 0 0 0 (Nat.zero_le _)
theorem uOf_hit {c : UInt8} {k : Nat} (hk : k < 6) (h : uLet k = c) : uOf c = k := by
  subst h
  match k, hk with
  | 0, _ => rfl | 1, _ => rfl | 2, _ => rfl | 3, _ => rfl | 4, _ => rfl | 5, _ => rfl
theorem uOf_miss {c : UInt8} (h : ∀ k, k < 6 → uLet k ≠ c) : uOf c = 7 := by
  have h0 := h 0 (by omega); have h1 := h 1 (by omega); have h2 := h 2 (by omega); have h3 := h 3 (by omega); have h4 := h 4 (by omega); have h5 := h 5 (by omega)
  simp only [uLet] at *
  unfold uOf
  rw [if_neg (Ne.symm h0), if_neg (Ne.symm h1), if_neg (Ne.symm h2), if_neg (Ne.symm h3), if_neg (Ne.symm h4), if_neg (Ne.symm h5)]
theorem uSize_pos (u : Nat) : 1 ≤ uSize u ∧ uSize u ≤ 31536000000 := by
  unfold uSize; split <;> omega
end Go.Proofs.YtpkeonafcldkhaaGreatDoor
/- span: units and runs of digits. -/
set_option linter.unusedVariables false
set_option linter.unusedSimpArgs false
namespace Go.Proofs.YtpkeonafcldkhaaGreatDoor
open Go.RowKit

theorem span_digit (c : UInt8) (w : World) :
    Calls Tryz.prog 128 #[.int .u8 (c.toNat : Int)] w fun e w' => e = .returned (.bool (digit c)) ∧ w = w' := by
  go_enter Tryz.func128, Tryz.ntmps128
  go_wp2
  all_goals (go_ret; exact ⟨ret_bool (by rw [Bool.eq_iff_iff]; simp [digit]; omega), rfl⟩)
set_option maxRecDepth 100000 in
theorem span_run (s : ByteArray) (x : Int) (i : Nat) (hx : x = (i : Int)) (w : World) (hs : s.size ≤ 281474976710656) (hi : i ≤ 281474976710656) :
    Calls Tryz.prog 116 #[.string s, .int .i64 x] w fun e w' => e = .returned (.int .i64 (spanEnd digit s.data.toList i : Nat)) ∧ w = w' := by
  subst hx
  go_enter Tryz.func116, Tryz.ntmps116
  go_wp2_with fail
  go_loop [1] (fun t => ∃ k : Nat, k ≤ 562949953421312 ∧ t = .int .i64 k ∧ Hid (spanEnd digit s.data.toList k = spanEnd digit s.data.toList i)) (fun t => s.size - (intOf t).toNat)
  case atStart => exact ⟨i, by omega, rfl, rfl⟩
  case round =>
    obtain ⟨k, hk, rfl, hsp⟩ := hrel
    by_cases hlt : k < s.size
    · cases hd : digit s[k]
      all_goals
        go_wp2_with (go_at_call 128; refine (span_digit _ _).mono ?_; rintro e w' ⟨rfl, rfl⟩)
      · go_ret
        exact ⟨ret_int (by rw [← hsp.out, spanEnd_stopB hlt hd]), rfl⟩
      · go_round
        case rel => exact ⟨k + 1, by omega, by go_num, (spanEnd_stepB hlt hd).trans hsp.out⟩
        case measure => simp [intOf]; omega
    · go_wp2_with fail
      go_ret
      exact ⟨ret_int (by rw [← hsp.out, spanEnd_end (by simpa using hlt)]), rfl⟩
theorem span_name (x : Int) (k : Nat) (hx : x = (k : Int)) (hk : k < 6) (w : World) :
    Calls Tryz.prog 129 #[.int .i64 x] w fun e w' => e = .returned (.string ⟨#[uLet k]⟩) ∧ w = w' := by
  subst hx
  match k, hk with
  | 0, _ | 1, _ | 2, _ | 3, _ | 4, _ | 5, _ =>
    go_enter Tryz.func129, Tryz.ntmps129
    go_wp2_with fail
    go_ret
    exact ⟨rfl, rfl⟩
theorem span_size (x : Int) (u : Nat) (hx : x = (u : Int)) (hu : u ≤ 6) (w : World) :
    Calls Tryz.prog 119 #[.int .i64 x] w fun e w' => e = .returned (.int .i64 (uSize u : Nat)) ∧ w = w' := by
  subst hx
  match u, hu with
  | 0, _ | 1, _ | 2, _ | 3, _ | 4, _ | 5, _ | 6, _ =>
    go_enter Tryz.func119, Tryz.ntmps119
    go_wp2_with fail
    go_ret
    exact ⟨rfl, rfl⟩
set_option maxRecDepth 100000 in
set_option maxHeartbeats 400000 in
theorem span_saturated (s : ByteArray) (w : World) (hs : s.size ≤ 281474976710656) (hd : ∀ k (h : k < s.size), 48 ≤ s[k].toNat ∧ s[k].toNat ≤ 57) :
    Calls Tryz.prog 118 #[.string s] w fun e w' => e = .returned (.int .i64 (sat s.data.toList : Nat)) ∧ w = w' := by
  have HD := Lib.hid hd
  clear hd
  go_enter Tryz.func118, Tryz.ntmps118
  go_wp2_with fail
  go_loop [3, 4] (fun v i => ∃ k n : Nat, k ≤ s.size ∧ i = .int .i64 k ∧ v = .int .i64 n ∧ (n : Int) ≤ 315360000000001 ∧ Hid (satGo n (s.data.toList.drop k) = sat s.data.toList)) (fun _ i => s.size - (intOf i).toNat)
  case atStart => exact ⟨0, 0, Nat.zero_le _, by go_num, by go_num, by omega, Lib.hid (by rw [List.drop_zero, sat])⟩
  case round =>
    obtain ⟨k, n, hk, rfl, rfl, hn, hsp⟩ := hrel
    by_cases hlt : k < s.size
    · have hst : satGo (satStep n s[k]) (s.data.toList.drop (k + 1)) = sat s.data.toList := by
        have h1 := drop_at (l := s.data.toList) (i := k) (by rw [len_data]; exact hlt)
        rw [atB_lt hlt] at h1
        exact (satGo_cons _ _ _).symm.trans ((congrArg (satGo n) h1).symm.trans hsp.out)
      rw [satStep] at hst
      obtain ⟨h1, h2⟩ := HD.out k hlt
      clear hsp
      by_cases hb : (315360000000001 : Int) < (n : Int) * 10 + ((s[k].toNat : Int) - 48)
      · rw [Nat.min_eq_right (by omega)] at hst
        have HS := Lib.hid hst
        have hB : ((315360000000001 : Int) < (n : Int) * 10 + ((s[k].toNat : Int) - 48)) = True := by simp [hb]
        clear hst hb
        go_wp2_with fail
        go_round
        case rel => exact ⟨k + 1, 315360000000001, by omega, by go_num, by go_num, by omega, HS.out⟩
        case measure => simp [intOf]; omega
      · rw [Nat.min_eq_left (by omega)] at hst
        have HS := Lib.hid hst
        have hB : ((315360000000001 : Int) < (n : Int) * 10 + ((s[k].toNat : Int) - 48)) = False := by simp [hb]
        clear hst
        go_wp2_with fail
        go_round
        case rel => exact ⟨k + 1, n * 10 + (s[k].toNat - 48), by omega, by go_num, by go_num, by omega, HS.out⟩
        case measure => simp [intOf]; omega
    · have hst : sat s.data.toList = n := by rw [← hsp.out, List.drop_eq_nil_of_le (by rw [len_data]; omega)]; rfl
      have HS := Lib.hid hst
      clear hst hsp
      go_wp2_with fail
      go_ret
      exact ⟨ret_int (by rw [HS.out]), rfl⟩
end Go.Proofs.YtpkeonafcldkhaaGreatDoor
/- span: a unit, a duration. -/
set_option linter.unusedVariables false
set_option linter.unusedSimpArgs false
namespace Go.Proofs.YtpkeonafcldkhaaGreatDoor
open Go.RowKit

/-- What a function that answers two numbers and only draws leaves. -/
def Two (w : World) (r : Nat × Nat) (e : Ending) (w' : World) : Prop := e = .returned (.tuple #[.int .i64 (r.1 : Nat), .int .i64 (r.2 : Nat)]) ∧ Below w.heap.size w w'
theorem unitAt_out {l : List UInt8} {i : Nat} (h : l.length ≤ i) : unitAt l i = (7, i) := by rw [unitAt, if_pos h]
theorem unitAt_ms {l : List UInt8} {i : Nat} (h : i + 1 < l.length) (h1 : atB l i = 109) (h2 : atB l (i + 1) = 115) : unitAt l i = (6, i + 2) := by
  rw [unitAt, if_neg (by omega), if_pos ⟨h1, h, h2⟩]
theorem unitAt_hit {l : List UInt8} {i k : Nat} (h : i < l.length) (hn : ¬ (atB l i = 109 ∧ i + 1 < l.length ∧ atB l (i + 1) = 115)) (hk : k < 6) (hh : uLet k = atB l i) : unitAt l i = (k, i + 1) := by
  rw [unitAt, if_neg (by omega), if_neg hn, uOf_hit hk hh, if_neg (by omega)]
theorem unitAt_miss {l : List UInt8} {i : Nat} (h : i < l.length) (hn : ¬ (atB l i = 109 ∧ i + 1 < l.length ∧ atB l (i + 1) = 115)) (hh : ∀ k, k < 6 → uLet k ≠ atB l i) : unitAt l i = (7, i) := by
  rw [unitAt, if_neg (by omega), if_neg hn, uOf_miss hh, if_pos rfl]
theorem span_unitAt_loop (s : ByteArray) (x : Int) (i : Nat) (hx : x = (i : Int)) (w : World) (hs : s.size ≤ 281474976710656) (hi : i < s.size) (hn : ¬ (atB s.data.toList i = 109 ∧ i + 1 < s.data.toList.length ∧ atB s.data.toList (i + 1) = 115))
    (hb : (((s[i].toNat : Int) == 109) = false) ∨ (((s[i].toNat : Int) == 109) = true ∧ ((i : Int) + 1 < s.size) = False) ∨ (∃ h : i + 1 < s.size, ((s[i].toNat : Int) == 109) = true ∧ ((s[i+1].toNat : Int) == 115) = false)) :
    Calls Tryz.prog 117 #[.string s, .int .i64 x] w (Two w (unitAt s.data.toList i)) := by
  subst hx
  have HN := Lib.hid hn
  clear hn
  go_enter Tryz.func117, Tryz.ntmps117
  have hi2 : ((i : Int) < (s.size : Int)) = True := by simp; omega
  rcases hb with hb | ⟨hb, hb2⟩ | ⟨h, hb, hb2⟩
  all_goals
    go_wp2_with fail
    go_loopw [6] (fun t wr => ∃ k : Nat, k ≤ 6 ∧ t = .int .i64 k ∧ Below w.heap.size w wr ∧ Hid (∀ j, j < k → uLet j ≠ s[i])) (fun t _ => 6 - (intOf t).toNat)
    case atStart => exact ⟨0, by omega, rfl, Below.refl _ _, fun j hj => absurd hj (by omega)⟩
    case round =>
      obtain ⟨k, hk, rfl, hbel, hmiss⟩ := hrel
      by_cases hlt : k < 6
      · go_wp2_with fail
        go_quiet ((go_at_call 129; exact Calls.quiet_of_same ((span_name _ k rfl hlt _).mono fun _ _ ⟨h1, h2⟩ => ⟨h1, h2.symm⟩)))
        have hbel2 := below_drewN hbel nq
        clear hbel
        generalize wr.drewN nq = w2 at hbel2 ⊢
        have HM := Lib.hid hmiss.out
        clear hmiss
        have hel : (⟨#[uLet k]⟩ : ByteArray)[0]'(by simp [ByteArray.size]) = uLet k := rfl
        cases hq : ((((⟨#[uLet k]⟩ : ByteArray)[0]'(by simp [ByteArray.size])).toNat : Int) == (s[i].toNat : Int))
        · have hm2 : ∀ j, j < k + 1 → uLet j ≠ s[i] := by
            intro j hj
            by_cases hjk : j < k
            · exact HM.out j hjk
            · have : j = k := by omega
              subst this
              intro he
              rw [hel, he] at hq
              simp at hq
          have HM2 := Lib.hid hm2
          clear hm2
          go_wp2_with fail
          go_roundw
          case rel => exact ⟨k + 1, by omega, by go_num, hbel2, HM2.out⟩
          case measure => simp [intOf]; omega
        · have hu : uLet k = s[i] := by
            rw [hel] at hq
            have h1 : ((uLet k).toNat : Int) = (s[i].toNat : Int) := by simpa using hq
            exact UInt8.toNat_inj.1 (by omega)
          have hE := unitAt_hit (l := s.data.toList) (by rw [len_data]; exact hi) HN.out hlt (by rw [atB_lt hi]; exact hu)
          have HE := Lib.hid hE
          clear hE hu
          go_wp2_with fail
          go_ret2
          exact ⟨by rw [HE.out]; rfl, hbel2⟩
      · obtain rfl : k = 6 := by omega
        have hE := unitAt_miss (l := s.data.toList) (by rw [len_data]; exact hi) HN.out (by rw [atB_lt hi]; intro j hj; exact hmiss.out j (by omega))
        have HE := Lib.hid hE
        clear hE hmiss
        go_wp2_with fail
        go_ret2
        exact ⟨by rw [HE.out]; rfl, hbel⟩
theorem span_unitAt (s : ByteArray) (x : Int) (i : Nat) (hx : x = (i : Int)) (w : World) (hs : s.size ≤ 281474976710656) (hi : i ≤ 281474976710656) :
    Calls Tryz.prog 117 #[.string s, .int .i64 x] w (Two w (unitAt s.data.toList i)) := by
  by_cases ho : s.size ≤ i
  · have hE := unitAt_out (l := s.data.toList) (i := i) (by rw [len_data]; exact ho)
    have HE := Lib.hid hE
    clear hE
    subst hx
    go_enter Tryz.func117, Tryz.ntmps117
    go_wp2_with fail
    go_ret2
    exact ⟨by rw [HE.out]; rfl, Below.refl _ _⟩
  · have hlt : i < s.size := by omega
    cases h1 : ((s[i].toNat : Int) == 109)
    · exact span_unitAt_loop s x i hx w hs hlt (by rw [atB_lt hlt]; rintro ⟨h, _⟩; rw [h] at h1; simp at h1) (.inl h1)
    · by_cases h2 : i + 1 < s.size
      · cases h3 : ((s[i+1].toNat : Int) == 115)
        · exact span_unitAt_loop s x i hx w hs hlt (by rw [atB_lt h2]; rintro ⟨_, _, h⟩; rw [h] at h3; simp at h3) (.inr (.inr ⟨h2, h1, h3⟩))
        · have e1 : atB s.data.toList i = 109 := by rw [atB_lt hlt]; exact litT (n := 109) (by omega) rfl h1
          have e2 : atB s.data.toList (i + 1) = 115 := by rw [atB_lt h2]; exact litT (n := 115) (by omega) rfl h3
          have hE := unitAt_ms (l := s.data.toList) (i := i) (by rw [len_data]; exact h2) e1 e2
          clear e1 e2
          have HE := Lib.hid hE
          clear hE
          subst hx
          go_enter Tryz.func117, Tryz.ntmps117
          have hi2 : ((i : Int) < (s.size : Int)) = True := by simp; omega
          have hi3 : ((i : Int) + 1 < (s.size : Int)) = True := by simp; omega
          go_wp2_with fail
          go_ret2
          exact ⟨by rw [HE.out]; rfl, Below.refl _ _⟩
      · exact span_unitAt_loop s x i hx w hs hlt (by rw [len_data]; omega) (.inr (.inl ⟨h1, by simp; omega⟩))
end Go.Proofs.YtpkeonafcldkhaaGreatDoor
