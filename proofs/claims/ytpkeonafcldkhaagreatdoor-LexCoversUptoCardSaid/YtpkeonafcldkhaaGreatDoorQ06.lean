import Derived.Test.YtpkeonafcldkhaaGreatDoorQ05
import Derived.Test.YtpkeonafcldkhaaGreatDoorProg
import Derived.Deep.QuietTactic
import Derived.BigQuiet
/- Part of the proof of YtpkeonafcldkhaaGreatDoorCardS CardV: SpanA PlE RzA RaA. -/
set_option linter.unusedVariables false
set_option linter.unusedSimpArgs false
namespace Go.Proofs.YtpkeonafcldkhaaGreatDoor
open Go.RowKit
theorem span_digit (c : UInt8) (w : World) :
  Calls Tryz.prog 128 #[.int .u8 (c.toNat : Int)] w fun e w' => e = .returned (.bool (digit c)) ∧ w = w' := by
 go_enter Tryz.func128, Tryz.ntmps128
 go_wp2
 all_goals (go_ret; exact ⟨ret_bool (by rw [Bool.eq_iff_iff]; simp [digit]; omega), rfl⟩)
set_option maxRecDepth 100000 in
theorem span_run (s : ByteArray) (x : Int) (i : Nat) (hx : x = (i : Int)) (w : World) (hs : s.size ≤ 281474976710656) (hi : i ≤ 281474976710656) :
  Calls Tryz.prog 116 #[.string s, .int .i64 x] w fun e w' => e = .returned (.int .i64 (spanEnd digit s.data.toList i : Nat)) ∧ w = w' := by
 subst hx
 go_enter Tryz.func116, Tryz.ntmps116
 go_wp2_with fail
 go_loop [1] (fun t => ∃ k : Nat, k ≤ 562949953421312 ∧ t = .int .i64 k ∧ Hid (spanEnd digit s.data.toList k = spanEnd digit s.data.toList i)) (fun t => s.size - (intOf t).toNat)
 case atStart => exact ⟨i, by omega, rfl, rfl⟩
 case round =>
  obtain ⟨k, hk, rfl, hsp⟩ := hrel
  by_cases hlt : k < s.size
  ·cases hd : digit s[k]
   all_goals
    go_wp2_with (go_at_call 128; refine (span_digit _ _).mono ?_; rintro e w' ⟨rfl, rfl⟩)
   ·go_ret
    exact ⟨ret_int (by rw [← hsp.out, spanEnd_stopB hlt hd]), rfl⟩
   ·go_round
    case rel => exact ⟨k + 1, by omega, by go_num, (spanEnd_stepB hlt hd).trans hsp.out⟩
    case measure => simp [intOf]; omega
  ·go_wp2_with fail
   go_ret
   exact ⟨ret_int (by rw [← hsp.out, spanEnd_end (by simpa using hlt)]), rfl⟩
theorem span_name (x : Int) (k : Nat) (hx : x = (k : Int)) (hk : k < 6) (w : World) :
    Calls Tryz.prog 129 #[.int .i64 x] w fun e w' => e = .returned (.string ⟨#[uLet k]⟩) ∧ w = w' := by
  subst hx
  match k, hk with
  | 0, _ | 1, _ | 2, _ | 3, _ | 4, _ | 5, _ =>
    go_enter Tryz.func129, Tryz.ntmps129
    go_wp2_with fail
    go_ret
    exact ⟨rfl, rfl⟩
theorem span_size (x : Int) (u : Nat) (hx : x = (u : Int)) (hu : u ≤ 6) (w : World) :
    Calls Tryz.prog 119 #[.int .i64 x] w fun e w' => e = .returned (.int .i64 (uSize u : Nat)) ∧ w = w' := by
  subst hx
  match u, hu with
  | 0, _ | 1, _ | 2, _ | 3, _ | 4, _ | 5, _ | 6, _ =>
    go_enter Tryz.func119, Tryz.ntmps119
    go_wp2_with fail
    go_ret
    exact ⟨rfl, rfl⟩
set_option maxRecDepth 100000 in
set_option maxHeartbeats 400000 in
theorem span_saturated (s : ByteArray) (w : World) (hs : s.size ≤ 281474976710656) (hd : ∀ k (h : k < s.size), 48 ≤ s[k].toNat ∧ s[k].toNat ≤ 57) :
  Calls Tryz.prog 118 #[.string s] w fun e w' => e = .returned (.int .i64 (sat s.data.toList : Nat)) ∧ w = w' := by
 have HD := Lib.hid hd
 clear hd
 go_enter Tryz.func118, Tryz.ntmps118
 go_wp2_with fail
 go_loop [3, 4] (fun v i => ∃ k n : Nat, k ≤ s.size ∧ i = .int .i64 k ∧ v = .int .i64 n ∧ (n : Int) ≤ 315360000000001 ∧ Hid (satGo n (s.data.toList.drop k) = sat s.data.toList)) (fun _ i => s.size - (intOf i).toNat)
 case atStart => exact ⟨0, 0, Nat.zero_le _, by go_num, by go_num, by omega, Lib.hid (by rw [List.drop_zero, sat])⟩
 case round =>
  obtain ⟨k, n, hk, rfl, rfl, hn, hsp⟩ := hrel
  by_cases hlt : k < s.size
  ·have hst : satGo (satStep n s[k]) (s.data.toList.drop (k + 1)) = sat s.data.toList := by
    have h1 := drop_at (l := s.data.toList) (i := k) (by rw [len_data]; exact hlt)
    rw [atB_lt hlt] at h1
    exact (satGo_cons _ _ _).symm.trans ((congrArg (satGo n) h1).symm.trans hsp.out)
   rw [satStep] at hst
   obtain ⟨h1, h2⟩ := HD.out k hlt
   clear hsp
   by_cases hb : (315360000000001 : Int) < (n : Int) * 10 + ((s[k].toNat : Int) - 48)
   ·rw [Nat.min_eq_right (by omega)] at hst
    have HS := Lib.hid hst
    have hB : ((315360000000001 : Int) < (n : Int) * 10 + ((s[k].toNat : Int) - 48)) = True := by simp [hb]
    clear hst hb
    go_wp2_with fail
    go_round
    case rel => exact ⟨k + 1, 315360000000001, by omega, by go_num, by go_num, by omega, HS.out⟩
    case measure => simp [intOf]; omega
   ·rw [Nat.min_eq_left (by omega)] at hst
    have HS := Lib.hid hst
    have hB : ((315360000000001 : Int) < (n : Int) * 10 + ((s[k].toNat : Int) - 48)) = False := by simp [hb]
    clear hst
    go_wp2_with fail
    go_round
    case rel => exact ⟨k + 1, n * 10 + (s[k].toNat - 48), by omega, by go_num, by go_num, by omega, HS.out⟩
    case measure => simp [intOf]; omega
  ·have hst : sat s.data.toList = n := by rw [← hsp.out, List.drop_eq_nil_of_le (by rw [len_data]; omega)]; rfl
   have HS := Lib.hid hst
   clear hst hsp
   go_wp2_with fail
   go_ret
   exact ⟨ret_int (by rw [HS.out]), rfl⟩
def hexd (c : UInt8) : Bool := digit c || (97 ≤ c.toNat && c.toNat ≤ 102) || (65 ≤ c.toNat && c.toNat ≤ 70)
def isE (c : UInt8) : Bool := c.toNat == 101 || c.toNat == 69
def isPM (c : UInt8) : Bool := c.toNat == 43 || c.toNat == 45
def isX (c : UInt8) : Bool := c.toNat == 120 || c.toNat == 88
def expAt (l : List UInt8) (i : Nat) : Nat := if i + 1 < l.length ∧ isPM (atB l (i + 1)) = true then i + 2 else i + 1
def expEnd (l : List UInt8) (i : Nat) : Nat :=
 if l.length ≤ i ∨ isE (atB l i) = false then i
 else if expAt l i < spanEnd digit l (expAt l i) then spanEnd digit l (expAt l i) else i
def hexHead (l : List UInt8) : Bool := decide (2 < l.length) && (atB l 0).toNat == 48 && isX (atB l 1) && hexd (atB l 2)
def decEnd (l : List UInt8) : Nat :=
 if spanEnd digit l 0 < l.length ∧ (atB l (spanEnd digit l 0)).toNat = 46 ∧ 0 < spanEnd digit l 0 then spanEnd digit l (spanEnd digit l 0 + 1)
 else if spanEnd digit l 0 = 0 ∧ 1 < l.length ∧ (atB l 0).toNat = 46 ∧ digit (atB l 1) = true then spanEnd digit l 1
 else spanEnd digit l 0
def numPrefix (l : List UInt8) : Nat :=
 if hexHead l = true then spanEnd hexd l 2 else if decEnd l = 0 then 0 else expEnd l (decEnd l)
theorem expAt_bound (l : List UInt8) (i : Nat) (h : i < l.length) : i + 1 ≤ expAt l i ∧ expAt l i ≤ l.length := by
 unfold expAt; split <;> omega
theorem expEnd_le (l : List UInt8) (i : Nat) (h : i ≤ l.length) : i ≤ expEnd l i ∧ expEnd l i ≤ l.length := by
 unfold expEnd
 split
 ·omega
 ·have h1 := expAt_bound l i (by omega)
  have h2 := spanEnd_le digit l (expAt l i) h1.2
  split <;> omega
theorem decEnd_le (l : List UInt8) : decEnd l ≤ l.length := by
 unfold decEnd
 have h0 := spanEnd_le digit l 0 (Nat.zero_le _)
 split
 ·exact spanEnd_le digit l _ (by omega)
 ·split
  ·exact spanEnd_le digit l _ (by omega)
  ·exact h0
theorem numPrefix_le (l : List UInt8) : numPrefix l ≤ l.length := by
 unfold numPrefix
 split
 ·rename_i h
  simp [hexHead] at h
  exact spanEnd_le hexd l 2 (by omega)
 ·split
  ·omega
  ·exact (expEnd_le l _ (decEnd_le l)).2
theorem dec_A {s : ByteArray} {k : Nat} (h : hexHead s.data.toList = false) (hk : spanEnd digit s.data.toList 0 = k) (h1 : k < s.size) (h2 : ((s[k].toNat : Int) == 46) = true) (h3 : 0 < k) : numPrefix s.data.toList = expEnd s.data.toList (spanEnd digit s.data.toList (k + 1)) := by
 have h4 : s[k].toNat = 46 := by have : (s[k].toNat : Int) = 46 := beq_iff_eq.1 h2; omega
 have h5 : decEnd s.data.toList = spanEnd digit s.data.toList (k + 1) := by
  rw [decEnd, hk, if_pos ⟨by rw [len_data]; exact h1, by rw [atB_lt h1]; exact h4, h3⟩]
 have := spanEnd_ge digit s.data.toList (k + 1)
 rw [numPrefix, h, h5, if_neg (by simp), if_neg (by omega)]
theorem dec_C {s : ByteArray} (h : hexHead s.data.toList = false) (hk : spanEnd digit s.data.toList 0 = 0) (h1 : 1 < s.size) (h2 : ((s[0].toNat : Int) == 46) = true) (h3 : digit s[1] = true) : numPrefix s.data.toList = expEnd s.data.toList (spanEnd digit s.data.toList 1) := by
 have h4 : s[0].toNat = 46 := by have : (s[0].toNat : Int) = 46 := beq_iff_eq.1 h2; omega
 have h5 : decEnd s.data.toList = spanEnd digit s.data.toList 1 := by
  rw [decEnd, hk, if_neg (by omega), if_pos ⟨rfl, by rw [len_data]; exact h1, by rw [atB_lt (by omega)]; exact h4, by rw [atB_lt h1]; exact h3⟩]
 have := spanEnd_ge digit s.data.toList 1
 rw [numPrefix, h, h5, if_neg (by simp), if_neg (by omega)]
theorem dec_N {s : ByteArray} {k : Nat} (h : hexHead s.data.toList = false) (hk : spanEnd digit s.data.toList 0 = k) (h0 : k ≠ 0) (h1 : ∀ h : k < s.size, ((s[k].toNat : Int) == 46) = false) : numPrefix s.data.toList = expEnd s.data.toList k := by
 have h5 : decEnd s.data.toList = k := by
  rw [decEnd, hk, if_neg, if_neg (by omega)]
  rintro ⟨ha, hb, _⟩
  rw [len_data] at ha
  rw [atB_lt ha] at hb
  have := beq_eq_false_iff_ne.1 (h1 ha)
  omega
 rw [numPrefix, h, h5, if_neg (by simp), if_neg h0]
theorem dec_0 {s : ByteArray} (h : hexHead s.data.toList = false) (hk : spanEnd digit s.data.toList 0 = 0) (h1 : ∀ h : 1 < s.size, ((s[0].toNat : Int) == 46) = true → digit s[1] = false) : numPrefix s.data.toList = 0 := by
 have h5 : decEnd s.data.toList = 0 := by
  rw [decEnd, hk, if_neg (by omega), if_neg]
  rintro ⟨_, ha, hb, hc⟩
  rw [len_data] at ha
  rw [atB_lt (by omega)] at hb
  rw [atB_lt ha, h1 ha (by rw [beq_iff_eq]; omega)] at hc
  simp at hc
 rw [numPrefix, h, h5, if_neg (by simp), if_pos rfl]
theorem hex_yes {s : ByteArray} (h : hexHead s.data.toList = true) : ∃ h : 2 < s.size, ((s[0].toNat : Int) == 48) = true ∧ hexd s[2] = true ∧ ((((s[1].toNat : Int) == 120) = true) ∨ (((s[1].toNat : Int) == 120) = false ∧ ((s[1].toNat : Int) == 88) = true)) := by
 simp only [hexHead, Bool.and_eq_true, decide_eq_true_eq, len_data] at h
 obtain ⟨⟨⟨h1, h2⟩, h3⟩, h4⟩ := h
 rw [atB_lt (by omega)] at h2 h3
 rw [atB_lt h1] at h4
 refine ⟨h1, by simp at h2 ⊢; omega, h4, ?_⟩
 simp [isX] at h3 ⊢
 omega
theorem hex_no {s : ByteArray} (h : hexHead s.data.toList = false) : ¬ 2 < s.size ∨ ∃ h : 2 < s.size, ((s[0].toNat : Int) == 48) = false ∨ ((s[0].toNat : Int) == 48) = true ∧ ((((s[1].toNat : Int) == 120) = false ∧ ((s[1].toNat : Int) == 88) = false) ∨ ((s[1].toNat : Int) == 120) = true ∧ hexd s[2] = false ∨ ((s[1].toNat : Int) == 120) = false ∧ ((s[1].toNat : Int) == 88) = true ∧ hexd s[2] = false) := by
 by_cases h1 : 2 < s.size
 ·refine .inr ⟨h1, ?_⟩
  simp only [hexHead, len_data, decide_eq_true h1, Bool.true_and] at h
  rw [atB_lt (by omega), atB_lt (by omega), atB_lt h1] at h
  cases h2 : ((s[0].toNat : Int) == 48)
  ·exact .inl rfl
  ·refine .inr ⟨rfl, ?_⟩
   have h2' : (s[0].toNat == 48) = true := by simp at h2 ⊢; omega
   rw [h2', Bool.true_and] at h
   cases h3 : ((s[1].toNat : Int) == 120)
   ·cases h4 : ((s[1].toNat : Int) == 88)
    ·exact .inl ⟨rfl, rfl⟩
    ·have : isX s[1] = true := by simp [isX] at h4 ⊢; omega
     rw [this, Bool.true_and] at h
     exact .inr (.inr ⟨rfl, rfl, h⟩)
   ·have : isX s[1] = true := by simp [isX] at h3 ⊢; omega
    rw [this, Bool.true_and] at h
    exact .inr (.inl ⟨rfl, h⟩)
 ·exact .inl h1
theorem expEnd_out {s : ByteArray} {i : Nat} (h : (i : Int) = (s.size : Int)) : expEnd s.data.toList i = i := by
 rw [expEnd, if_pos (.inl (by rw [len_data]; omega))]
theorem expEnd_no {s : ByteArray} {i : Nat} (h : i < s.size) (h1 : (s[i].toNat : Int) ≠ 101) (h2 : (s[i].toNat : Int) ≠ 69) : expEnd s.data.toList i = i := by
 rw [expEnd, if_pos (.inr (by rw [atB_lt h, isE]; simp; omega))]
theorem expAt_sg {s : ByteArray} {i : Nat} (h : i + 1 < s.size) (h2 : (s[i+1].toNat : Int) = 43 ∨ (s[i+1].toNat : Int) = 45) : expAt s.data.toList i = i + 2 := by
 rw [expAt, if_pos ⟨by rw [len_data]; exact h, by rw [atB_lt h, isPM]; simp; omega⟩]
theorem expAt_ns {s : ByteArray} {i : Nat} (h2 : ∀ h : i + 1 < s.size, (s[i+1].toNat : Int) ≠ 43 ∧ (s[i+1].toNat : Int) ≠ 45) : expAt s.data.toList i = i + 1 := by
 rw [expAt, if_neg]
 rintro ⟨ha, hb⟩
 rw [len_data] at ha
 rw [atB_lt ha, isPM] at hb
 have := h2 ha
 simp at hb; omega
theorem expEnd_yes {s : ByteArray} {i j k : Nat} (h : i < s.size) (h1 : (s[i].toNat : Int) = 101 ∨ (s[i].toNat : Int) = 69) (hj : expAt s.data.toList i = j) (hk : spanEnd digit s.data.toList j = k) (hlt : j < k) : expEnd s.data.toList i = k := by
 rw [expEnd, hj, hk, if_neg, if_pos hlt]
 rw [len_data, atB_lt h, isE]
 simp; omega
theorem expEnd_sole {s : ByteArray} {i j k : Nat} (hj : expAt s.data.toList i = j) (hk : spanEnd digit s.data.toList j = k) (hlt : ¬ j < k) : expEnd s.data.toList i = i := by
 rw [expEnd, hj, hk, if_neg hlt, ite_self]
theorem rz_meas {F r : Nat} (h : r < F) : F - (intOf (.int .i64 ((r : Int) + 1))).toNat < F - (intOf (.int .i64 (r : Int))).toNat := by
 have h1 : (intOf (.int .i64 ((r : Int) + 1))).toNat = r + 1 := rfl
 have h2 : (intOf (.int .i64 (r : Int))).toNat = r := rfl
 rw [h1, h2]
 exact Nat.sub_lt_sub_left h (Nat.lt_succ_self r)
theorem rz_res3 {fn : Func} {a b c : Tmp} (h : fn.results = #[.tmp a, .tmp b, .tmp c]) (tmps : Array Value) (P : Program) (w : World) :
  (results fn tmps).run P w = .ok (.tuple #[tmps.getD a undef, tmps.getD b undef, tmps.getD c undef]) w := by
 simp [results, h]
theorem all_bytesR {P : UInt8 → Prop} (h : ∀ n : Fin 256, P (UInt8.ofNat n.val)) (c : UInt8) : P c := by
 have := h ⟨c.toNat, c.toNat_lt⟩
 simpa using this
theorem rz_vi {k : IntKind} {a b : Int} (h : a = b) : Value.int k a = Value.int k b := by rw [h]
def formI (n : Int) : List UInt8 := if 0 ≤ n ∧ isRuneN n.toNat = true then formB n.toNat else []
def gP (l : List UInt8) (i : Nat) (n0 : Int) : Nat → Int
 | 0 => n0
 |j + 1 => gP l i n0 j * 64 + ((atB l (i + (j + 1))).toNat : Int) - 128
def offW (w : Nat) : Int := if w = 2 then 192 else if w = 3 then 224 else if w = 4 then 240 else 0
def guessI (l : List UInt8) (i w : Nat) : Int := gP l i (((atB l i).toNat : Int) - offW w) (w - 1)
theorem takeW (l : List UInt8) (i : Nat) : ∀ (w : Nat), i + w ≤ l.length → (l.drop i).take w = (List.range w).map fun j => atB l (i + j)
 | 0, _ => by simp
 |w + 1, h => by
  rw [List.range_succ, List.map_append, ← takeW l i w (by omega), List.take_succ_eq_append_getElem (by simp; omega)]
  congr 1
  simp only [List.map_cons, List.map_nil, List.getElem_drop]
  rw [atB, List.getD_eq_getElem?_getD, List.getElem?_eq_getElem (by omega)]; rfl
theorem ofNat_eq {x : Nat} {c : UInt8} (h : x < 256) : UInt8.ofNat x = c ↔ x = c.toNat := by
 rw [eq_comm, u8_eq h, eq_comm]
theorem formI_1 (c : UInt8) : formI (c.toNat : Int) = [c] ↔ c.toNat < 128 := by
 have hc : c.toNat < 256 := c.toNat_lt
 unfold formI formB
 simp only [Int.toNat_natCast]
 constructor
 ·intro h
  rcases Nat.lt_or_ge c.toNat 128 with h1 | h1
  ·exact h1
  ·rw [if_pos ⟨by omega, by simp [isRuneN]; omega⟩, if_neg (by omega), if_pos (by omega)] at h
   simp at h
 ·intro h
  rw [if_pos ⟨by omega, by simp [isRuneN]; omega⟩, if_pos h, List.cons.injEq]
  exact ⟨(ofNat_eq hc).2 rfl, rfl⟩
theorem formI_2 (b c : UInt8) : formI (((b.toNat : Int) - 192) * 64 + (c.toNat : Int) - 128) = [b, c] ↔ (194 ≤ b.toNat ∧ b.toNat ≤ 223 ∧ 128 ≤ c.toNat ∧ c.toNat ≤ 191) := by
 have hb : b.toNat < 256 := b.toNat_lt
 have hc : c.toNat < 256 := c.toNat_lt
 obtain ⟨n, hn⟩ : ∃ n : Int, n = ((b.toNat : Int) - 192) * 64 + (c.toNat : Int) - 128 := ⟨_, rfl⟩
 rw [← hn]
 unfold formI
 by_cases h0 : 0 ≤ n ∧ isRuneN n.toNat = true
 ·rw [if_pos h0]
  obtain ⟨m, rfl⟩ : ∃ m : Nat, n = m := ⟨n.toNat, by omega⟩
  rw [Int.toNat_natCast] at h0 ⊢
  unfold formB
  split
  ·simp; omega
  ·split
   ·rw [List.cons.injEq, List.cons.injEq, ofNat_eq (by omega), ofNat_eq (by omega)]
    simp only [and_true]
    constructor
    ·rintro ⟨h1, h2⟩; omega
    ·intro h; omega
   ·split
    ·simp; omega
    ·simp; omega
 ·rw [if_neg h0]
  simp only [List.nil_eq, reduceCtorEq, false_iff]
  intro h
  refine h0 ⟨by omega, ?_⟩
  simp [isRuneN]; omega
theorem formI_3 (b c d : UInt8) : formI (((((b.toNat : Int) - 224) * 64 + (c.toNat : Int) - 128)) * 64 + (d.toNat : Int) - 128) = [b, c, d] ↔
  (224 ≤ b.toNat ∧ b.toNat ≤ 239 ∧ 128 ≤ c.toNat ∧ c.toNat ≤ 191 ∧ 128 ≤ d.toNat ∧ d.toNat ≤ 191 ∧ (b.toNat = 224 → 160 ≤ c.toNat) ∧ (b.toNat = 237 → c.toNat ≤ 159)) := by
 have hb : b.toNat < 256 := b.toNat_lt
 have hc : c.toNat < 256 := c.toNat_lt
 have hd : d.toNat < 256 := d.toNat_lt
 obtain ⟨n, hn⟩ : ∃ n : Int, n = ((((b.toNat : Int) - 224) * 64 + (c.toNat : Int) - 128)) * 64 + (d.toNat : Int) - 128 := ⟨_, rfl⟩
 rw [← hn]
 unfold formI
 by_cases h0 : 0 ≤ n ∧ isRuneN n.toNat = true
 ·rw [if_pos h0]
  obtain ⟨m, rfl⟩ : ∃ m : Nat, n = m := ⟨n.toNat, by omega⟩
  rw [Int.toNat_natCast] at h0 ⊢
  have hr := h0.2
  simp [isRuneN] at hr
  unfold formB
  split
  ·simp; omega
  ·split
   ·simp; omega
   ·split
    ·rw [List.cons.injEq, List.cons.injEq, List.cons.injEq, ofNat_eq (by omega), ofNat_eq (by omega), ofNat_eq (by omega)]
     simp only [and_true]
     constructor
     ·rintro ⟨h1, h2, h3⟩; omega
     ·intro h; omega
    ·simp; omega
 ·rw [if_neg h0]
  simp only [List.nil_eq, reduceCtorEq, false_iff]
  intro h
  refine h0 ⟨by omega, ?_⟩
  simp [isRuneN]; omega
theorem formI_4 (b c d e : UInt8) : formI ((((((b.toNat : Int) - 240) * 64 + (c.toNat : Int) - 128)) * 64 + (d.toNat : Int) - 128) * 64 + (e.toNat : Int) - 128) = [b, c, d, e] ↔
  (240 ≤ b.toNat ∧ b.toNat ≤ 244 ∧ 128 ≤ c.toNat ∧ c.toNat ≤ 191 ∧ 128 ≤ d.toNat ∧ d.toNat ≤ 191 ∧ 128 ≤ e.toNat ∧ e.toNat ≤ 191 ∧ (b.toNat = 240 → 144 ≤ c.toNat) ∧ (b.toNat = 244 → c.toNat ≤ 143)) := by
 have hb : b.toNat < 256 := b.toNat_lt
 have hc : c.toNat < 256 := c.toNat_lt
 have hd : d.toNat < 256 := d.toNat_lt
 have he : e.toNat < 256 := e.toNat_lt
 obtain ⟨n, hn⟩ : ∃ n : Int, n = (((((b.toNat : Int) - 240) * 64 + (c.toNat : Int) - 128)) * 64 + (d.toNat : Int) - 128) * 64 + (e.toNat : Int) - 128 := ⟨_, rfl⟩
 rw [← hn]
 unfold formI
 by_cases h0 : 0 ≤ n ∧ isRuneN n.toNat = true
 ·rw [if_pos h0]
  obtain ⟨m, rfl⟩ : ∃ m : Nat, n = m := ⟨n.toNat, by omega⟩
  rw [Int.toNat_natCast] at h0 ⊢
  have hr := h0.2
  simp [isRuneN] at hr
  unfold formB
  split
  ·simp; omega
  ·split
   ·simp; omega
   ·split
    ·simp; omega
    ·rw [List.cons.injEq, List.cons.injEq, List.cons.injEq, List.cons.injEq, ofNat_eq (by omega), ofNat_eq (by omega), ofNat_eq (by omega), ofNat_eq (by omega)]
     simp only [and_true]
     constructor
     ·rintro ⟨h1, h2, h3, h4⟩; omega
     ·intro h; omega
 ·rw [if_neg h0]
  simp only [List.nil_eq, reduceCtorEq, false_iff]
  intro h
  refine h0 ⟨by omega, ?_⟩
  simp [isRuneN]; omega
theorem decN_1 (n b c d e : Nat) : (¬ Lib.decodeN n b c d e = (65533, 1) ∧ (Lib.decodeN n b c d e).2 = 1) ↔ b < 128 := by
 unfold Lib.decodeN
 repeat' split
 all_goals first | (simp; done) | (simp; omega)
theorem decN_2 (n b c d e : Nat) (hn : 2 ≤ n) (hb : b < 256) (hc : c < 256) : (¬ Lib.decodeN n b c d e = (65533, 1) ∧ (Lib.decodeN n b c d e).2 = 2) ↔ (194 ≤ b ∧ b ≤ 223 ∧ 128 ≤ c ∧ c ≤ 191) := by
 unfold Lib.decodeN
 repeat' split
 all_goals first | (simp; done) | (simp; omega)
theorem decN_3 (n b c d e : Nat) (hn : 3 ≤ n) (hb : b < 256) (hc : c < 256) (hd : d < 256) : (¬ Lib.decodeN n b c d e = (65533, 1) ∧ (Lib.decodeN n b c d e).2 = 3) ↔
  (224 ≤ b ∧ b ≤ 239 ∧ 128 ≤ c ∧ c ≤ 191 ∧ 128 ≤ d ∧ d ≤ 191 ∧ (b = 224 → 160 ≤ c) ∧ (b = 237 → c ≤ 159)) := by
 unfold Lib.decodeN
 repeat' split
 all_goals first | (simp; done) | (simp; omega)
theorem decN_4 (n b c d e : Nat) (hn : 4 ≤ n) (hb : b < 256) (hc : c < 256) (hd : d < 256) (he : e < 256) : (¬ Lib.decodeN n b c d e = (65533, 1) ∧ (Lib.decodeN n b c d e).2 = 4) ↔
  (240 ≤ b ∧ b ≤ 244 ∧ 128 ≤ c ∧ c ≤ 191 ∧ 128 ≤ d ∧ d ≤ 191 ∧ 128 ≤ e ∧ e ≤ 191 ∧ (b = 240 → 144 ≤ c) ∧ (b = 244 → c ≤ 143)) := by
 unfold Lib.decodeN
 repeat' split
 all_goals first | (simp; done) | (simp; omega)
theorem dec_4 (l : List UInt8) (i : Nat) : (dec l i).2 ≤ 4 := by
 unfold dec Lib.decodeN
 repeat' split
 all_goals simp
theorem hit_iff {l : List UInt8} {i w : Nat} (h : i + w ≤ l.length) (h1 : 1 ≤ w) (h4 : w ≤ 4) : formI (guessI l i w) = (l.drop i).take w ↔ (bad l i = false ∧ (dec l i).2 = w) := by
 have hbad : bad l i = false ↔ ¬ dec l i = (65533, 1) := by unfold bad; rw [beq_eq_false_iff_ne]
 rw [hbad, takeW l i w h, dec]
 have e0 : l.getD i 0 = atB l i := rfl
 have e1 : l.getD (i + 1) 0 = atB l (i + 1) := rfl
 have e2 : l.getD (i + 2) 0 = atB l (i + 2) := rfl
 have e3 : l.getD (i + 3) 0 = atB l (i + 3) := rfl
 rw [e0, e1, e2, e3]
 have t0 : (atB l i).toNat < 256 := (atB l i).toNat_lt
 have t1 : (atB l (i + 1)).toNat < 256 := (atB l (i + 1)).toNat_lt
 have t2 : (atB l (i + 2)).toNat < 256 := (atB l (i + 2)).toNat_lt
 have t3 : (atB l (i + 3)).toNat < 256 := (atB l (i + 3)).toNat_lt
 have hw : w = 1 ∨ w = 2 ∨ w = 3 ∨ w = 4 := by omega
 rcases hw with rfl | rfl | rfl | rfl
 ·rw [decN_1, ← formI_1]
  simp [guessI, gP, offW, List.range_succ]
 ·rw [decN_2 _ _ _ _ _ (by omega) t0 t1, ← formI_2]
  simp [guessI, gP, offW, List.range_succ]
 ·rw [decN_3 _ _ _ _ _ (by omega) t0 t1 t2, ← formI_3]
  simp [guessI, gP, offW, List.range_succ]
 ·rw [decN_4 _ _ _ _ _ (by omega) t0 t1 t2 t3, ← formI_4]
  simp [guessI, gP, offW, List.range_succ]
def nextW (l : List UInt8) (i : Nat) : Nat := if bad l i = true then 0 else (dec l i).2
theorem nextW_hit {l : List UInt8} {i w : Nat} (h : i + w ≤ l.length) (h1 : 1 ≤ w) (h4 : w ≤ 4) (hh : formI (guessI l i w) = (l.drop i).take w) : nextW l i = w := by
 obtain ⟨hb, hw⟩ := (hit_iff h h1 h4).1 hh
 rw [nextW, hb, if_neg (by simp), hw]
theorem nextW_none {l : List UInt8} {i w : Nat} (hi : i < l.length) (hw : w = 5 ∨ l.length < i + w) (hh : ∀ v, 1 ≤ v → v < w → formI (guessI l i v) ≠ (l.drop i).take v) : nextW l i = 0 := by
 unfold nextW
 cases hb : bad l i
 ·exfalso
  have h1 := dec_pos l i
  have h2 := dec_w l i hi
  have h3 := dec_4 l i
  exact hh _ h1 (by omega) ((hit_iff h2 h1 h3).2 ⟨hb, rfl⟩)
 ·rw [if_pos rfl]
theorem gP_bound (l : List UInt8) (i : Nat) (n0 : Int) (h : -255 ≤ n0 ∧ n0 ≤ 255) : ∀ j, j ≤ 3 → -100000000 ≤ gP l i n0 j ∧ gP l i n0 j ≤ 100000000 := by
 have hb : ∀ k, (atB l k).toNat < 256 := fun k => (atB l k).toNat_lt
 intro j hj
 have hc : j = 0 ∨ j = 1 ∨ j = 2 ∨ j = 3 := by omega
 have b1 := hb (i + (0 + 1))
 have b2 := hb (i + (1 + 1))
 have b3 := hb (i + (2 + 1))
 rcases hc with rfl | rfl | rfl | rfl <;> simp only [gP] <;> omega
theorem formI_len (n : Int) : (formI n).length ≤ 4 := by
 unfold formI
 split
 ·exact (formB_len _).2
 ·simp
end Go.Proofs.YtpkeonafcldkhaaGreatDoor
