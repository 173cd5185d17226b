import Derived.Test.YtpkeonafcldkhaaGreatDoorQ35
/- Part of the proof of YtpkeonafcldkhaaGreatDoorCardS CardV: RdG. -/
set_option linter.unusedVariables false
set_option linter.unusedSimpArgs false
namespace Go.Proofs.YtpkeonafcldkhaaGreatDoor
open Go.RowKit
def op2cd (c d : UInt8) : Bool := (c == 61 && (d == 61 || d == 126)) || (c == 33 && (d == 61 || d == 126)) || ((c == 60 || c == 62) && d == 61)
theorem op2_cd {l : List UInt8} (h : l ≠ []) : op2 l = op2cd (atB l 0) (atB l 1) := by
 match l, h with
 | [c], _ => simp [op2, op2cd, atB]
 |c :: d :: r, _ =>
  have e0 : atB (c :: d :: r) 0 = c := rfl
  have e1 : atB (c :: d :: r) 1 = d := rfl
  rw [e0, e1, Bool.eq_iff_iff]
  simp only [op2, op2cd, ops2, List.take_succ_cons, List.take_zero, List.length_cons, Bool.and_eq_true, Bool.or_eq_true, decide_eq_true_eq, beq_iff_eq, List.contains_iff_mem, List.mem_cons, List.cons.injEq, and_true, List.not_mem_nil, or_false]
  constructor
  ·rintro ⟨_, h⟩
   rcases h with ⟨a, b⟩ | ⟨a, b⟩ | ⟨a, b⟩ | ⟨a, b⟩ | ⟨a, b⟩ | ⟨a, b⟩ <;> simp [a, b]
  ·intro h
   refine ⟨by omega, ?_⟩
   rcases h with (⟨a, b | b⟩ | ⟨a, b | b⟩) | ⟨a | a, b⟩ <;> simp [a, b]
def opV (c d : UInt8) (br sq : Bool) : TokR :=
 if op2cd c d = true then .tok 6 2 br sq
 else if c.toNat = 123 then .tok 6 1 true sq
 else if c.toNat = 125 then .tok 6 1 false sq
 else if c.toNat = 91 then .tok 6 1 br true
 else if c.toNat = 93 then .tok 6 1 br false
 else if ops1.contains c.toNat = true then .tok 6 1 br sq
 else .bad 110
theorem opR_V {l : List UInt8} (h : l ≠ []) (br sq : Bool) : opR l br sq = opV (atB l 0) (atB l 1) br sq := by
 rw [opR, opV, op2_cd h]
theorem LexSt.setBr {base : Nat} {w0 : World} {p : Nat} {s : ByteArray} {at' : Nat} {br sq : Bool} {v : Value} {ts : List Tok} {w : World} (h : LexSt base w0 p s at' br sq v ts w) (b : Bool) : LexSt base w0 p s at' b sq v ts (w.setCell ⟨p, 2, none⟩ (.bool b)) := by
 refine ⟨?_, own_setBlk h.own h.z (by decide) _, h.below.setCell (p := ⟨p, 2, none⟩) h.bp _, h.bp⟩
 have := Blk.set_ h.z 2 (.bool b)
 simpa [LZ] using this
theorem LexSt.setSq {base : Nat} {w0 : World} {p : Nat} {s : ByteArray} {at' : Nat} {br sq : Bool} {v : Value} {ts : List Tok} {w : World} (h : LexSt base w0 p s at' br sq v ts w) (b : Bool) : LexSt base w0 p s at' br b v ts (w.setCell ⟨p, 3, none⟩ (.bool b)) := by
 refine ⟨?_, own_setBlk h.own h.z (by decide) _, h.below.setCell (p := ⟨p, 3, none⟩) h.bp _, h.bp⟩
 have := Blk.set_ h.z 3 (.bool b)
 simpa [LZ] using this
set_option maxRecDepth 100000 in
set_option maxHeartbeats 8000000 in
theorem r11_operator (w : World) (base p : Nat) (s : ByteArray) (at' : Nat) (br sq : Bool) (v : Value) (ts : List Tok) (w0 : World) (hs : s.size ≤ 281474976710656) (hat : at' < s.size) (h : LexSt base w0 p s at' br sq v ts w) (hlen : ts.length ≤ 1099511627776) :
  Calls Tryz.prog 36 #[.pointer (some ⟨p, 0, none⟩)] w (LexPost base w0 p s at' ts (opR (s.data.toList.drop at') br sq)) := by
 have hne : s.data.toList.drop at' ≠ [] := by
  intro e; have := congrArg List.length e; rw [List.length_drop, len_data] at this; simp at this; omega
 rw [opR_V hne, atB_drop, atB_drop, Nat.add_zero, atB_lt hat]
 obtain ⟨c, hcs⟩ : ∃ c, s[at'] = c := ⟨_, rfl⟩
 obtain ⟨d, hd⟩ : ∃ d, atB s.data.toList (at' + 1) = d := ⟨_, rfl⟩
 rw [hcs, hd]
 obtain ⟨Q, hQ⟩ : ∃ Q : TokR → Ending → World → Prop, Q = LexPost base w0 p s at' ts := ⟨_, rfl⟩
 rw [← hQ]
 have hd0 : d.toNat ≠ 0 → at' + 1 < s.size := by
  intro h0
  rcases Nat.lt_or_ge (at' + 1) s.size with h1 | h1
  ·exact h1
  ·rw [atB_ge (by rw [len_data]; exact h1)] at hd
   rw [← hd] at h0; exact absurd rfl h0
 have HA : Hid (∀ w, Calls Tryz.prog 33 #[.string s, .int .i64 ((at' : Int) + 1)] w fun e w' => e = .returned (.int .u8 (d.toNat : Int)) ∧ w = w') := Lib.hid (fun w => r11_at' s _ (at' + 1) (by omega) d hd w (by unfold maxLen; omega))
 have c0 : w.cell? ⟨p, 0, none⟩ = some (.string s) := by rw [h.z.cell]; rfl
 have c1 : w.cell? ⟨p, 1, none⟩ = some (.int .i64 (at' : Int)) := by rw [h.z.cell]; rfl
 have H := Lib.hid h
 have HQ := Lib.hid hQ
 have HD0 := Lib.hid hd0
 have p2 : (at' : Int) < (s.size : Int) := by omega
 clear h hQ hd hne hd0
 go_enter Tryz.func36, Tryz.ntmps36
 go_wp2_with fail
 go_quiet ((go_at_call 33; exact Calls.quiet_of_same ((HA.out _).mono fun _ _ ⟨h1, h2⟩ => ⟨h1, h2.symm⟩)))
 have HS := Lib.hid (H.out.drewN nq)
 clear H c0 c1 HA
 generalize w.drewN nq = w2 at HS ⊢
 have HCS := Lib.hid hcs
 have f2 : w2.frozen? ⟨p, 2, none⟩ = false := HS.out.z.frozen 2
 have f3 : w2.frozen? ⟨p, 3, none⟩ = false := HS.out.z.frozen 3
 have f5 : w2.frozen? ⟨p, 5, none⟩ = false := HS.out.z.frozen 5
 have c2 : w2.cell? ⟨p, 2, none⟩ = some (.bool br) := by rw [HS.out.z.cell]; rfl
 have c3 : w2.cell? ⟨p, 3, none⟩ = some (.bool sq) := by rw [HS.out.z.cell]; rfl
 have c5 : w2.cell? ⟨p, 5, none⟩ = some (.int .i64 0) := by rw [HS.out.z.cell]; rfl
 clear hcs HCS
 by_cases h123 : c.toNat = 123
 ·have hc := u8_lit (n := 123) (by omega) h123
  subst hc
  have HR : Hid (opV (UInt8.ofNat 123) d br sq = .tok 6 1 true sq) := Lib.hid rfl
  go_wp2_with fail
  refine (r11_take' _ base p s at' 6 1 _ _ (by rfl) (by rfl) true sq v ts w0 hs (by omega) (by omega) (HS.out.setBr true) hlen).mono ?_
  rintro e w5 ⟨rfl, hp5⟩
  have HP5 := Lib.hid hp5
  clear hp5
  go_wp2_with fail
  go_end0
  rw [HR.out, HQ.out]
  exact ⟨rfl, HP5.out⟩
 by_cases h125 : c.toNat = 125
 ·have hc := u8_lit (n := 125) (by omega) h125
  subst hc
  have HR : Hid (opV (UInt8.ofNat 125) d br sq = .tok 6 1 false sq) := Lib.hid rfl
  go_wp2_with fail
  refine (r11_take' _ base p s at' 6 1 _ _ (by rfl) (by rfl) false sq v ts w0 hs (by omega) (by omega) (HS.out.setBr false) hlen).mono ?_
  rintro e w5 ⟨rfl, hp5⟩
  have HP5 := Lib.hid hp5
  clear hp5
  go_wp2_with fail
  go_end0
  rw [HR.out, HQ.out]
  exact ⟨rfl, HP5.out⟩
 by_cases h91 : c.toNat = 91
 ·have hc := u8_lit (n := 91) (by omega) h91
  subst hc
  have HR : Hid (opV (UInt8.ofNat 91) d br sq = .tok 6 1 br true) := Lib.hid rfl
  go_wp2_with fail
  refine (r11_take' _ base p s at' 6 1 _ _ (by rfl) (by rfl) br true v ts w0 hs (by omega) (by omega) (HS.out.setSq true) hlen).mono ?_
  rintro e w5 ⟨rfl, hp5⟩
  have HP5 := Lib.hid hp5
  clear hp5
  go_wp2_with fail
  go_end0
  rw [HR.out, HQ.out]
  exact ⟨rfl, HP5.out⟩
 by_cases h93 : c.toNat = 93
 ·have hc := u8_lit (n := 93) (by omega) h93
  subst hc
  have HR : Hid (opV (UInt8.ofNat 93) d br sq = .tok 6 1 br false) := Lib.hid rfl
  go_wp2_with fail
  refine (r11_take' _ base p s at' 6 1 _ _ (by rfl) (by rfl) br false v ts w0 hs (by omega) (by omega) (HS.out.setSq false) hlen).mono ?_
  rintro e w5 ⟨rfl, hp5⟩
  have HP5 := Lib.hid hp5
  clear hp5
  go_wp2_with fail
  go_end0
  rw [HR.out, HQ.out]
  exact ⟨rfl, HP5.out⟩
 by_cases hs1 : c.toNat = 40 ∨ c.toNat = 41 ∨ c.toNat = 44 ∨ c.toNat = 58 ∨ c.toNat = 43 ∨ c.toNat = 45 ∨ c.toNat = 42 ∨ c.toNat = 47 ∨ c.toNat = 37 ∨ c.toNat = 94 ∨ c.toNat = 64
 ·rcases hs1 with h | h | h | h | h | h | h | h | h | h | h
  all_goals
   have hc := u8_lit (by omega) h
   have HR : Hid (opV c d br sq = .tok 6 1 br sq) := Lib.hid (by rw [hc]; rfl)
   subst hc
   go_wp2_with fail
   refine (r11_take' _ base p s at' 6 1 _ _ (by rfl) (by rfl) br sq v ts w0 hs (by omega) (by omega) HS.out hlen).mono ?_
   rintro e w5 ⟨rfl, hp5⟩
   have HP5 := Lib.hid hp5
   clear hp5
   go_wp2_with fail
   go_end0
   rw [HR.out, HQ.out]
   exact ⟨rfl, HP5.out⟩
 by_cases h61 : c.toNat = 61
 ·have hc := u8_lit (n := 61) (by omega) h61
  subst hc
  cases e1 : ((d.toNat : Int) == 61)
  ·cases e2 : ((d.toNat : Int) == 126)
   ·have HR : Hid (opV (UInt8.ofNat 61) d br sq = .tok 6 1 br sq) := Lib.hid (by
     have n1 : (d == 61) = false := beq_eq_false_iff_ne.2 (litF (n := 61) (by omega) rfl e1)
     have n2 : (d == 126) = false := beq_eq_false_iff_ne.2 (litF (n := 126) (by omega) rfl e2)
     have : op2cd (UInt8.ofNat 61) d = false := by simp [op2cd, n1, n2]
     rw [opV, this]; rfl)
    go_wp2_with fail
    refine (r11_take' _ base p s at' 6 1 _ _ (by rfl) (by rfl) br sq v ts w0 hs (by omega) (by omega) HS.out hlen).mono ?_
    rintro e w5 ⟨rfl, hp5⟩
    have HP5 := Lib.hid hp5
    clear hp5
    go_wp2_with fail
    go_end0
    rw [HR.out, HQ.out]
    exact ⟨rfl, HP5.out⟩
   ·have HR : Hid (opV (UInt8.ofNat 61) d br sq = .tok 6 2 br sq) := Lib.hid (by
     have n2 : d = 126 := litT (n := 126) (by omega) rfl e2
     rw [n2]; rfl)
    go_wp2_with fail
    refine (r11_take' _ base p s at' 6 2 _ _ (by rfl) (by rfl) br sq v ts w0 hs (by have := HD0.out (by have := eqT e2; omega); omega) (by omega) HS.out hlen).mono ?_
    rintro e w5 ⟨rfl, hp5⟩
    have HP5 := Lib.hid hp5
    clear hp5
    go_wp2_with fail
    refine bodyPost_ret (results_none rfl _ _ _) rfl ?_
    rw [HR.out, HQ.out]
    exact ⟨rfl, HP5.out⟩
  ·have HR : Hid (opV (UInt8.ofNat 61) d br sq = .tok 6 2 br sq) := Lib.hid (by
    have n2 : d = 61 := litT (n := 61) (by omega) rfl e1
    rw [n2]; rfl)
   go_wp2_with fail
   refine (r11_take' _ base p s at' 6 2 _ _ (by rfl) (by rfl) br sq v ts w0 hs (by have := HD0.out (by have := eqT e1; omega); omega) (by omega) HS.out hlen).mono ?_
   rintro e w5 ⟨rfl, hp5⟩
   have HP5 := Lib.hid hp5
   clear hp5
   go_wp2_with fail
   refine bodyPost_ret (results_none rfl _ _ _) rfl ?_
   rw [HR.out, HQ.out]
   exact ⟨rfl, HP5.out⟩
 by_cases h33 : c.toNat = 33
 ·have hc := u8_lit (n := 33) (by omega) h33
  subst hc
  cases e1 : ((d.toNat : Int) == 61)
  ·cases e2 : ((d.toNat : Int) == 126)
   ·have HR : Hid (opV (UInt8.ofNat 33) d br sq = .bad 110) := Lib.hid (by
     have n1 : (d == 61) = false := beq_eq_false_iff_ne.2 (litF (n := 61) (by omega) rfl e1)
     have n2 : (d == 126) = false := beq_eq_false_iff_ne.2 (litF (n := 126) (by omega) rfl e2)
     have : op2cd (UInt8.ofNat 33) d = false := by simp [op2cd, n1, n2]
     rw [opV, this]; rfl)
    have x1 : ((d.toNat : Int) = 61) = False := eq_false (neT e1)
    have x2 : ((d.toNat : Int) = 126) = False := eq_false (neT e2)
    have y1 : ((d.toNat : Int) != 61) = true := by rw [bne, e1]; rfl
    have y2 : ((d.toNat : Int) != 126) = true := by rw [bne, e2]; rfl
    go_wp2_with fail
    refine bodyPost_ret (results_none rfl _ _ _) rfl ?_
    rw [HR.out, HQ.out]
    exact ⟨rfl, br, sq, v, (HS.out.fail rfl).1, (HS.out.fail rfl).2⟩
   ·have HR : Hid (opV (UInt8.ofNat 33) d br sq = .tok 6 2 br sq) := Lib.hid (by
     have n2 : d = 126 := litT (n := 126) (by omega) rfl e2
     rw [n2]; rfl)
    have x1 : ((d.toNat : Int) = 61) = False := eq_false (neT e1)
    have y1 : ((d.toNat : Int) != 61) = true := by rw [bne, e1]; rfl
    have y2 : ((d.toNat : Int) != 126) = false := by rw [bne, e2]; rfl
    go_wp2_with fail
    refine (r11_take' _ base p s at' 6 2 _ _ (by rfl) (by rfl) br sq v ts w0 hs (by have := HD0.out (by have := eqT e2; omega); omega) (by omega) HS.out hlen).mono ?_
    rintro e w5 ⟨rfl, hp5⟩
    have HP5 := Lib.hid hp5
    clear hp5
    go_wp2_with fail
    refine bodyPost_ret (results_none rfl _ _ _) rfl ?_
    rw [HR.out, HQ.out]
    exact ⟨rfl, HP5.out⟩
  ·have HR : Hid (opV (UInt8.ofNat 33) d br sq = .tok 6 2 br sq) := Lib.hid (by
    have n2 : d = 61 := litT (n := 61) (by omega) rfl e1
    rw [n2]; rfl)
   have y1 : ((d.toNat : Int) != 61) = false := by rw [bne, e1]; rfl
   go_wp2_with fail
   refine (r11_take' _ base p s at' 6 2 _ _ (by rfl) (by rfl) br sq v ts w0 hs (by have := HD0.out (by have := eqT e1; omega); omega) (by omega) HS.out hlen).mono ?_
   rintro e w5 ⟨rfl, hp5⟩
   have HP5 := Lib.hid hp5
   clear hp5
   go_wp2_with fail
   refine bodyPost_ret (results_none rfl _ _ _) rfl ?_
   rw [HR.out, HQ.out]
   exact ⟨rfl, HP5.out⟩
 by_cases h60 : c.toNat = 60
 ·have hc := u8_lit (n := 60) (by omega) h60
  subst hc
  cases e1 : ((d.toNat : Int) == 61)
  ·have HR : Hid (opV (UInt8.ofNat 60) d br sq = .tok 6 1 br sq) := Lib.hid (by
    have n1 : (d == 61) = false := beq_eq_false_iff_ne.2 (litF (n := 61) (by omega) rfl e1)
    have : op2cd (UInt8.ofNat 60) d = false := by simp [op2cd, n1]
    rw [opV, this]; rfl)
   go_wp2_with fail
   refine (r11_take' _ base p s at' 6 1 _ _ (by rfl) (by rfl) br sq v ts w0 hs (by omega) (by omega) HS.out hlen).mono ?_
   rintro e w5 ⟨rfl, hp5⟩
   have HP5 := Lib.hid hp5
   clear hp5
   go_wp2_with fail
   go_end0
   rw [HR.out, HQ.out]
   exact ⟨rfl, HP5.out⟩
  ·have HR : Hid (opV (UInt8.ofNat 60) d br sq = .tok 6 2 br sq) := Lib.hid (by
    have n2 : d = 61 := litT (n := 61) (by omega) rfl e1
    rw [n2]; rfl)
   go_wp2_with fail
   refine (r11_take' _ base p s at' 6 2 _ _ (by rfl) (by rfl) br sq v ts w0 hs (by have := HD0.out (by have := eqT e1; omega); omega) (by omega) HS.out hlen).mono ?_
   rintro e w5 ⟨rfl, hp5⟩
   have HP5 := Lib.hid hp5
   clear hp5
   go_wp2_with fail
   refine bodyPost_ret (results_none rfl _ _ _) rfl ?_
   rw [HR.out, HQ.out]
   exact ⟨rfl, HP5.out⟩
 by_cases h62 : c.toNat = 62
 ·have hc := u8_lit (n := 62) (by omega) h62
  subst hc
  cases e1 : ((d.toNat : Int) == 61)
  ·have HR : Hid (opV (UInt8.ofNat 62) d br sq = .tok 6 1 br sq) := Lib.hid (by
    have n1 : (d == 61) = false := beq_eq_false_iff_ne.2 (litF (n := 61) (by omega) rfl e1)
    have : op2cd (UInt8.ofNat 62) d = false := by simp [op2cd, n1]
    rw [opV, this]; rfl)
   go_wp2_with fail
   refine (r11_take' _ base p s at' 6 1 _ _ (by rfl) (by rfl) br sq v ts w0 hs (by omega) (by omega) HS.out hlen).mono ?_
   rintro e w5 ⟨rfl, hp5⟩
   have HP5 := Lib.hid hp5
   clear hp5
   go_wp2_with fail
   go_end0
   rw [HR.out, HQ.out]
   exact ⟨rfl, HP5.out⟩
  ·have HR : Hid (opV (UInt8.ofNat 62) d br sq = .tok 6 2 br sq) := Lib.hid (by
    have n2 : d = 61 := litT (n := 61) (by omega) rfl e1
    rw [n2]; rfl)
   go_wp2_with fail
   refine (r11_take' _ base p s at' 6 2 _ _ (by rfl) (by rfl) br sq v ts w0 hs (by have := HD0.out (by have := eqT e1; omega); omega) (by omega) HS.out hlen).mono ?_
   rintro e w5 ⟨rfl, hp5⟩
   have HP5 := Lib.hid hp5
   clear hp5
   go_wp2_with fail
   refine bodyPost_ret (results_none rfl _ _ _) rfl ?_
   rw [HR.out, HQ.out]
   exact ⟨rfl, HP5.out⟩
 have HR : Hid (opV c d br sq = .bad 110) := Lib.hid (by
  have g61 : (c == 61) = false := beq_eq_false_iff_ne.2 (fun e => h61 (by rw [e]; rfl))
  have g33 : (c == 33) = false := beq_eq_false_iff_ne.2 (fun e => h33 (by rw [e]; rfl))
  have g60 : (c == 60) = false := beq_eq_false_iff_ne.2 (fun e => h60 (by rw [e]; rfl))
  have g62 : (c == 62) = false := beq_eq_false_iff_ne.2 (fun e => h62 (by rw [e]; rfl))
  have h2 : op2cd c d = false := by simp [op2cd, g61, g33, g60, g62]
  have h1 : ops1.contains c.toNat = false := by
   rw [Bool.eq_false_iff]
   intro h
   simp only [ops1, List.contains_iff_mem, List.mem_cons, List.not_mem_nil, or_false] at h
   omega
  rw [opV, h2, if_neg (by simp), if_neg h123, if_neg h125, if_neg h91, if_neg h93, h1]; rfl)
 have z123 : ((c.toNat : Int) == 123) = false := beq_eq_false_iff_ne.2 (by omega)
 have z125 : ((c.toNat : Int) == 125) = false := beq_eq_false_iff_ne.2 (by omega)
 have z91 : ((c.toNat : Int) == 91) = false := beq_eq_false_iff_ne.2 (by omega)
 have z93 : ((c.toNat : Int) == 93) = false := beq_eq_false_iff_ne.2 (by omega)
 have z40 : ((c.toNat : Int) == 40) = false := beq_eq_false_iff_ne.2 (by omega)
 have z41 : ((c.toNat : Int) == 41) = false := beq_eq_false_iff_ne.2 (by omega)
 have z44 : ((c.toNat : Int) == 44) = false := beq_eq_false_iff_ne.2 (by omega)
 have z58 : ((c.toNat : Int) == 58) = false := beq_eq_false_iff_ne.2 (by omega)
 have z43 : ((c.toNat : Int) == 43) = false := beq_eq_false_iff_ne.2 (by omega)
 have z45 : ((c.toNat : Int) == 45) = false := beq_eq_false_iff_ne.2 (by omega)
 have z42 : ((c.toNat : Int) == 42) = false := beq_eq_false_iff_ne.2 (by omega)
 have z47 : ((c.toNat : Int) == 47) = false := beq_eq_false_iff_ne.2 (by omega)
 have z37 : ((c.toNat : Int) == 37) = false := beq_eq_false_iff_ne.2 (by omega)
 have z94 : ((c.toNat : Int) == 94) = false := beq_eq_false_iff_ne.2 (by omega)
 have z64 : ((c.toNat : Int) == 64) = false := beq_eq_false_iff_ne.2 (by omega)
 have z61 : ((c.toNat : Int) == 61) = false := beq_eq_false_iff_ne.2 (by omega)
 have z33 : ((c.toNat : Int) == 33) = false := beq_eq_false_iff_ne.2 (by omega)
 have z60 : ((c.toNat : Int) == 60) = false := beq_eq_false_iff_ne.2 (by omega)
 have z62 : ((c.toNat : Int) == 62) = false := beq_eq_false_iff_ne.2 (by omega)
 clear h123 h125 h91 h93 hs1 h61 h33 h60 h62
 go_wp2_with fail
 refine bodyPost_ret (results_none rfl _ _ _) rfl ?_
 rw [HR.out, HQ.out]
 exact ⟨rfl, br, sq, v, (HS.out.fail rfl).1, (HS.out.fail rfl).2⟩
end Go.Proofs.YtpkeonafcldkhaaGreatDoor
