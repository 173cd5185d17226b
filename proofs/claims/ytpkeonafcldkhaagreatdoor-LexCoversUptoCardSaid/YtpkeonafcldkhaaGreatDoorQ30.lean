import Derived.Test.YtpkeonafcldkhaaGreatDoorQ20
import Derived.Test.YtpkeonafcldkhaaGreatDoorQ29
/- Part of the proof of YtpkeonafcldkhaaGreatDoorCardS CardV: RbK. -/
set_option linter.unusedVariables false
set_option linter.unusedSimpArgs false
namespace Go.Proofs.YtpkeonafcldkhaaGreatDoor
open Go.RowKit
theorem stepI_N (a : Nat) (c : UInt8) : stepI a c = (match stepN a c with | none => -1 | some b => (b : Int)) := by
 unfold stepI stepN
 repeat' split
 all_goals first | rfl | (simp_all; done) | (simp_all <;> omega)
theorem stepN_le {a : Nat} {c : UInt8} {b : Nat} (h : stepN a c = some b) : b ≤ 10 := by
 unfold stepN at h
 repeat' split at h
 all_goals first | (injection h with h; omega) | cases h
set_option maxRecDepth 100000 in
set_option maxHeartbeats 2000000 in
theorem r02_Prefix (s : ByteArray) (w : World) (hs : s.size ≤ 281474976710656) :
  Calls Tryz.prog 57 #[.string s] w fun e w' => e = .returned (.int .i64 (numPrefix s.data.toList : Nat)) ∧ w = w' := by
 go_enter Tryz.func57, Tryz.ntmps57
 go_wp2_with fail
 go_loop [3, 4, 5] (fun t3 t4 t5 => ∃ a n i : Nat, a ≤ 10 ∧ i ≤ s.size ∧ t3 = .int .i64 (a : Int) ∧ t4 = .int .i64 (n : Int) ∧ t5 = .int .i64 (i : Int) ∧ Hid (pf a n i (s.data.toList.drop i) = numPrefix s.data.toList)) (fun _ _ t5 => s.size - (intOf t5).toNat)
 case atStart => exact ⟨0, 0, 0, by omega, by omega, rfl, rfl, rfl, Lib.hid (pf_numPrefix _)⟩
 case round =>
  obtain ⟨a, n, i, ha, hi, rfl, rfl, rfl, hsp⟩ := hrel
  by_cases hlt : i < s.size
  ·have hat := Lib.hid (atB_lt hlt)
   have hN := Lib.hid (stepI_N a s[i])
   cases hst : stepN a s[i] with
   |none =>
    have hv : stepI a s[i] = -1 := by rw [hN.out, hst]
    have hst' := Lib.hid hst
    clear hst
    go_wp2_with (go_at_call 79; refine (r02_step a ha _ _).mono ?_; rintro e w' ⟨rfl, rfl⟩; rw [hv])
    go_ret
    exact ⟨ret_int (by rw [← hsp.out, pf_none (by rw [len_data]; exact hlt) (by rw [hat.out]; exact hst'.out)]), rfl⟩
   |some b =>
    have hv : stepI a s[i] = (b : Int) := by rw [hN.out, hst]
    have hb := stepN_le hst
    have hpf := Lib.hid (pf_some (l := s.data.toList) (i := i) (n := n) (by rw [len_data]; exact hlt) (by rw [hat.out]; exact hst))
    clear hst
    cases hw : wholeB b
    all_goals
     go_wp2_with (first | (go_at_call 79; refine (r02_step a ha _ _).mono ?_; rintro e w' ⟨rfl, rfl⟩; rw [hv]) | (go_at_call 80; refine (r02_whole _ _).mono ?_; rintro e w' ⟨rfl, rfl⟩; rw [hw]))
    ·exact ⟨⟨b, n, i + 1, hb, hlt, rfl, rfl, by go_num, Lib.hid (by have h := hpf.out; rw [hw, if_neg (by simp)] at h; rw [← h, hsp.out])⟩, meas_j hlt⟩
    ·exact ⟨⟨b, i + 1, i + 1, hb, hlt, rfl, by go_num, by go_num, Lib.hid (by have h := hpf.out; rw [hw, if_pos rfl] at h; rw [← h, hsp.out])⟩, meas_j hlt⟩
  ·have hend := Lib.hid (pf_end (l := s.data.toList) (a := a) (n := n) (i := i) (by rw [len_data]; omega))
   go_wp2_with fail
   go_ret
   exact ⟨ret_int (by rw [← hsp.out, hend.out]), rfl⟩
def okW (c d : UInt8) : Bool := c.toNat == d.toNat || c.toNat + 32 == d.toNat
set_option maxRecDepth 100000 in
set_option maxHeartbeats 2000000 in
theorem r02_word (s t : ByteArray) (w : World) (ht : t.size = 3) (hsm : ∀ (i : Nat) (h : i < t.size), 97 ≤ t[i].toNat) (V : Bool) (hV : V = true ↔ s.size = 3 ∧ ∀ (i : Nat) (h : i < s.size) (h2 : i < t.size), okW s[i] t[i] = true) :
  Calls Tryz.prog 59 #[.string s, .string t] w fun e w' => e = .returned (.bool V) ∧ ∃ d, w' = w.drewN d := by
 have HV := Lib.hid hV
 have HS := Lib.hid hsm
 clear hV hsm
 by_cases h3 : s.size = 3
 ·go_enter Tryz.func59, Tryz.ntmps59
  go_wp2_with fail
  go_loopw [5] (fun t5 wr => ∃ k n : Nat, k ≤ 3 ∧ wr = w.drewN n ∧ t5 = .int .i64 (k : Int) ∧ Hid (∀ (i : Nat) (h : i < s.size) (h2 : i < t.size), i < k → okW s[i] t[i] = true)) (fun t5 _ => 3 - (intOf t5).toNat)
  case atStart => exact ⟨0, 0, by omega, rfl, rfl, Lib.hid (fun _ _ _ h => by omega)⟩
  case round =>
   obtain ⟨k, n, hk, rfl, rfl, hal⟩ := hrel
   by_cases hlt : k < 3
   ·have hks : k < s.size := by omega
    have hkt : k < t.size := by omega
    have hge := HS.out k hkt
    have htl : t[k].toNat < 256 := UInt8.toNat_lt _
    obtain ⟨c, hc⟩ : ∃ c : Nat, c = s[k].toNat := ⟨_, rfl⟩
    obtain ⟨d, hd⟩ : ∃ d : Nat, d = t[k].toNat := ⟨_, rfl⟩
    have q1 : (t[k].toNat - 32 : Int) % 256 = (t[k].toNat - 32 : Int) := by omega
    cases ho : okW s[k] t[k]
    ·have ho' : ¬ s[k].toNat = t[k].toNat ∧ ¬ s[k].toNat + 32 = t[k].toNat := by simpa [okW] using ho
     have p1 : ((s[k].toNat : Int) != (t[k].toNat : Int)) = true := by simp; omega
     have p2 : ((s[k].toNat : Int) != ((t[k].toNat : Int) - 32)) = true := by simp; omega
     go_wp2_with fail
     go_quiet (fail)
     go_wp2_with fail
     go_ret
     exact ⟨ret_bool (by rw [eq_comm, ← Bool.not_eq_true]; exact fun h => by have h4 := (HV.out.1 h).2 k hks hkt; rw [ho] at h4; cases h4), _, World.drewN_drewN _ _ _⟩
    ·have ho' : s[k].toNat = t[k].toNat ∨ s[k].toNat + 32 = t[k].toNat := by simpa [okW] using ho
     by_cases he : s[k].toNat = t[k].toNat
     ·have p1 : ((s[k].toNat : Int) != (t[k].toNat : Int)) = false := by simp; omega
      go_wp2_with fail
      go_quiet (fail)
      go_wp2_with fail
      exact ⟨⟨k + 1, _, hlt, rfl, by go_num, Lib.hid (fun i h h2 hi => by
       rcases Nat.lt_or_ge i k with h4 | h4
       ·exact hal.out i h h2 h4
       ·have h5 : i = k := by omega
        subst h5
        exact ho)⟩, meas_j hlt⟩
     ·have p1 : ((s[k].toNat : Int) != (t[k].toNat : Int)) = true := by simp; omega
      have p2 : ((s[k].toNat : Int) != ((t[k].toNat : Int) - 32)) = false := by simp; omega
      go_wp2_with fail
      go_quiet (fail)
      go_wp2_with fail
      exact ⟨⟨k + 1, _, hlt, rfl, by go_num, Lib.hid (fun i h h2 hi => by
       rcases Nat.lt_or_ge i k with h4 | h4
       ·exact hal.out i h h2 h4
       ·have h5 : i = k := by omega
        subst h5
        exact ho)⟩, meas_j hlt⟩
   ·have h3' : k = 3 := by omega
    subst h3'
    go_wp2_with fail
    go_ret
    exact ⟨ret_bool (Eq.symm (HV.out.2 ⟨h3, fun i h h2 => hal.out i h h2 (by omega)⟩)), _, rfl⟩
 ·go_enter Tryz.func59, Tryz.ntmps59
  go_wp2_with fail
  go_ret
  exact ⟨ret_bool (by rw [eq_comm, ← Bool.not_eq_true]; exact fun h => h3 (HV.out.1 h).1), 0, rfl⟩
theorem or32 : ∀ c : UInt8, ∀ d : Fin 256, 97 ≤ d.val → d.val ≤ 122 → (okW c (UInt8.ofNat d.val) = true ↔ (c.toNat ||| 32) = d.val) := by
 intro c
 revert c
 exact all_bytes (by decide +kernel)
theorem word_is (s : ByteArray) (a b c : UInt8) (ha : 97 ≤ a.toNat ∧ a.toNat ≤ 122) (hb : 97 ≤ b.toNat ∧ b.toNat ≤ 122) (hc : 97 ≤ c.toNat ∧ c.toNat ≤ 122) :
  isWord3 s.data.toList a.toNat b.toNat c.toNat = true ↔ s.size = 3 ∧ ∀ (i : Nat) (h : i < s.size) (h2 : i < (ByteArray.mk #[a, b, c]).size), okW s[i] (ByteArray.mk #[a, b, c])[i] = true := by
 have key : ∀ x y : UInt8, 97 ≤ y.toNat → y.toNat ≤ 122 → (okW x y = true ↔ (x.toNat ||| 32) = y.toNat) := fun x y h1 h2 => by
  have := or32 x ⟨y.toNat, UInt8.toNat_lt y⟩ h1 h2
  simpa using this
 unfold isWord3
 rw [len_data]
 by_cases h3 : s.size = 3
 ·rw [atB_lt (by omega), atB_lt (by omega), atB_lt (by omega)]
  simp only [h3, beq_self_eq_true, Bool.true_and, Bool.and_eq_true, beq_iff_eq, true_and]
  constructor
  ·rintro ⟨⟨h4, h5⟩, h6⟩ i h h2
   have hi : i = 0 ∨ i = 1 ∨ i = 2 := by omega
   rcases hi with rfl | rfl | rfl
   ·exact (key _ a ha.1 ha.2).2 h4
   ·exact (key _ b hb.1 hb.2).2 h5
   ·exact (key _ c hc.1 hc.2).2 h6
  ·intro h
   exact ⟨⟨(key _ a ha.1 ha.2).1 (h 0 (by omega) (by show 0 < 3; decide)), (key _ b hb.1 hb.2).1 (h 1 (by omega) (by show 1 < 3; decide))⟩, (key _ c hc.1 hc.2).1 (h 2 (by omega) (by show 2 < 3; decide))⟩
 ·have : (s.size == 3) = false := by simpa using h3
  rw [this]
  simp [h3]
end Go.Proofs.YtpkeonafcldkhaaGreatDoor
