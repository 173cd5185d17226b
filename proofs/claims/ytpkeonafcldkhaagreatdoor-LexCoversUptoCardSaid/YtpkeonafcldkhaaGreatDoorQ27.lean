import Derived.Test.YtpkeonafcldkhaaGreatDoorQ22
import Derived.Laws.Bits64b
import Derived.Test.YtpkeonafcldkhaaGreatDoorQ17
/- Part of the proof of YtpkeonafcldkhaaGreatDoorCardS CardV: OvC OvD OvE OvF OvG RbJ. -/
set_option linter.unusedVariables false
set_option linter.unusedSimpArgs false
namespace Go.Proofs.YtpkeonafcldkhaaGreatDoor
open Go.RowKit
theorem absB_id {n : Nat} (h : n < 9223372036854775808) : absB n = n := by
 unfold absB
 rw [Nat.mod_eq_of_lt (by omega), show (9223372036854775807 : Nat) = 2 ^ 63 - 1 by decide, Nat.and_two_pow_sub_one_eq_mod, Nat.mod_eq_of_lt (by omega)]
theorem isInfB_fin {n : Nat} (h : n < infW) : isInfB n = false := by
 have h0 : n < 9218868437227405312 := h
 unfold isInfB
 rw [absB_id (by omega)]
 have hmax : Ieee.double.read 9218868437227405311 = .number false 9007199254740991 971 := by decide +kernel
 have hs : Ieee.double.signWeight = 9223372036854775808 := by decide +kernel
 have hi : Ieee.double.infRung = 9218868437227405312 := by decide +kernel
 have hb : Ieee.double.binade = 4503599627370496 := by decide +kernel
 have hp : Ieee.double.leastPlace = -1074 := by decide +kernel
 have hr : ∃ m e, Ieee.double.read n = .number false m e ∧ m ≤ 9007199254740991 ∧ e ≤ 971 := by
  have e1 : n / 9223372036854775808 = 0 := Nat.div_eq_of_lt (by omega)
  have e2 : n % 9223372036854775808 = n := Nat.mod_eq_of_lt (by omega)
  unfold Ieee.Format.read
  rw [hs, hi, hb, hp, e1, e2]
  simp only [Nat.zero_mod]
  split
  ·exact ⟨_, _, rfl, by omega, by omega⟩
  ·exact ⟨_, _, rfl, by omega, by omega⟩
 obtain ⟨m, e, hre, hm, he⟩ := hr
 show ((Ieee.double.read n).order (Ieee.double.read 9218868437227405311) == some .gt) = false
 rw [hre, hmax]
 simp only [Ieee.Datum.order]
 rw [Int.min_eq_left he]
 have hle : Ieee.signed false m (e - e).toNat ≤ Ieee.signed false 9007199254740991 (971 - e).toNat := by
  unfold Ieee.signed
  simp only [Bool.false_eq_true, if_false]
  rw [show (e - e).toNat = 0 by omega, Nat.shiftLeft_zero, Nat.shiftLeft_eq]
  have : 9007199254740991 * 1 ≤ 9007199254740991 * 2 ^ (971 - e).toNat := Nat.mul_le_mul_left _ (Nat.pow_pos (by omega))
  omega
 generalize Ieee.signed false m (e - e).toNat = A at hle ⊢
 generalize Ieee.signed false 9007199254740991 (971 - e).toNat = B at hle ⊢
 have hc : compare A B ≠ .gt := by
  intro hc
  have := Int.compare_eq_gt.1 hc
  omega
 cases hcc : compare A B
 ·rfl
 ·rfl
 ·exact absurd hcc hc
theorem isInfB_inf : isInfB infW = true := by decide +kernel
theorem and2047 : ∀ s : Fin 2048, bits .and .i64 (s.val : Int) 2047 = (s.val : Int) := by decide +kernel
theorem fbBits_fin {m : Nat} {x : Int} (hm : m < 18446744073709551616) (h0 : 0 ≤ x) (h1 : x ≤ 2046) : isInfB (fbBits (m : Int) x).toNat = false := by
 obtain ⟨y, rfl⟩ : ∃ y : Nat, x = (y : Int) := ⟨x.toNat, by omega⟩
 have e1 := and2047 ⟨y, by omega⟩
 simp only at e1
 have e2 : IntKind.u64.wrap (IntKind.u64.wrap (y : Int) * 4503599627370496) = ((y * 4503599627370496 : Nat) : Int) := by
  rw [IntKind.wrap_u64, IntKind.wrap_u64]
  omega
 have e3 := bits_and_u64_nat m 4503599627370495 hm (by omega)
 have e4 : m &&& 4503599627370495 = m % 4503599627370496 := by
  rw [show (4503599627370495 : Nat) = 2 ^ 52 - 1 by decide, Nat.and_two_pow_sub_one_eq_mod]
 have hlt : m % 4503599627370496 < 4503599627370496 := Nat.mod_lt _ (by omega)
 have e5 := bits_or_u64_nat (m % 4503599627370496) (y * 4503599627370496) (by omega) (by omega)
 have e6 : m % 4503599627370496 ||| y * 4503599627370496 = y * 4503599627370496 + m % 4503599627370496 := by
  have := Nat.two_pow_add_eq_or_of_lt (i := 52) (b := m % 4503599627370496) hlt y
  rw [Nat.or_comm, Nat.mul_comm y]
  exact this.symm
 have hf : fbBits (m : Int) (y : Int) = ((y * 4503599627370496 + m % 4503599627370496 : Nat) : Int) := by
  unfold fbBits
  rw [e1, e2]
  have e3' : bits .and .u64 (m : Int) 4503599627370495 = ((m % 4503599627370496 : Nat) : Int) := by rw [← e4]; exact e3
  rw [e3', e5, e6]
 rw [hf, Int.toNat_natCast]
 apply isInfB_fin
 show _ < 9218868437227405312
 omega
theorem fbOvf_inf : isInfB fbOvf.1.toNat = true := by decide +kernel
theorem ovRiV_lt (S : Dec) : riV S < 18446744073709551616 := by
 unfold riV riPre
 split
 ·omega
 ·split
  ·omega
  ·omega
theorem fbFin4_spec {m : Nat} {e : Int} (hm : m < 18446744073709551616) (h0 : -1022 ≤ e) (h1 : e ≤ 1023) : (fbFin4 m e).2 = false ∧ isInfB (fbFin4 m e).1.toNat = false := by
 unfold fbFin4
 split
 ·exact ⟨rfl, fbBits_fin hm (by omega) (by omega)⟩
 ·exact ⟨rfl, fbBits_fin hm (by omega) (by omega)⟩
theorem fbFin2_spec {S : Dec} {e : Int} (h0 : -1022 ≤ e) : isInfB (fbFin2 S e).1.toNat = (fbFin2 S e).2 ∧ ((fbFin2 S e).2 = true ↔ 1024 ≤ e ∨ (e = 1023 ∧ riV (S.ls 53) = 9007199254740992)) := by
 unfold fbFin2
 by_cases h1 : 2047 ≤ e + 1023
 ·rw [if_pos h1]
  exact ⟨fbOvf_inf, ⟨fun _ => .inl (by omega), fun _ => rfl⟩⟩
 ·rw [if_neg h1]
  unfold fbFin3
  by_cases h2 : riV (S.ls 53) = 9007199254740992
  ·rw [if_pos h2]
   by_cases h3 : 2047 ≤ e + 1 + 1023
   ·rw [if_pos h3]
    exact ⟨fbOvf_inf, ⟨fun _ => .inr ⟨by omega, h2⟩, fun _ => rfl⟩⟩
   ·rw [if_neg h3]
    obtain ⟨a, b⟩ := fbFin4_spec (m := 4503599627370496) (e := e + 1) (by omega) (by omega) (by omega)
    rw [a, b]
    refine ⟨rfl, ⟨fun h => by simp at h, fun h => ?_⟩⟩
    omega
  ·rw [if_neg h2]
   obtain ⟨a, b⟩ := fbFin4_spec (m := riV (S.ls 53)) (e := e) (ovRiV_lt _) (by omega) (by omega)
   rw [a, b]
   refine ⟨rfl, ⟨fun h => by simp at h, fun h => ?_⟩⟩
   rcases h with h | h
   ·omega
   ·exact absurd h.2 h2
theorem fbFin_spec {S : Dec} {e : Int} : isInfB (fbFin S e).1.toNat = (fbFin S e).2 ∧ ((fbFin S e).2 = true ↔ 1024 ≤ e ∨ (e = 1023 ∧ riV (S.ls 53) = 9007199254740992)) := by
 unfold fbFin
 by_cases h : e < -1022
 ·rw [if_pos h]
  obtain ⟨a, b⟩ := fbFin2_spec (S := Dec.shR (-1022 - e).toNat S) (e := -1022) (by omega)
  refine ⟨a, ?_⟩
  rw [b]
  constructor
  ·rintro (h | h) <;> omega
  ·rintro (h | h) <;> omega
 ·rw [if_neg h]
  exact fbFin2_spec (by omega)
theorem fb2_exp : ∀ (f : Nat) (S : Dec) (e : Int), (fb2 f S e).2 ≤ e
 | 0, S, e => by simp [fb2]
 |f + 1, S, e => by
  by_cases hl : less2 S
  ·rw [fb2_step hl]
   have := fb2_exp f (S.ls (powT (-S.dp).toNat)) (e - powT (-S.dp).toNat)
   omega
  ·rw [fb2_end hl]; exact Int.le_refl _
theorem ov_tail {vn v1 v J K : Nat} {R : Prop} (a b c p g x e : Nat) (hb : b = a + 1) (hb2 : b = 54 + c) (hc : c = p + g) (hg : 3 ≤ g) (he : e = 54 + x)
  (hlo : 10 ^ b ≤ 2 * vn) (hhi : vn < 10 ^ b) (hS1 : 10 ^ a ≤ v1) (j5 : vn = v1 * 2 ^ J) (k4 : ∀ X, 10 ^ p ∣ X → (X ≤ v1 ↔ X * 2 ^ K ≤ v)) (htop : R ↔ (2 ^ 54 - 1) * 5 ^ 54 * 10 ^ c ≤ vn) :
  (K < J + e → ¬ (2 ^ 54 - 1) * 2 ^ x * 10 ^ b ≤ v) ∧ (K = J + e → (R ↔ (2 ^ 54 - 1) * 2 ^ x * 10 ^ b ≤ v)) ∧ (J + e < K → (2 ^ 54 - 1) * 2 ^ x * 10 ^ b ≤ v) := by
 have hJ : J < 4 := by
  rcases Nat.lt_or_ge J 4 with h | h
  ·exact h
  ·exfalso
   have h16 : 2 ^ 4 ≤ 2 ^ J := Nat.pow_le_pow_right (by omega) h
   have h1 := pw_mul hS1 h16
   rw [← j5] at h1
   rw [pw_s a b hb] at hhi
   generalize 10 ^ a = P at h1 hhi
   omega
 have hP : 0 < 2 ^ J := Nat.pow_pos (by omega)
 have key : ∀ t, t * 10 ^ c ≤ vn ↔ t * 10 ^ c * 2 ^ K ≤ v * 2 ^ J := fun t => by
  obtain ⟨d, hd⟩ := pw_dvd J t p g c hc (by omega)
  have hT : t * 10 ^ c = 10 ^ p * d * 2 ^ J := by rw [hd]; simp only [Nat.mul_assoc, Nat.mul_comm, Nat.mul_left_comm]
  have k5 := k4 (10 ^ p * d) (Nat.dvd_mul_right _ _)
  rw [hT, j5]
  generalize 10 ^ p * d = X at k5
  rw [Nat.mul_le_mul_right_iff hP, k5, Nat.mul_right_comm X, Nat.mul_le_mul_right_iff hP]
 have e10 := pw_add2 54 c b hb2
 have A : 5 * 10 ^ 53 * 10 ^ c * 2 ^ K ≤ v * 2 ^ J := by
  rw [← key]
  have : 5 * 10 ^ 53 * 10 ^ c * 2 = (10 : Nat) ^ b := by
   rw [e10, show (10 : Nat) ^ 54 = 10 ^ 53 * 10 by rw [← Nat.pow_succ]]
   generalize (10 : Nat) ^ 53 = u
   generalize (10 : Nat) ^ c = z
   rw [show u * 10 * z = 5 * u * 2 * z by rw [show 5 * u * 2 = u * 10 by omega]]
   rw [Nat.mul_right_comm]
  omega
 have B : v * 2 ^ J < 10 ^ 54 * 10 ^ c * 2 ^ K := by
  rcases Nat.lt_or_ge (v * 2 ^ J) (10 ^ 54 * 10 ^ c * 2 ^ K) with h | h
  ·exact h
  ·have := (key (10 ^ 54)).2 h
   rw [← e10] at this
   omega
 have C := key ((2 ^ 54 - 1) * 5 ^ 54)
 rw [← htop] at C
 rw [e10]
 have e54 : (2 : Nat) ^ e = 2 ^ 54 * 2 ^ x := by rw [he, Nat.pow_add]
 have e10' : (10 : Nat) ^ 54 = 5 ^ 54 * 2 ^ 54 := by rw [← Nat.mul_pow]
 refine ⟨fun hK hh => ?_, fun hK => ?_, fun hK => ?_⟩
 ·have h1 : (10 : Nat) ^ 54 * 10 ^ c * 2 ^ K ≤ 10 ^ 54 * 10 ^ c * 2 ^ (J + 53 + x) := Nat.mul_le_mul_left _ (Nat.pow_le_pow_right (by omega) (by omega))
  have h2 : (2 : Nat) ^ (J + 53 + x) = 2 ^ 53 * 2 ^ x * 2 ^ J := by rw [← Nat.pow_add, ← Nat.pow_add, show 53 + x + J = J + 53 + x by omega]
  have h3 : (2 ^ 54 - 1) * 2 ^ x * (10 ^ 54 * 10 ^ c) * 2 ^ J ≤ v * 2 ^ J := Nat.mul_le_mul_right _ hh
  rw [h2] at h1
  generalize (10 : Nat) ^ 54 * 10 ^ c = u at B h1 h3
  generalize (2 : Nat) ^ J = j at B h1 h3
  generalize (2 : Nat) ^ x = y at h1 h3
  have h4 : (2 ^ 54 - 1) * y * u * j < u * (2 ^ 53 * y * j) := by omega
  have h5 : u * (2 ^ 53 * y * j) ≤ (2 ^ 54 - 1) * y * u * j := by
   have e1 : u * (2 ^ 53 * y * j) = 2 ^ 53 * (y * u * j) := by simp only [Nat.mul_assoc, Nat.mul_comm, Nat.mul_left_comm]
   have e2 : (2 ^ 54 - 1) * y * u * j = (2 ^ 54 - 1) * (y * u * j) := by simp only [Nat.mul_assoc]
   rw [e1, e2]
   exact Nat.mul_le_mul_right _ (by decide)
  omega
 ·have h1 : (2 ^ 54 - 1) * 5 ^ 54 * 10 ^ c * 2 ^ K = (2 ^ 54 - 1) * 2 ^ x * (10 ^ 54 * 10 ^ c) * 2 ^ J := by
   rw [hK, Nat.add_comm J e, Nat.pow_add, e54, e10']
   simp only [Nat.mul_assoc, Nat.mul_comm, Nat.mul_left_comm]
  rw [C, h1, Nat.mul_le_mul_right_iff hP]
 ·have h1 : 5 * 10 ^ 53 * 10 ^ c * 2 ^ (J + e + 1) ≤ v * 2 ^ J := Nat.le_trans (Nat.mul_le_mul_left _ (Nat.pow_le_pow_right (by omega) (by omega))) A
  have h2 : (2 : Nat) ^ (J + e + 1) = 2 * (2 ^ 54 * 2 ^ x) * 2 ^ J := by rw [← e54, ← Nat.pow_succ', ← Nat.pow_add, show e + 1 + J = J + e + 1 by omega]
  rw [h2, ← Nat.mul_assoc, Nat.mul_le_mul_right_iff hP] at h1
  refine Nat.le_trans ?_ h1
  rw [show (10 : Nat) ^ 54 = 10 ^ 53 * 10 by rw [← Nat.pow_succ]]
  generalize (10 : Nat) ^ 53 = u
  generalize (10 : Nat) ^ c = z
  generalize (2 : Nat) ^ x = y
  have e1 : 5 * u * z * (2 * (2 ^ 54 * y)) = 2 ^ 54 * (y * (u * 10 * z)) := by
   rw [show u * 10 = 5 * u * 2 by omega]
   simp only [Nat.mul_assoc, Nat.mul_comm, Nat.mul_left_comm]
  rw [e1, Nat.mul_assoc]
  exact Nat.mul_le_mul_right _ (by decide)
theorem fbV_over {S : Dec} (ok : S.Ok) : isInfB (fbV S).1.toNat = (fbV S).2 ∧ ((fbV S).2 = true ↔ 310 < S.dp ∨ (0 ≤ S.dp ∧ S.dp ≤ 310 ∧ (2 ^ 54 - 1) * 2 ^ 970 * 10 ^ 800 ≤ vF S)) := by
 have hn : ¬ S.nd = 0 := by have := ok.pos; omega
 unfold fbV
 rw [if_neg hn]
 by_cases h1 : 310 < S.dp
 ·rw [if_pos h1]
  exact ⟨fbOvf_inf, ⟨fun _ => .inl h1, fun _ => rfl⟩⟩
 ·rw [if_neg h1]
  by_cases h2 : S.dp < -330
  ·rw [if_pos h2]
   have := fbBits_fin (m := 0) (x := 0) (by omega) (by omega) (by omega)
   refine ⟨this, ?_⟩
   simp only [Bool.false_eq_true, false_iff]
   omega
  ·rw [if_neg h2]
   obtain ⟨a, b⟩ := fbFin_spec (S := (fb2 34000 (fb1 1000 S 0).1 (fb1 1000 S 0).2).1) (e := (fb2 34000 (fb1 1000 S 0).1 (fb1 1000 S 0).2).2 - 1)
   refine ⟨a, ?_⟩
   rw [b]
   by_cases h3 : S.dp < 0
   ·rw [fb1_end (by omega)]
    have := fb2_exp 34000 S 0
    simp only
    constructor
    ·rintro (h | h) <;> omega
    ·rintro (h | h) <;> omega
   ·have hD := ok.dig.1 0 ok.pos
    obtain ⟨K, k1, k2, k3, k4⟩ := fb1_spec 1000 S 0 ok (by omega) (by omega) (by unfold mu1; split <;> omega)
    have hm2 : mu2 (fb1 1000 S 0).1 ≤ 34000 := by unfold mu2; rw [if_neg (by omega)]; omega
    obtain ⟨J, j1, j2, j3, j4, j5⟩ := fb2_spec0 34000 (fb1 1000 S 0).1 (fb1 1000 S 0).2 k2 k3 hm2
    have htop := riV_top j2 j3 j4
    have hE : (fb2 34000 (fb1 1000 S 0).1 (fb1 1000 S 0).2).2 - 1 = (K : Int) - J - 1 := by rw [j1, k1]; omega
    rw [hE]
    generalize (fb2 34000 (fb1 1000 S 0).1 (fb1 1000 S 0).2).1 = Sn at j2 j3 j4 j5 htop ⊢
    generalize (fb1 1000 S 0).1 = S1 at k2 k3 k4 j5
    have hl := lead_le j2
    have hnd := j2.pos
    have hle := j2.le
    have hAA : 10 ^ Sn.nd = 10 * 10 ^ (Sn.nd - 1) := by rw [← Nat.pow_succ']; congr 1; omega
    have e8 : (10 : Nat) ^ Sn.nd * 10 ^ (800 - Sn.nd) = 10 ^ 800 := by rw [← Nat.pow_add]; congr 1; omega
    have hvn : vF Sn = pre Sn.D Sn.nd Sn.nd * 10 ^ (800 - Sn.nd) := by rw [vF, j3]; simp
    have hD9 := j2.dig.1 0 hnd
    have hlo : 10 ^ 800 ≤ 2 * vF Sn := by
     rw [← e8, hvn, ← Nat.mul_assoc]
     apply Nat.mul_le_mul_right
     have : 5 * 10 ^ (Sn.nd - 1) ≤ (Sn.D 0 - 48) * 10 ^ (Sn.nd - 1) := Nat.mul_le_mul_right _ (by omega)
     omega
    have hhi : vF Sn < 10 ^ 800 := by
     rw [← e8, hvn]
     exact Nat.mul_lt_mul_of_pos_right (pre_lt j2.dig Sn.nd) (Nat.pow_pos (by omega))
    have hS1 : 10 ^ 799 ≤ vF S1 := by
     have hl1 := pre_pos k2.dig k2.pos (S1.nd - 1)
     have hp1 := k2.pos
     have hle1 := k2.le
     rw [Nat.sub_add_cancel hp1] at hl1
     have e9 : (10 : Nat) ^ (S1.nd - 1) * 10 ^ (800 - S1.nd) = 10 ^ 799 := by rw [← Nat.pow_add]; congr 1; omega
     rw [vF, k3, ← e9, show 800 + (0 : Int).toNat - S1.nd = 800 - S1.nd by simp]
     exact Nat.mul_le_mul_right _ hl1
    obtain ⟨t1, t2, t3⟩ := ov_tail (R := riV (Sn.ls 53) = 9007199254740992) 799 800 746 310 436 970 1024 rfl rfl rfl (by omega) rfl hlo hhi hS1 j5 k4 htop
    rcases Nat.lt_trichotomy K (J + 1024) with hK | hK | hK
    ·have hnot := t1 hK
     constructor
     ·rintro (h | h) <;> omega
     ·rintro (h | ⟨_, _, h⟩)
      ·omega
      ·exact absurd h hnot
    ·rw [← t2 hK]
     constructor
     ·rintro (h | h)
      ·omega
      ·exact .inr ⟨by omega, by omega, h.2⟩
     ·rintro (h | ⟨_, _, h⟩)
      ·omega
      ·exact .inr ⟨by omega, h⟩
    ·have hyes := t3 hK
     constructor
     ·rintro _
      exact .inr ⟨by omega, by omega, hyes⟩
     ·rintro _
      exact .inl (by omega)
def usX : Nat := 36028797018963966
theorem or_one_le (a : Nat) : a ||| 1 ≤ a + 1 := by
 have h : a ||| 1 = a / 2 * 2 + 1 := by
  have h2 : a / 2 * 2 + 1 = 2 ^ 1 * (a / 2) + 1 := by omega
  rw [h2, Nat.two_pow_add_eq_or_of_lt (by omega)]
  apply Nat.eq_of_testBit_eq
  intro i
  rw [Nat.testBit_or, Nat.testBit_or]
  cases i with
  |zero => simp
  |succ i =>
   have e1 : (2 ^ 1 * (a / 2)).testBit (i + 1) = a.testBit (i + 1) := by
    rw [Nat.testBit_two_pow_mul]
    simp [Nat.testBit_succ]
   rw [e1]
 omega
theorem or_one_ge (a : Nat) : a ≤ a ||| 1 := Nat.left_le_or
theorem or_one_odd (a : Nat) : (a ||| 1) % 2 = 1 := by
 simp
theorem or_bit_le (a : Nat) {c : Nat} (h : c ≤ 1) : a ≤ a ||| c ∧ a ||| c ≤ a ||| 1 := by
 have : c = 0 ∨ c = 1 := by omega
 rcases this with rfl | rfl
 ·rw [Nat.or_zero]; exact ⟨Nat.le_refl _, or_one_ge a⟩
 ·exact ⟨or_one_ge a, Nat.le_refl _⟩
theorem us_bounds (x hi lo s : Nat) : (x * hi / 18446744073709551616 - 1) / 2 ^ s ≤ uscaleN x hi lo s ∧ uscaleN x hi lo s ≤ (x * hi / 18446744073709551616 / 2 ^ s) ||| 1 := by
 unfold uscaleN
 obtain ⟨y, hy⟩ : ∃ y, y = x * hi / 18446744073709551616 := ⟨_, rfl⟩
 rw [← hy]
 split
 ·exact ⟨Nat.le_trans (Nat.div_le_div_right (Nat.sub_le _ _)) (or_one_ge _), Nat.le_refl _⟩
 ·obtain ⟨b, hb, hb1⟩ : ∃ b, b = (if x * hi % 18446744073709551616 < x * lo / 18446744073709551616 then 1 else 0) ∧ b ≤ 1 := ⟨_, rfl, by split <;> omega⟩
  obtain ⟨c, hc, hc1⟩ : ∃ c, c = (if 1 < (x * hi % 18446744073709551616 + 18446744073709551616 - x * lo / 18446744073709551616) % 18446744073709551616 then 1 else 0) ∧ c ≤ 1 := ⟨_, rfl, by split <;> omega⟩
  rw [← hb, ← hc]
  obtain ⟨h1, h2⟩ := or_bit_le ((y - b) / 2 ^ s) hc1
  refine ⟨Nat.le_trans (Nat.div_le_div_right (by omega)) h1, Nat.le_trans h2 ?_⟩
  have h3 : (y - b) / 2 ^ s ≤ y / 2 ^ s := Nat.div_le_div_right (Nat.sub_le _ _)
  have h4 := or_one_odd ((y - b) / 2 ^ s)
  have h5 := or_one_odd (y / 2 ^ s)
  have h6 := or_one_le ((y - b) / 2 ^ s)
  have h7 := or_one_ge (y / 2 ^ s)
  omega
theorem us_ge {x hi lo : Nat} (h : 256 * usX + 1 ≤ x * hi / 18446744073709551616) : usX ≤ uscaleN x hi lo 8 := by
 unfold uscaleN
 have e : (2 : Nat) ^ 8 = 256 := by decide
 rw [e]
 obtain ⟨y, hy⟩ : ∃ y, y = x * hi / 18446744073709551616 := ⟨_, rfl⟩
 rw [← hy] at h ⊢
 unfold usX at *
 split
 ·exact Nat.le_trans (by omega) (or_one_ge _)
 ·rename_i hm
  refine Nat.le_trans ?_ Nat.left_le_or
  split <;> omega
theorem us_lt {x hi lo : Nat} (h : x * hi / 18446744073709551616 < 256 * usX) : uscaleN x hi lo 8 < usX := by
 have hb := (us_bounds x hi lo 8).2
 have e : (2 : Nat) ^ 8 = 256 := by decide
 rw [e] at hb
 have h1 := or_one_odd (x * hi / 18446744073709551616 / 256)
 have h2 := or_one_le (x * hi / 18446744073709551616 / 256)
 unfold usX at *
 generalize x * hi / 18446744073709551616 = y at *
 omega
def ovN : Nat := (2 ^ 54 - 1) * 2 ^ 970
def ovT (p : Nat) : Nat := (ovN + 10 ^ p - 1) / 10 ^ p
theorem ovT_iff (p d : Nat) : ovN ≤ d * 10 ^ p ↔ ovT p ≤ d := by
 have hP : 0 < 10 ^ p := Nat.pow_pos (by omega)
 unfold ovT
 generalize 10 ^ p = P at hP ⊢
 generalize ovN = N
 rw [Nat.div_le_iff_le_mul_add_pred hP, Nat.mul_comm P d]
 omega
def ovChk (p : Nat) : Bool :=
  let L := 1024 - (p * 108853 / 32768)
  let T := ovT p
  decide (p * 108853 / 32768 ≤ 1023) && decide (1 ≤ L) && decide (L ≤ 61) && decide (2 ^ (L - 1) ≤ T) && decide (T ≤ 2 ^ L) &&
  decide ((T - 1) * 2 ^ (64 - L) * powHi p / 18446744073709551616 < 256 * usX) &&
  (if p = 290 then decide (usX ≤ uscaleN (T * 2 ^ (64 - L)) (powHi p) (powLo p) 8) && decide (256 * usX + 1 ≤ (T + 1) * 2 ^ (64 - L) * powHi p / 18446744073709551616)
   else decide (256 * usX + 1 ≤ T * 2 ^ (64 - L) * powHi p / 18446744073709551616))
theorem ovChk_all : ((List.range 19).all fun i => ovChk (290 + i)) = true := by kernel_rfl
def ovHi : Bool := Pinned.pow10Rows.all fun r => decide (9223372036854775808 ≤ r.1) && decide (r.1 ≤ 18446744073709551616 - 18014398509481984)
theorem ovHi_all : ovHi = true := by kernel_rfl
theorem ovLen : Pinned.pow10Rows.length = 696 := by kernel_rfl
theorem powHi_bounds {p : Int} (h0 : -348 ≤ p) (h1 : p ≤ 347) : 9223372036854775808 ≤ powHi p ∧ powHi p ≤ 18446744073709551616 - 18014398509481984 := by
 have hl := ovLen
 have hi : (p + 348).toNat < Pinned.pow10Rows.length := by omega
 unfold powHi
 rw [List.getD_eq_getElem?_getD, List.getElem?_eq_getElem hi, Option.getD_some]
 have := List.all_eq_true.1 ovHi_all _ (List.getElem_mem hi)
 simp only [Bool.and_eq_true, decide_eq_true_eq] at this
 exact this
theorem ov289 : 10000000000000000000 * powHi ((289 : Nat) : Int) / 18446744073709551616 < 256 * usX := by decide +kernel
theorem ov289T : 10000000000000000000 < ovT 289 := by decide +kernel
theorem ov309 : ovT 309 ≤ 1 ∧ ovT 310 ≤ 1 := by decide +kernel
theorem ov288 : 10000000000000000000 * 10 ^ 288 < ovN := by decide +kernel
theorem bit52 {m : Nat} (h0 : 4503599627370496 ≤ m) (h1 : m < 9007199254740992) : m &&& 4503599627370496 ≠ 0 := by
 intro h
 have h2 : (m &&& 2 ^ 52).testBit 52 = false := by
  rw [show (2 : Nat) ^ 52 = 4503599627370496 by decide, h]; simp
 rw [Nat.testBit_and, Nat.testBit_two_pow_self, Bool.and_true] at h2
 have h3 : m.testBit 52 = true := by
  rw [Nat.testBit_eq_decide_div_mod_eq, decide_eq_true_iff]
  rw [show (2 : Nat) ^ 52 = 4503599627370496 by decide]
  omega
 rw [h3] at h2
 cases h2
theorem packB_fin {m : Nat} {e : Int} (hm : m < 9007199254740992) (h0 : -1074 ≤ e) (h1 : e ≤ 971) : packB m e < infW := by
 unfold packB
 split
 ·show m < 9218868437227405312; omega
 ·rw [if_neg (by omega)]
  have hc : m &&& 18442240474082181119 = m % 4503599627370496 := by
   have e1 : m = m &&& (2 ^ 53 - 1) := by rw [Nat.and_two_pow_sub_one_eq_mod]; exact (Nat.mod_eq_of_lt (by simpa using hm)).symm
   conv => lhs; rw [e1]
   rw [Nat.and_assoc, show (2 ^ 53 - 1 : Nat) &&& 18442240474082181119 = 2 ^ 52 - 1 by decide, Nat.and_two_pow_sub_one_eq_mod]
  obtain ⟨k, hk⟩ : ∃ k : Nat, k = (1075 + e).toNat := ⟨_, rfl⟩
  have hk2 : k ≤ 2046 := by omega
  rw [hc, ← hk, Nat.mod_eq_of_lt (show k * 4503599627370496 < 18446744073709551616 by omega)]
  have hlt : m % 4503599627370496 < 4503599627370496 := Nat.mod_lt _ (by omega)
  have e6 : m % 4503599627370496 ||| k * 4503599627370496 = k * 4503599627370496 + m % 4503599627370496 := by
   have := Nat.two_pow_add_eq_or_of_lt (i := 52) (b := m % 4503599627370496) hlt k
   rw [Nat.or_comm, Nat.mul_comm k]
   exact this.symm
  rw [e6]
  show _ < 9218868437227405312
  omega
theorem pfM_bounds {u : Nat} (h1 : u < 72057594037927936 - 1024) : pfM u < 9007199254740992 ∧ (18014398509481983 ≤ u → 4503599627370496 ≤ pfM u) := by
 unfold pfM roundU
 have ha : u &&& 1 ≤ 1 := by rw [Nat.and_one_is_mod]; omega
 obtain ⟨b1, b2⟩ := or_bit_le (u / 2 ^ pfT u) ha
 have b3 := or_one_le (u / 2 ^ pfT u)
 have b4 := or_one_odd (u / 2 ^ pfT u)
 obtain ⟨v, hv⟩ : ∃ v, v = u / 2 ^ pfT u ||| (u &&& 1) := ⟨_, rfl⟩
 rw [← hv] at b1 b2 ⊢
 have hc : v / 4 &&& 1 ≤ 1 := by rw [Nat.and_one_is_mod]; omega
 obtain ⟨c, hcc⟩ : ∃ c, c = v / 4 &&& 1 := ⟨_, rfl⟩
 rw [← hcc] at hc ⊢
 by_cases ht : 36028797018963966 ≤ u
 ·have e : pfT u = 1 := if_pos ht
  rw [e, Nat.pow_one] at b1 b2 b3 b4
  omega
 ·have e : pfT u = 0 := if_neg ht
  rw [e, Nat.pow_zero, Nat.div_one] at b1 b2 b3 b4
  omega
theorem log2_bounds {d : Nat} (h : 0 < d) : 2 ^ d.log2 ≤ d ∧ d < 2 ^ (d.log2 + 1) := ⟨Nat.log2_self_le (by omega), Nat.lt_log2_self⟩
theorem pf64_over {d : Nat} {p : Int} (hd : 0 < d) (hd2 : d ≤ 10000000000000000000) (h0 : -345 ≤ p) (h1 : p ≤ 310) : isInfB (pf64 d p) = true ↔ 0 ≤ p ∧ ovT p.toNat ≤ d := by
 obtain ⟨l1, l2⟩ := log2_bounds hd
 obtain ⟨g, hg⟩ : ∃ g, g = d.log2 := ⟨_, rfl⟩
 rw [← hg] at l1 l2
 have hg63 : g ≤ 63 := by
  rcases Nat.lt_or_ge 63 g with h | h
  ·have : 2 ^ 64 ≤ 2 ^ g := Nat.pow_le_pow_right (by omega) h
   omega
  ·exact h
 obtain ⟨q1, q2⟩ := powHi_bounds (p := p) (by omega) (by omega)
 obtain ⟨x, hx⟩ : ∃ x, x = d * 2 ^ (63 - g) := ⟨_, rfl⟩
 have hx1 : 9223372036854775808 ≤ x := by
  have : 2 ^ g * 2 ^ (63 - g) ≤ d * 2 ^ (63 - g) := Nat.mul_le_mul_right _ l1
  rw [← Nat.pow_add, show g + (63 - g) = 63 by omega] at this
  rw [hx]; simpa using this
 have hx2 : x < 18446744073709551616 := by
  have : d * 2 ^ (63 - g) < 2 ^ (g + 1) * 2 ^ (63 - g) := Nat.mul_lt_mul_of_pos_right l2 (Nat.pow_pos (by omega))
  rw [← Nat.pow_add, show g + 1 + (63 - g) = 64 by omega] at this
  rw [hx]; simpa using this
 obtain ⟨A, hA⟩ : ∃ A : Int, A = ((g + 1 : Nat) : Int) + log2P p := ⟨_, rfl⟩
 have hE : pfE d p = min 1074 (53 - A) := by rw [pfE, ← hg, hA]; congr 1; omega
 have hS : pfS d p = 61 - (pfE d p + A) := by rw [pfS, ← hg, hA]; omega
 obtain ⟨y, hy⟩ : ∃ y, y = x * powHi p / 18446744073709551616 := ⟨_, rfl⟩
 have hy2 : y < 18446744073709551616 - 18014398509481984 := by
  have : x * powHi p < 18446744073709551616 * powHi p := Nat.mul_lt_mul_of_pos_right hx2 (by omega)
  omega
 have hy1 : 4611686018427387904 ≤ y := by
  have : 9223372036854775808 * 9223372036854775808 ≤ x * powHi p := Nat.mul_le_mul hx1 q1
  omega
 have hU : pfU d p = uscaleN x (powHi p) (powLo p) (pfS d p).toNat := by rw [pfU, ← hg, ← hx]
 obtain ⟨u1, u2⟩ := us_bounds x (powHi p) (powLo p) (pfS d p).toNat
 rw [← hU, ← hy] at u1 u2
 obtain ⟨u, hu⟩ : ∃ u, u = pfU d p := ⟨_, rfl⟩
 rw [← hu] at u1 u2 hU
 have hs8 : 8 ≤ pfS d p := by rw [hS, hE]; omega
 have hp8 : (2 : Nat) ^ 8 ≤ 2 ^ (pfS d p).toNat := Nat.pow_le_pow_right (by omega) (by omega)
 have hu2 : u < 72057594037927936 - 1024 := by
  have h2 : y / 2 ^ (pfS d p).toNat ≤ y / 2 ^ 8 := Nat.div_le_div_left hp8 (by decide)
  have h3 := or_one_le (y / 2 ^ (pfS d p).toNat)
  have e : (2 : Nat) ^ 8 = 256 := by decide
  rw [e] at h2
  omega
 obtain ⟨m1, m2⟩ := pfM_bounds hu2
 have ht : pfT u = 0 ∨ pfT u = 1 := by unfold pfT; split <;> simp
 have hinf : isInfB (pf64 d p) = true ↔ 1025 ≤ A + pfT u := by
  unfold pf64
  rw [← hu]
  by_cases hbig : 64 ≤ pfS d p
  ·rw [if_pos hbig]
   have : isInfB 0 = false := isInfB_fin (by decide)
   rw [this]
   rw [hS, hE] at hbig
   simp only [Bool.false_eq_true, false_iff]
   omega
  ·rw [if_neg hbig]
   by_cases hc : 1025 ≤ A + pfT u
   ·have h8 : (pfS d p).toNat = 8 := by rw [hS, hE]; omega
    have e : (2 : Nat) ^ 8 = 256 := by decide
    rw [h8, e] at u1
    have m3 := m2 (by omega)
    have : packB (pfM u) (-(pfE d p - (pfT u : Int))) = infW := by
     unfold packB
     rw [if_neg (bit52 m3 m1), if_pos (by rw [hE]; omega)]
     rfl
    rw [this, isInfB_inf]
    simp [hc]
   ·have : packB (pfM u) (-(pfE d p - (pfT u : Int))) < infW := packB_fin m1 (by rw [hE]; omega) (by rw [hE]; omega)
    rw [isInfB_fin this]
    simp [hc]
 rw [hinf]
 have htu : pfT u = 1 ↔ usX ≤ u := by
  unfold pfT usX
  split <;> simp <;> omega
 have hlp : log2P p = p * 108853 / 32768 := rfl
 by_cases hneg : p < 0
 ·have : A + pfT u < 1025 := by rw [hA, hlp]; omega
  constructor
  ·intro h; omega
  ·rintro ⟨h, _⟩; omega
 ·obtain ⟨n, rfl⟩ : ∃ n : Nat, p = (n : Int) := ⟨p.toNat, by omega⟩
  rw [Int.toNat_natCast]
  have hAn : A = ((g + 1 + n * 108853 / 32768 : Nat) : Int) := by rw [hA, hlp]; omega
  have h8s : A = 1024 → (pfS d (n : Int)).toNat = 8 := fun h => by rw [hS, hE]; omega
  by_cases c1 : n ≤ 288
  ·have hno : ¬ ovT n ≤ d := by
    rw [← ovT_iff]
    have h0 := pw_le n 288 c1
    have h2 := ov288
    generalize 10 ^ 288 = Q at h0 h2
    generalize 10 ^ n = P at h0 ⊢
    have h1 : d * P ≤ 10000000000000000000 * Q := Nat.mul_le_mul hd2 h0
    omega
   constructor
   ·intro h; omega
   ·rintro ⟨_, h⟩; exact absurd h hno
  ·by_cases c2 : n = 289
   ·subst c2
    have hno : ¬ ovT 289 ≤ d := by have := ov289T; omega
    constructor
    ·intro h
     have hA1 : A = 1024 := by omega
     have ht1 : pfT u = 1 := by omega
     have hx3 : x = d := by rw [hx, show 63 - g = 0 by omega, Nat.pow_zero, Nat.mul_one]
     have hlt : x * powHi ((289 : Nat) : Int) / 18446744073709551616 < 256 * usX := by
      refine Nat.lt_of_le_of_lt (Nat.div_le_div_right (Nat.mul_le_mul_right _ ?_)) ov289
      omega
     have h2 := us_lt (lo := powLo ((289 : Nat) : Int)) hlt
     rw [h8s hA1] at hU
     rw [← hU] at h2
     have := htu.1 ht1
     omega
    ·rintro ⟨_, h⟩; exact absurd h hno
   ·by_cases c3 : n ≤ 308
    ·have hchk : ovChk n = true := by
      have := List.all_eq_true.1 ovChk_all (n - 290) (List.mem_range.2 (by omega))
      rwa [show 290 + (n - 290) = n by omega] at this
     simp only [ovChk, Bool.and_eq_true, decide_eq_true_eq] at hchk
     obtain ⟨⟨⟨⟨⟨⟨k1, k2⟩, k3⟩, k4⟩, k5⟩, k6⟩, k7⟩ := hchk
     obtain ⟨Lp, hLp⟩ : ∃ Lp, Lp = 1024 - n * 108853 / 32768 := ⟨_, rfl⟩
     obtain ⟨Tp, hTp⟩ : ∃ Tp, Tp = ovT n := ⟨_, rfl⟩
     rw [← hLp, ← hTp] at k4 k6
     rw [← hLp] at k2 k3
     rw [← hLp, ← hTp] at k5 k7
     rw [← hTp]
     rcases Nat.lt_trichotomy (g + 1) Lp with hL | hL | hL
     ·
      have h1 : 2 ^ (g + 1) ≤ 2 ^ (Lp - 1) := Nat.pow_le_pow_right (by omega) (by omega)
      constructor
      ·intro h; omega
      ·rintro ⟨_, h⟩; omega
     ·
      have hA1 : A = 1024 := by omega
      have hx3 : x = d * 2 ^ (64 - Lp) := by rw [hx]; congr 2; omega
      rw [h8s hA1] at hU
      constructor
      ·intro h
       refine ⟨by omega, ?_⟩
       rcases Nat.lt_or_ge d Tp with hlt | hge
       ·exfalso
        have hy3 : x * powHi (n : Int) / 18446744073709551616 < 256 * usX := by
         refine Nat.lt_of_le_of_lt (Nat.div_le_div_right (Nat.mul_le_mul_right _ ?_)) k6
         rw [hx3]
         exact Nat.mul_le_mul_right _ (by omega)
        have h2 := us_lt (lo := powLo (n : Int)) hy3
        rw [← hU] at h2
        have := htu.1 (by omega)
        omega
       ·exact hge
      ·rintro ⟨_, h⟩
       have hge : usX ≤ u := by
        rw [hU]
        have up : ∀ T, T ≤ d → 256 * usX + 1 ≤ T * 2 ^ (64 - Lp) * powHi (n : Int) / 18446744073709551616 → usX ≤ uscaleN x (powHi (n : Int)) (powLo (n : Int)) 8 := fun T hT hk => by
         refine us_ge (Nat.le_trans hk (Nat.div_le_div_right (Nat.mul_le_mul_right _ ?_)))
         rw [hx3]
         exact Nat.mul_le_mul_right _ hT
        by_cases h290 : n = 290
        ·rw [if_pos h290] at k7
         simp only [Bool.and_eq_true, decide_eq_true_eq] at k7
         rcases Nat.lt_or_ge Tp d with hlt | hge
         ·exact up (Tp + 1) hlt k7.2
         ·have : d = Tp := by omega
          rw [hx3, this]
          exact k7.1
        ·rw [if_neg h290] at k7
         exact up Tp h (of_decide_eq_true k7)
       have := htu.2 hge
       omega
     ·
      have h1 : 2 ^ Lp ≤ 2 ^ g := Nat.pow_le_pow_right (by omega) (by omega)
      constructor
      ·intro _; exact ⟨by omega, by omega⟩
      ·intro _; omega
    ·have hT : ovT n ≤ 1 := by
      have := ov309
      have hn : n = 309 ∨ n = 310 := by omega
      rcases hn with rfl | rfl
      ·exact this.1
      ·exact this.2
     constructor
     ·intro _; exact ⟨by omega, by omega⟩
     ·intro _; omega
theorem pf64_le {d : Nat} {p : Int} (hd : 0 < d) (hd2 : d ≤ 10000000000000000000) (h0 : -345 ≤ p) (h1 : p ≤ 310) : pf64 d p ≤ infW := by
 obtain ⟨l1, l2⟩ := log2_bounds hd
 obtain ⟨g, hg⟩ : ∃ g, g = d.log2 := ⟨_, rfl⟩
 rw [← hg] at l1 l2
 have hg63 : g ≤ 63 := by
  rcases Nat.lt_or_ge 63 g with h | h
  ·have : 2 ^ 64 ≤ 2 ^ g := Nat.pow_le_pow_right (by omega) h
   omega
  ·exact h
 obtain ⟨q1, q2⟩ := powHi_bounds (p := p) (by omega) (by omega)
 obtain ⟨x, hx⟩ : ∃ x, x = d * 2 ^ (63 - g) := ⟨_, rfl⟩
 have hx1 : 9223372036854775808 ≤ x := by
  have : 2 ^ g * 2 ^ (63 - g) ≤ d * 2 ^ (63 - g) := Nat.mul_le_mul_right _ l1
  rw [← Nat.pow_add, show g + (63 - g) = 63 by omega] at this
  rw [hx]; simpa using this
 have hx2 : x < 18446744073709551616 := by
  have : d * 2 ^ (63 - g) < 2 ^ (g + 1) * 2 ^ (63 - g) := Nat.mul_lt_mul_of_pos_right l2 (Nat.pow_pos (by omega))
  rw [← Nat.pow_add, show g + 1 + (63 - g) = 64 by omega] at this
  rw [hx]; simpa using this
 obtain ⟨A, hA⟩ : ∃ A : Int, A = ((g + 1 : Nat) : Int) + log2P p := ⟨_, rfl⟩
 have hE : pfE d p = min 1074 (53 - A) := by rw [pfE, ← hg, hA]; congr 1; omega
 have hS : pfS d p = 61 - (pfE d p + A) := by rw [pfS, ← hg, hA]; omega
 obtain ⟨y, hy⟩ : ∃ y, y = x * powHi p / 18446744073709551616 := ⟨_, rfl⟩
 have hy2 : y < 18446744073709551616 - 18014398509481984 := by
  have : x * powHi p < 18446744073709551616 * powHi p := Nat.mul_lt_mul_of_pos_right hx2 (by omega)
  omega
 have hy1 : 4611686018427387904 ≤ y := by
  have : 9223372036854775808 * 9223372036854775808 ≤ x * powHi p := Nat.mul_le_mul hx1 q1
  omega
 have hU : pfU d p = uscaleN x (powHi p) (powLo p) (pfS d p).toNat := by rw [pfU, ← hg, ← hx]
 obtain ⟨u1, u2⟩ := us_bounds x (powHi p) (powLo p) (pfS d p).toNat
 rw [← hU, ← hy] at u1 u2
 obtain ⟨u, hu⟩ : ∃ u, u = pfU d p := ⟨_, rfl⟩
 rw [← hu] at u1 u2 hU
 have hs8 : 8 ≤ pfS d p := by rw [hS, hE]; omega
 have hp8 : (2 : Nat) ^ 8 ≤ 2 ^ (pfS d p).toNat := Nat.pow_le_pow_right (by omega) (by omega)
 have hu2 : u < 72057594037927936 - 1024 := by
  have h2 : y / 2 ^ (pfS d p).toNat ≤ y / 2 ^ 8 := Nat.div_le_div_left hp8 (by decide)
  have h3 := or_one_le (y / 2 ^ (pfS d p).toNat)
  have e : (2 : Nat) ^ 8 = 256 := by decide
  rw [e] at h2
  omega
 obtain ⟨m1, m2⟩ := pfM_bounds hu2
 have ht : pfT u = 0 ∨ pfT u = 1 := by unfold pfT; split <;> simp
 unfold pf64
 rw [← hu]
 by_cases hbig : 64 ≤ pfS d p
 ·rw [if_pos hbig]; exact Nat.zero_le _
 ·rw [if_neg hbig]
  by_cases hc : 972 ≤ -(pfE d p - (pfT u : Int))
  ·unfold packB
   split
   ·show pfM u ≤ 9218868437227405312; omega
   ·first | exact Nat.le_refl _ | (rw [if_pos hc]; exact Nat.le_refl _)
  ·exact Nat.le_of_lt (packB_fin m1 (by rw [hE]; omega) (by omega))
theorem fmt_double : Ieee.double.signWeight = 9223372036854775808 ∧ Ieee.double.infRung = 9218868437227405312 ∧ Ieee.double.binade = 4503599627370496 ∧ Ieee.double.leastPlace = -1074 ∧ Ieee.double.fractionBits = 52 := by decide +kernel
theorem log2_lt {m k : Nat} (h : m < 2 ^ (k + 1)) : m.log2 ≤ k := by
 rcases Nat.eq_zero_or_pos m with h0 | h0
 ·rw [h0]; simp
 ·have h1 := Nat.log2_self_le (n := m) (by omega)
  rcases Nat.lt_or_ge k m.log2 with hh | hh
  ·have : 2 ^ (k + 1) ≤ 2 ^ m.log2 := Nat.pow_le_pow_right (by omega) hh
   omega
  ·exact hh
theorem read_bnd {k w : Nat} (hk : k ≤ 1000) (h : w ≤ (1023 + k) * 4503599627370496) : ∃ m e, Ieee.double.read w = .number false m e ∧ (m.log2 : Int) + e ≤ k := by
 obtain ⟨hs, hi, hb, hp, _⟩ := fmt_double
 have e1 : w / 9223372036854775808 = 0 := Nat.div_eq_of_lt (by omega)
 have e2 : w % 9223372036854775808 = w := Nat.mod_eq_of_lt (by omega)
 unfold Ieee.Format.read
 rw [hs, hi, hb, hp, e1, e2]
 simp only [Nat.zero_mod]
 split
 ·rename_i hlt
  have := log2_lt (m := w) (k := 51) (by omega)
  exact ⟨_, _, rfl, by omega⟩
 ·rw [if_pos (by omega)]
  have := log2_lt (m := 4503599627370496 + w % 4503599627370496) (k := 52) (by omega)
  exact ⟨_, _, rfl, by omega⟩
theorem cut_le {n drop : Nat} (h : n < 2 ^ (53 + drop)) : Ieee.Toward.even.cut false n drop ≤ 9007199254740992 := by
 have e53 : (2 : Nat) ^ 53 = 9007199254740992 := by decide
 unfold Ieee.Toward.cut
 simp only [Nat.one_shiftLeft]
 have hb (b : Bool) : b.toNat ≤ 1 := by cases b <;> decide
 rcases Nat.lt_or_ge (n.log2 + 2) drop with hd | hd
 ·rw [Nat.min_eq_right (by omega)]
  have h2 := Nat.lt_log2_self (n := n)
  have h3 : n / 2 ^ (n.log2 + 2) = 0 := Nat.div_eq_of_lt (Nat.lt_of_lt_of_le h2 (Nat.pow_le_pow_right (by omega) (by omega)))
  rw [h3]
  have := hb (decide (2 ^ (n.log2 + 2) < 2 * (n % 2 ^ (n.log2 + 2))) || 2 ^ (n.log2 + 2) == 2 * (n % 2 ^ (n.log2 + 2)) && 0 % 2 == 1)
  omega
 ·rw [Nat.min_eq_left hd]
  have h3 : n / 2 ^ drop < 2 ^ 53 := by
   rw [Nat.div_lt_iff_lt_mul (Nat.pow_pos (by omega)), ← Nat.pow_add]; exact h
  have := hb (decide (2 ^ drop < 2 * (n % 2 ^ drop)) || 2 ^ drop == 2 * (n % 2 ^ drop) && n / 2 ^ drop % 2 == 1)
  omega
theorem nearest_bnd {m : Nat} {e : Int} {k : Nat} (h : (m.log2 : Int) + e ≤ k) : Ieee.double.nearest false m e ≤ (1024 + k) * 4503599627370496 := by
 obtain ⟨hs, hi, hb, hp, hf⟩ := fmt_double
 unfold Ieee.Format.nearest
 split
 ·simp [Ieee.Format.word]
 ·rw [hi, hb, hp, hf]
  simp only [Ieee.Format.word, Bool.false_eq_true, if_false]
  obtain ⟨last, hl⟩ : ∃ last : Int, last = max (e + (m.log2 : Int) - ((52 : Nat) : Int)) (-1074) := ⟨_, rfl⟩
  rw [← hl]
  have hm := Nat.lt_log2_self (n := m)
  have hc : Ieee.Toward.even.cut false (m <<< (e - last).toNat) (last - e).toNat ≤ 9007199254740992 := by
   apply cut_le
   rw [Nat.shiftLeft_eq]
   have h1 : m * 2 ^ (e - last).toNat < 2 ^ (m.log2 + 1) * 2 ^ (e - last).toNat := Nat.mul_lt_mul_of_pos_right hm (Nat.pow_pos (by omega))
   rw [← Nat.pow_add] at h1
   exact Nat.lt_of_lt_of_le h1 (Nat.pow_le_pow_right (by omega) (by omega))
  refine Nat.le_trans (Nat.min_le_left _ _) ?_
  have h5 : (last + 1074).toNat ≤ 1022 + k := by omega
  have h6 : (last - -1074).toNat = (last + 1074).toNat := by omega
  rw [h6]
  have h7 : (last + 1074).toNat * 4503599627370496 ≤ (1022 + k) * 4503599627370496 := Nat.mul_le_mul_right _ h5
  generalize Ieee.Toward.even.cut false (m <<< (e - last).toNat) (last - e).toNat = c at hc ⊢
  have h8 : (1024 + k) * 4503599627370496 = (1022 + k) * 4503599627370496 + 9007199254740992 := by rw [show 1024 + k = (1022 + k) + 2 by omega, Nat.add_mul]
  rw [h8]
  exact Nat.add_le_add h7 hc
theorem mul_log2 {m n : Nat} : (m * n).log2 ≤ m.log2 + n.log2 + 1 := by
 have h1 := Nat.lt_log2_self (n := m)
 have h2 := Nat.lt_log2_self (n := n)
 apply log2_lt
 have : m * n < 2 ^ (m.log2 + 1) * 2 ^ (n.log2 + 1) := Nat.mul_lt_mul'' h1 h2
 rw [← Nat.pow_add] at this
 exact Nat.lt_of_lt_of_le this (Nat.pow_le_pow_right (by omega) (by omega))
theorem mul_bnd {a b x y : Nat} (ha : a ≤ 1000) (hb : b ≤ 1000) (hx : x ≤ (1023 + a) * 4503599627370496) (hy : y ≤ (1023 + b) * 4503599627370496) : mulW x y ≤ (1023 + (a + b + 2)) * 4503599627370496 := by
 obtain ⟨m, i, hm, hm2⟩ := read_bnd ha hx
 obtain ⟨n, j, hn, hn2⟩ := read_bnd hb hy
 have hdef : floatBits .mul .f64 x y = ((Ieee.double.read x).product (Ieee.double.read y)).map Ieee.double.write := rfl
 unfold mulW
 rw [hdef, hm, hn]
 show Ieee.double.nearest (false ^^ false) (m * n) (i + j) ≤ _
 have h3 := mul_log2 (m := m) (n := n)
 have := nearest_bnd (m := m * n) (e := i + j) (k := a + b + 1) (by omega)
 rw [show 1023 + (a + b + 2) = 1024 + (a + b + 1) by omega]
 exact this
theorem p10_bnd : ∀ k, k < 23 → p10W k ≤ (1023 + 74) * 4503599627370496 ∧ (match Ieee.double.read (p10W k) with | .number false n j => decide (n ≠ 0) && decide (0 ≤ (n.log2 : Int) + j) | _ => false) = true := by decide +kernel
theorem div_bnd {a x k : Nat} (ha : a ≤ 1000) (hx : x ≤ (1023 + a) * 4503599627370496) (hk : k < 23) : divW x (p10W k) ≤ (1023 + (a + 1)) * 4503599627370496 := by
 obtain ⟨m, i, hm, hm2⟩ := read_bnd ha hx
 have hp := (p10_bnd k hk).2
 have hdef : floatBits .quo .f64 x (p10W k) = ((Ieee.double.read x).quotient (Ieee.double.fractionBits + 2) (Ieee.double.read (p10W k))).map Ieee.double.write := rfl
 unfold divW
 rw [hdef, hm]
 split at hp
 ·rename_i n j hn
  simp only [Bool.and_eq_true, decide_eq_true_eq] at hp
  rw [hn]
  simp only [Ieee.Datum.quotient, if_neg hp.1]
  obtain ⟨more, hmore⟩ : ∃ more, more = Ieee.double.fractionBits + 2 + n.log2 - m.log2 := ⟨_, rfl⟩
  rw [← hmore]
  have hf : Ieee.double.fractionBits = 52 := rfl
  rw [hf] at hmore
  show Ieee.double.nearest (false ^^ false) (2 * (m <<< more / n) + (m <<< more % n != 0).toNat) (i - j - more - 1) ≤ _
  have hq : (2 * (m <<< more / n) + (m <<< more % n != 0).toNat).log2 ≤ m.log2 + more - n.log2 + 1 := by
   apply log2_lt
   have h1 := Nat.lt_log2_self (n := m)
   have h2 := Nat.log2_self_le (n := n) hp.1
   have h3 : m <<< more < 2 ^ (m.log2 + 1 + more - n.log2) * n := by
    rw [Nat.shiftLeft_eq]
    have h4 : m * 2 ^ more < 2 ^ (m.log2 + 1) * 2 ^ more := Nat.mul_lt_mul_of_pos_right h1 (Nat.pow_pos (by omega))
    have h5 : 2 ^ (m.log2 + 1) * 2 ^ more = 2 ^ (m.log2 + 1 + more - n.log2) * 2 ^ n.log2 := by rw [← Nat.pow_add, ← Nat.pow_add]; congr 1; omega
    have h6 : 2 ^ (m.log2 + 1 + more - n.log2) * 2 ^ n.log2 ≤ 2 ^ (m.log2 + 1 + more - n.log2) * n := Nat.mul_le_mul_left _ h2
    omega
   have h7 : m <<< more / n < 2 ^ (m.log2 + 1 + more - n.log2) := (Nat.div_lt_iff_lt_mul (by omega)).2 h3
   have h8 : (m <<< more % n != 0).toNat ≤ 1 := by cases (m <<< more % n != 0) <;> decide
   have h9 : (2 : Nat) ^ (m.log2 + more - n.log2 + 1 + 1) = 2 * 2 ^ (m.log2 + 1 + more - n.log2) := by rw [← Nat.pow_succ']; congr 1; omega
   rw [h9]
   omega
  have := nearest_bnd (m := 2 * (m <<< more / n) + (m <<< more % n != 0).toNat) (e := i - j - more - 1) (k := a) (by omega)
  rw [show 1023 + (a + 1) = 1024 + a by omega]
  exact this
 ·cases hp
theorem fint_bnd {m : Nat} (h : m < 4503599627370496) : floatOfInt .f64 (m : Int) ≤ (1023 + 52) * 4503599627370496 := by
 have hd : floatOfInt .f64 (m : Int) = Ieee.double.nearest (decide ((m : Int) < 0)) m 0 := rfl
 rw [hd, decide_eq_false (by omega)]
 have := log2_lt (m := m) (k := 51) (by omega)
 exact nearest_bnd (k := 51) (by omega)
theorem exactW_fin {m : Nat} {p : Int} {x : Nat} (h : exactW m p = some x) : isInfB x = false ∧ m < 4503599627370496 ∧ p ≤ 37 := by
 unfold exactW at h
 by_cases h0 : m / 4503599627370496 ≠ 0
 ·rw [if_pos h0] at h; cases h
 ·rw [if_neg h0] at h
  have hm : m < 4503599627370496 := by omega
  have hf := fint_bnd hm
  have fin : ∀ {k w : Nat}, k ≤ 1000 → w ≤ (1023 + k) * 4503599627370496 → isInfB w = false := fun hk hw => isInfB_fin (by show _ < 9218868437227405312; omega)
  by_cases h1 : p = 0
  ·rw [if_pos h1] at h
   injection h with h
   subst h
   exact ⟨fin (by omega) hf, hm, by omega⟩
  ·rw [if_neg h1] at h
   by_cases h2 : 0 < p ∧ p ≤ 37
   ·rw [if_pos h2] at h
    refine ⟨?_, hm, h2.2⟩
    obtain ⟨z, hz⟩ : ∃ z, z = (if 22 < p then mulW (floatOfInt .f64 (m : Int)) (p10W (p - 22).toNat) else floatOfInt .f64 (m : Int)) := ⟨_, rfl⟩
    rw [← hz] at h
    have hzb : z ≤ (1023 + 128) * 4503599627370496 := by
     rw [hz]
     split
     ·have h9 := mul_bnd (a := 52) (b := 74) (by omega) (by omega) hf (p10_bnd (p - 22).toNat (by omega)).1
      exact h9
     ·omega
    split at h
    ·cases h
    ·injection h with h
     rw [← h]
     refine fin (k := 128 + 74 + 2) (by omega) (mul_bnd (by omega) (by omega) hzb (p10_bnd _ ?_).1)
     split <;> omega
   ·rw [if_neg h2] at h
    split at h
    ·rename_i h3
     injection h with h
     rw [← h]
     exact ⟨fin (k := 52 + 1) (by omega) (div_bnd (by omega) hf (by omega)), hm, by omega⟩
    ·cases h
theorem order_inf {x : Nat} (h : x ≤ infW) (he : FloatKind.f64.format.order x infW = some .eq) : x = infW := by
 rcases Nat.lt_or_ge x infW with hlt | hge
 ·exfalso
  have h1 : x < 9218868437227405312 := hlt
  have hi : Ieee.double.read infW = .infinity false := by decide +kernel
  have he' : (Ieee.double.read x).order (Ieee.double.read infW) = some .eq := he
  rw [hi] at he'
  obtain ⟨hs, hir, hb, hp, _⟩ := fmt_double
  have e1 : x / 9223372036854775808 = 0 := Nat.div_eq_of_lt (by omega)
  have e2 : x % 9223372036854775808 = x := Nat.mod_eq_of_lt (by omega)
  have hr : ∃ m e, Ieee.double.read x = .number false m e := by
   unfold Ieee.Format.read
   rw [hs, hir, hb, hp, e1, e2]
   simp only [Nat.zero_mod]
   split
   ·exact ⟨_, _, rfl⟩
   ·exact ⟨_, _, rfl⟩
  obtain ⟨m, e, hr⟩ := hr
  rw [hr] at he'
  simp [Ieee.Datum.order] at he'
 ·omega
def overN (N : Nat) (X : Int) : Prop := ovN * 10 ^ (-X).toNat ≤ N * 10 ^ X.toNat
theorem ov_at {N : Nat} {X : Int} {K : Nat} (h : -X ≤ K) : overN N X ↔ ovN * 10 ^ K ≤ N * 10 ^ (X + K).toNat := by
 unfold overN
 have hP : 0 < 10 ^ (K - (-X).toNat) := Nat.pow_pos (by omega)
 have e1 : 10 ^ K = 10 ^ (-X).toNat * 10 ^ (K - (-X).toNat) := by rw [← Nat.pow_add]; congr 1; omega
 have e2 : 10 ^ (X + K).toNat = 10 ^ X.toNat * 10 ^ (K - (-X).toNat) := by rw [← Nat.pow_add]; congr 1; omega
 rw [e1, e2, ← Nat.mul_assoc, ← Nat.mul_assoc, Nat.mul_le_mul_right_iff hP]
theorem ov_mono {N M : Nat} {X : Int} (h : N ≤ M) (ho : overN N X) : overN M X := Nat.le_trans ho (Nat.mul_le_mul_right _ h)
theorem ov_shift {m c : Nat} {X : Int} : overN (m * 10 ^ c) X ↔ overN m (X + c) := by
 rw [ov_at (N := m * 10 ^ c) (K := (-X).toNat) (by omega), ov_at (N := m) (K := (-X).toNat) (by omega), Nat.mul_assoc, ← Nat.pow_add]
 rw [show c + (X + ((-X).toNat : Int)).toNat = (X + c + ((-X).toNat : Int)).toNat by omega]
theorem ovN_lo : 10 ^ 308 ≤ ovN := by decide +kernel
theorem ovN_hi : ovN ≤ 10 ^ 309 := by decide +kernel
theorem ov_big {N a : Nat} {X : Int} (h : 10 ^ a ≤ N) (hx : 309 ≤ X + a) : overN N X := by
 refine ov_mono h ?_
 have := (ov_shift (m := 1) (c := a) (X := X)).2
 rw [Nat.one_mul] at this
 apply this
 unfold overN
 rw [show (-(X + (a : Int))).toNat = 0 by omega, Nat.pow_zero, Nat.mul_one, Nat.one_mul]
 exact Nat.le_trans ovN_hi (pw_le 309 _ (by omega))
theorem ov_small {N a : Nat} {X : Int} (h : N ≤ 10 ^ a) (hx : X + a ≤ 307) : ¬ overN N X := by
 intro ho
 have h1 := ov_mono h ho
 have h2 := (ov_shift (m := 1) (c := a) (X := X)).1
 rw [Nat.one_mul] at h2
 have h3 := h2 h1
 unfold overN at h3
 rw [Nat.one_mul] at h3
 have h4 := ovN_lo
 have h5 := pw_le (X + (a : Int)).toNat 307 (by omega)
 have h6 : ovN * 1 ≤ ovN * 10 ^ (-(X + (a : Int))).toNat := Nat.mul_le_mul_left _ (Nat.pow_pos (by decide))
 have h7 := pw_s 307 308 rfl
 rw [h7] at h4
 have h8 := pw_pos 307
 generalize (10 : Nat) ^ 307 = Q at h4 h5 h8
 generalize (10 : Nat) ^ (X + (a : Int)).toNat = R at h3 h5
 omega
theorem ov_zero {X : Int} : ¬ overN 0 X := by
 unfold overN
 rw [Nat.zero_mul]
 have h1 : 0 < ovN := by decide +kernel
 have h2 : 0 < 10 ^ (-X).toNat := Nat.pow_pos (by decide)
 have := Nat.mul_pos h1 h2
 omega
theorem ovSmAt_succ {l : List UInt8} {k : Nat} (h : k < l.length) : smAt l (k + 1) = smStep (smAt l k) (atB l k) := by
 have : l[k] = atB l k := by rw [atB, List.getD_eq_getElem?_getD, List.getElem?_eq_getElem h]; rfl
 rw [smAt, List.take_succ_eq_append_getElem h, List.foldl_append, this]
 rfl
structure Rel (l : List UInt8) (k : Nat) : Prop where
 nd : (rfAt l k).nd = (dsAt l k).nd
 dp : (rfAt l k).dp = (dsAt l k).dp
 dot : (rfAt l k).dot = (dsAt l k).dot
 pt : (smAt l k).point = (dsAt l k).dot
 ndm : (rfAt l k).ndm = min (dsAt l k).nd 19
 num : dn (dsAt l k).D (dsAt l k).nd = (smAt l k).n
 beh : (dsAt l k).dot = true → (dsAt l k).dp = (dsAt l k).nd - ((smAt l k).behind : Int)
 beh0 : (dsAt l k).dot = false → (smAt l k).behind = 0
 mant : ∃ r, (smAt l k).n = (rfAt l k).mant * 10 ^ ((dsAt l k).nd - min (dsAt l k).nd 19) + r ∧ r < 10 ^ ((dsAt l k).nd - min (dsAt l k).nd 19) ∧ ((rfAt l k).tr = false → r = 0)
 pos : 0 < (dsAt l k).nd → 0 < (rfAt l k).mant
 zer : (dsAt l k).nd = 0 → (rfAt l k).mant = 0
theorem rel_at {l : List UInt8} {m : Nat} (h : MantOk l m) : ∀ k, k ≤ m → Rel l k
 | 0, _ => ⟨rfl, rfl, rfl, rfl, rfl, rfl, (fun h => by cases h), (fun _ => rfl), ⟨0, rfl, Nat.pow_pos (by decide), fun _ => rfl⟩, (fun h => by simp [dsAt_zero, ds0] at h), fun _ => rfl⟩
 |k + 1, hk => by
  have hl := h.1
  obtain ⟨i1, i2, i3, i4, i5, i6, i7, i8, ⟨r, i9, i10, i11⟩, i12, i13⟩ := rel_at h k (by omega)
  have hc := h.2 k (by omega)
  have hdot := dsAt_dot (l := l) k (by omega)
  have e1 := rfAt_succ (l := l) (k := k) (by omega)
  have e2 := dsAt_succ (l := l) (k := k) (by omega)
  have e3 := ovSmAt_succ (l := l) (k := k) (by omega)
  generalize atB l k = c at hc e1 e2 e3
  generalize rfAt l k = R at *
  generalize dsAt l k = D at *
  generalize smAt l k = M at *
  obtain ⟨Rm, Rndm, Rnd, Rdp, Rdot, Rdig, Rtr⟩ := R
  obtain ⟨DD, Dnd, Ddp, Ddot⟩ := D
  obtain ⟨Mn, Mb, Mp⟩ := M
  simp only at *
  subst i1 i2 i3 i4 i5
  by_cases h46 : c.toNat = 46
  ·have hd : Mp = false := by
    rcases hc with hc | hc
    ·have := digit_fits hc; omega
    ·exact hdot fun j hj => hc.2 j hj
   have f1 : rfAt l (k + 1) = ⟨Rm, min Rnd 19, Rnd, Rnd, true, Rdig, Rtr⟩ := by rw [e1, rfStep, if_pos h46]
   have f2 : dsAt l (k + 1) = ⟨DD, Rnd, Rnd, true⟩ := by rw [e2, dsStep, if_pos h46]
   have f3 : smAt l (k + 1) = ⟨Mn, Mb, true⟩ := by rw [e3, smStep, if_pos h46]
   have hb := i8 hd
   refine ⟨?_, ?_, ?_, ?_, ?_, ?_, ?_, ?_, ?_, ?_, ?_⟩ <;> simp only [f1, f2, f3]
   ·exact i6
   ·intro _; omega
   ·intro h; cases h
   ·exact ⟨r, i9, i10, i11⟩
   ·exact i12
   ·exact i13
  ·have hdg := digit_fits (hc.resolve_right fun h => h46 h.1)
   by_cases hz : c.toNat = 48 ∧ Rnd = 0
   ·obtain ⟨hz1, rfl⟩ := hz
    have f1 : rfAt l (k + 1) = ⟨Rm, min 0 19, 0, Rdp - 1, Mp, true, Rtr⟩ := by rw [e1, rfStep, if_neg h46, if_pos ⟨hz1, rfl⟩]
    have f2 : dsAt l (k + 1) = ⟨DD, 0, Rdp - 1, Mp⟩ := by rw [e2, dsStep, if_neg h46, if_pos ⟨hz1, rfl⟩]
    have f3 : smAt l (k + 1) = ⟨Mn * 10 + (c.toNat - 48), if Mp = true then Mb + 1 else Mb, Mp⟩ := by rw [e3, smStep, if_neg h46]
    have hM : Mn = 0 := by rw [← i6]; rfl
    have hRm := i13 rfl
    refine ⟨?_, ?_, ?_, ?_, ?_, ?_, ?_, ?_, ?_, ?_, ?_⟩ <;> simp only [f1, f2, f3]
    ·rw [hM, hz1]; rfl
    ·intro hp
     have := i7 hp
     rw [if_pos hp]
     omega
    ·intro hp
     rw [hp]
     exact i8 hp
    ·refine ⟨0, ?_, by decide, fun _ => rfl⟩
     rw [hM, hz1, hRm]; rfl
    ·intro h; omega
    ·intro _; exact hRm
   ·have f2 : dsAt l (k + 1) = ⟨upd DD Rnd c.toNat, Rnd + 1, Rdp, Mp⟩ := by rw [e2, dsStep, if_neg h46, if_neg hz]
    have f3 : smAt l (k + 1) = ⟨Mn * 10 + (c.toNat - 48), if Mp = true then Mb + 1 else Mb, Mp⟩ := by rw [e3, smStep, if_neg h46]
    have hnum : dn (upd DD Rnd c.toNat) (Rnd + 1) = Mn * 10 + (c.toNat - 48) := by
     rw [dn, dn_congr (E := DD) Rnd fun i hi => by unfold upd; rw [if_neg (by omega)], i6]
     unfold upd
     rw [if_pos rfl]
    have hbeh : Mp = true → (Rdp : Int) = ((Rnd + 1 : Nat) : Int) - ((if Mp = true then Mb + 1 else Mb : Nat) : Int) := by
     intro hp
     have := i7 hp
     rw [if_pos hp]
     omega
    have hbeh0 : Mp = false → (if Mp = true then Mb + 1 else Mb) = 0 := by
     intro hp
     rw [hp]
     exact i8 hp
    by_cases h19 : min Rnd 19 < 19
    ·have hlt : Rnd < 19 := by omega
     have hm0 : Rnd - min Rnd 19 = 0 := by omega
     have f1 : rfAt l (k + 1) = ⟨Rm * 10 + (c.toNat - 48), min Rnd 19 + 1, Rnd + 1, Rdp, Mp, true, Rtr⟩ := by rw [e1, rfStep, if_neg h46, if_neg hz, if_pos h19]
     rw [hm0, Nat.pow_zero] at i9 i10
     have hr0 : r = 0 := by omega
     refine ⟨?_, ?_, ?_, ?_, ?_, ?_, ?_, ?_, ?_, ?_, ?_⟩ <;> simp only [f1, f2, f3]
     ·omega
     ·exact hnum
     ·exact hbeh
     ·exact hbeh0
     ·refine ⟨0, ?_, Nat.pow_pos (by decide), fun _ => rfl⟩
      rw [show Rnd + 1 - min (Rnd + 1) 19 = 0 by omega, Nat.pow_zero, i9, hr0]
      omega
     ·intro _
      rcases Nat.eq_zero_or_pos Rnd with h0 | h0
      ·have : c.toNat ≠ 48 := fun h => hz ⟨h, h0⟩
       omega
      ·have := i12 h0; omega
     ·intro h; omega
    ·have hge : 19 ≤ Rnd := by omega
     have f1 : rfAt l (k + 1) = ⟨Rm, min Rnd 19, Rnd + 1, Rdp, Mp, true, Rtr || c.toNat != 48⟩ := by rw [e1, rfStep, if_neg h46, if_neg hz, if_neg h19]
     rw [Nat.min_eq_right hge] at i9 i10
     refine ⟨?_, ?_, ?_, ?_, ?_, ?_, ?_, ?_, ?_, ?_, ?_⟩ <;> simp only [f1, f2, f3]
     ·omega
     ·exact hnum
     ·exact hbeh
     ·exact hbeh0
     ·refine ⟨r * 10 + (c.toNat - 48), ?_, ?_, ?_⟩
      ·rw [Nat.min_eq_right (by omega), show Rnd + 1 - 19 = (Rnd - 19) + 1 by omega, Nat.pow_succ, i9, ← Nat.mul_assoc]
       generalize Rm * 10 ^ (Rnd - 19) = Q
       omega
      ·rw [Nat.min_eq_right (by omega), show Rnd + 1 - 19 = (Rnd - 19) + 1 by omega, Nat.pow_succ]
       omega
      ·intro h
       simp only [Bool.or_eq_false_iff, bne_eq_false_iff_eq] at h
       rw [i11 h.1, h.2]
     ·intro _; exact i12 (by omega)
     ·intro h; omega
theorem ovN_big : 10000000000000000000 < ovN := by decide +kernel
theorem pf64_ov {d : Nat} {p : Int} (hd : 0 < d) (hd2 : d ≤ 10000000000000000000) (h0 : -345 ≤ p) (h1 : p ≤ 310) : isInfB (pf64 d p) = true ↔ overN d p := by
 rw [pf64_over hd hd2 h0 h1]
 by_cases hp : 0 ≤ p
 ·obtain ⟨n, rfl⟩ : ∃ n : Nat, p = (n : Int) := ⟨p.toNat, by omega⟩
  rw [Int.toNat_natCast, ← ovT_iff]
  unfold overN
  rw [show (-(n : Int)).toNat = 0 by omega, Nat.pow_zero, Nat.mul_one, Int.toNat_natCast]
  exact ⟨fun h => h.2, fun h => ⟨by omega, h⟩⟩
 ·have : ¬ overN d p := ov_small (a := 19) hd2 (by omega)
  constructor
  ·rintro ⟨h, _⟩; exact absurd h hp
  ·intro h; exact absurd h this
theorem decL_over {l : List UInt8} (hm : MantOk l (mEnd l)) (hl : mEnd l ≤ 512) (he : -100009 ≤ eVal l ∧ eVal l ≤ 100009) : isInfB (decL l) = true ↔ overN (smAt l (mEnd l)).n (eVal l - ((smAt l (mEnd l)).behind : Int)) := by
 have hr := rel_at hm (mEnd l) (Nat.le_refl _)
 have hds := dsAt_ok hm (mEnd l) (Nat.le_refl _)
 have hrf := rfAt_ok hm (mEnd l) (Nat.le_refl _)
 obtain ⟨X, hX⟩ : ∃ X, X = eVal l - ((smAt l (mEnd l)).behind : Int) := ⟨_, rfl⟩
 obtain ⟨i1, i2, i3, i4, i5, i6, i7, i8, ⟨r, i9, i10, i11⟩, i12, i13⟩ := hr
 have hdp : (if (dsAt l (mEnd l)).dot then (dsAt l (mEnd l)).dp else ((dsAt l (mEnd l)).nd : Int)) + eVal l - ((dsAt l (mEnd l)).nd : Int) = X := by
  cases hd : (dsAt l (mEnd l)).dot
  ·have := i8 hd
   simp only [Bool.false_eq_true, if_false]
   omega
  ·have := i7 hd
   simp only [if_true]
   omega
 have hinf0 : isInfB 0 = false := isInfB_fin (by decide)
 rw [← hX]
 unfold decL
 obtain ⟨d, hd⟩ : ∃ d, d = (rfAt l (mEnd l)).mant := ⟨_, rfl⟩
 obtain ⟨n, hn⟩ : ∃ n, n = (dsAt l (mEnd l)).nd := ⟨_, rfl⟩
 obtain ⟨N, hN⟩ : ∃ N, N = (smAt l (mEnd l)).n := ⟨_, rfl⟩
 have hd19 : d < 10000000000000000000 := by
  have h1 := hrf.mant
  rw [← hd] at h1
  have h2 : (10 : Nat) ^ (rfAt l (mEnd l)).ndm ≤ 10 ^ 19 := Nat.pow_le_pow_right (by decide) hrf.ndm.1
  have h3 : (10 : Nat) ^ 19 = 10000000000000000000 := by decide
  omega
 rw [← hn] at i1 i5 i6 i9 i10 i12 i13 hdp
 rw [← hN] at i6 i9 ⊢
 rw [← hd] at i9 i12 i13 ⊢
 unfold decW
 by_cases h0 : d = 0
 ·rw [if_pos h0, hinf0]
  have hn0 : n = 0 := by
   rcases Nat.eq_zero_or_pos n with h | h
   ·exact h
   ·have := i12 h; omega
  have hN0 : N = 0 := by rw [← i6, hn0]; rfl
  rw [hN0]
  exact ⟨fun h => (by cases h), fun h => absurd h ov_zero⟩
 ·rw [if_neg h0]
  obtain ⟨c, hc⟩ : ∃ c, c = n - min n 19 := ⟨_, rfl⟩
  rw [← hc] at i9 i10
  have hp : rfExp (rfAt l (mEnd l)) (eVal l) = X + (c : Int) := by
   unfold rfExp
   rw [← hd, if_pos h0, i3, i2, i1, i5]
   have : ((min n 19 : Nat) : Int) = (n : Int) - c := by omega
   rw [this]
   omega
  rw [hp]
  have low : overN d (X + c) → overN N X := fun h => by
   have := ov_shift.2 h
   exact ov_mono (by rw [i9]; omega) this
  have high : overN N X → overN (d + 1) (X + c) := fun h => by
   refine ov_shift.1 (ov_mono ?_ h)
   rw [i9, Nat.succ_mul]; omega
  by_cases h1 : 310 < X + (c : Int)
  ·rw [if_pos h1, isInfB_inf]
   exact ⟨fun _ => low (ov_big (a := 0) (by omega) (by omega)), fun _ => rfl⟩
  ·rw [if_neg h1]
   by_cases h2 : X + (c : Int) < -345
   ·rw [if_pos h2, hinf0]
    exact ⟨fun h => (by cases h), fun h => absurd (high h) (ov_small (a := 19) (by omega) (by omega))⟩
   ·rw [if_neg h2]
    have hpf := pf64_ov (d := d) (p := X + c) (by omega) (by omega) (by omega) (by omega)
    have hpf1 := pf64_ov (d := d + 1) (p := X + c) (by omega) (by omega) (by omega) (by omega)
    cases htr : (rfAt l (mEnd l)).tr
    ·
     rw [if_neg (by simp)]
     have hr0 := i11 htr
     have heq : overN N X ↔ overN d (X + c) := by rw [i9, hr0, Nat.add_zero]; exact ov_shift
     cases hex : exactW d (X + c) with
     |none =>
      simp only
      rw [hpf, heq]
     |some x =>
      simp only
      obtain ⟨e1, e2, e3⟩ := exactW_fin hex
      rw [e1, heq]
      have h16 : (4503599627370496 : Nat) ≤ 10 ^ 16 := by decide
      exact ⟨fun h => (by cases h), fun h => absurd h (ov_small (a := 16) (by omega) (by omega))⟩
    ·rw [if_pos rfl]
     by_cases ho : (FloatKind.f64.format.order (pf64 d (X + c)) (pf64 (d + 1) (X + c)) == some .eq) = true
     ·rw [if_pos ho, hpf]
      refine ⟨low, fun h => ?_⟩
      have h3 := hpf1.2 (high h)
      have hle := pf64_le (d := d + 1) (p := X + c) (by omega) (by omega) (by omega) (by omega)
      have h4 : pf64 (d + 1) (X + c) = infW := by
       rcases Nat.lt_or_ge (pf64 (d + 1) (X + c)) infW with hlt | hge
       ·rw [isInfB_fin hlt] at h3; cases h3
       ·omega
      rw [h4] at ho
      have h5 := order_inf (pf64_le (d := d) (p := X + c) (by omega) (by omega) (by omega) (by omega)) (by simpa using ho)
      rw [← hpf, h5]
      exact isInfB_inf
     ·rw [if_neg ho]
      have hn0 : 0 < n := by
       rcases Nat.eq_zero_or_pos n with h | h
       ·exact absurd (i13 h) h0
       ·exact h
      have ok : (dsV l (mEnd l) (eVal l)).Ok := ⟨hds.dig, (by show 0 < (dsAt l (mEnd l)).nd; omega), (by show (dsAt l (mEnd l)).nd ≤ 800; have := hds.nd; omega)⟩
      obtain ⟨f1, f2⟩ := fbV_over ok
      rw [f1, f2]
      have hSd : (dsV l (mEnd l) (eVal l)).dp = X + n := by
       show (if (dsAt l (mEnd l)).dot then (dsAt l (mEnd l)).dp else ((dsAt l (mEnd l)).nd : Int)) + eVal l = _
       rw [← hn]
       omega
      have hSn : (dsV l (mEnd l) (eVal l)).nd = n := hn.symm
      have hpre : pre (dsV l (mEnd l) (eVal l)).D n n = N := by rw [pre_dn _ _ n (Nat.le_refl _)]; exact i6
      have hnle : n ≤ 512 := by have := hds.nd; omega
      have hNlo : 10 ^ (n - 1) ≤ N := by
       rw [← hpre]
       have := pre_pos ok.dig ok.pos (n - 1)
       rw [hSn, Nat.sub_add_cancel hn0] at this
       exact this
      have hNhi : N < 10 ^ n := by
       rw [← hpre]
       have := pre_lt ok.dig n
       rw [hSn] at this
       exact this
      have hv : vF (dsV l (mEnd l) (eVal l)) = N * 10 ^ (800 + (X + n).toNat - n) := by rw [vF, hSn, hpre, hSd]
      rw [hSd, hv]
      have hovN : (2 ^ 54 - 1) * 2 ^ 970 = ovN := by rw [ovN]
      rw [hovN]
      by_cases g1 : 310 < X + (n : Int)
      ·exact ⟨fun _ => ov_big hNlo (by omega), fun _ => .inl g1⟩
      ·by_cases g2 : X + (n : Int) < 0
       ·have hno := ov_small (Nat.le_of_lt hNhi) (X := X) (by omega)
        constructor
        ·rintro (h | ⟨h, _⟩) <;> omega
        ·intro h; exact absurd h hno
       ·rw [ov_at (N := N) (X := X) (K := 800) (by omega), show (X + ((800 : Nat) : Int)).toNat = 800 + (X + n).toNat - n by omega]
        constructor
        ·rintro (h | ⟨_, _, h⟩)
         ·omega
         ·exact h
        ·intro h; exact .inr ⟨by omega, by omega, h⟩
def hexNK (l : List UInt8) (k : Nat) : Nat := ((l.drop 2).take (k - 2)).foldl (fun n c => n * 16 + hexV c) 0
theorem hexNK_two (l : List UInt8) : hexNK l 2 = 0 := by simp [hexNK]
theorem hexNK_succ {l : List UInt8} {k : Nat} (hj : 2 ≤ k) (h : k < l.length) : hexNK l (k + 1) = hexNK l k * 16 + hexV (atB l k) := by
 have hk : k - 2 < (l.drop 2).length := by simp; omega
 have : (l.drop 2)[k - 2] = atB l k := by
  rw [List.getElem_drop, atB, List.getD_eq_getElem?_getD, List.getElem?_eq_getElem h]
  simp [show 2 + (k - 2) = k by omega]
 rw [hexNK, show k + 1 - 2 = k - 2 + 1 by omega, List.take_succ_eq_append_getElem hk, List.foldl_append, this]
 rfl
theorem hexV_pos {c : UInt8} (h : hexd c = true) (hc : c.toNat ≠ 48) : 1 ≤ hexV c := by
 unfold hexV
 split
 ·rename_i hd; have := digit_fits hd; omega
 ·rename_i hd
  have := hexd_low c h (by simpa using hd)
  omega
theorem hexV_zero {c : UInt8} (hc : c.toNat = 48) : hexV c = 0 := by
 unfold hexV
 have : digit c = true := by simp [digit, hc]
 rw [if_pos this]; omega
structure RelX (l : List UInt8) (k : Nat) : Prop where
 ndm : (rxAt l k).ndm = min (rxAt l k).nd 16
 mant : ∃ r, hexNK l k = (rxAt l k).mant * 16 ^ ((rxAt l k).nd - min (rxAt l k).nd 16) + r ∧ r < 16 ^ ((rxAt l k).nd - min (rxAt l k).nd 16) ∧ ((rxAt l k).tr = false → r = 0) ∧ ((rxAt l k).tr = true → 0 < r ∧ 16 < (rxAt l k).nd)
 pos : 0 < (rxAt l k).nd → 16 ^ (min (rxAt l k).nd 16 - 1) ≤ (rxAt l k).mant
 zer : (rxAt l k).nd = 0 → (rxAt l k).mant = 0
theorem relX_at {l : List UInt8} {m : Nat} (h : HexOk l m) : ∀ k, 2 ≤ k → k ≤ m → RelX l k := by
 intro k hk
 induction k with
 |zero => omega
 |succ k ih =>
  intro hm
  have hl := h.1
  by_cases he : k + 1 = 2
  ·rw [he]
   refine ⟨?_, ⟨0, ?_, ?_, ?_, ?_⟩, ?_, ?_⟩ <;> simp [rxAt_two, hexNK_two]
  ·obtain ⟨i1, ⟨r, i2, i3, i4, i5⟩, i6, i7⟩ := ih (by omega) (by omega)
   have hx := h.2 k (by omega) (by omega)
   have hv := hexV_lt _ hx
   have e1 := rxAt_succ (l := l) (k := k) (by omega) (by omega)
   have e2 := hexNK_succ (l := l) (k := k) (by omega) (by omega)
   have hv0 : (atB l k).toNat = 48 → hexV (atB l k) = 0 := hexV_zero
   have hv1 : (atB l k).toNat ≠ 48 → 1 ≤ hexV (atB l k) := hexV_pos hx
   generalize atB l k = c at *
   generalize rxAt l k = R at *
   generalize hexNK l k = N at *
   obtain ⟨M, Nm, D, tr⟩ := R
   simp only at *
   subst i1
   by_cases hz : c.toNat = 48 ∧ D = 0
   ·have f1 : rxAt l (k + 1) = ⟨M, min D 16, D, tr⟩ := by rw [e1, rxStep, if_pos hz]
    obtain ⟨hz1, rfl⟩ := hz
    have hM := i7 rfl
    have hN : N = 0 := by rw [i2, hM]; simp at i3; omega
    refine ⟨?_, ⟨0, ?_, ?_, ?_, ?_⟩, ?_, ?_⟩ <;> simp only [f1, e2]
    ·rw [hN, hv0 hz1, hM]; rfl
    ·decide
    ·intro _; trivial
    ·intro htr; have := (i5 htr).2; omega
    ·intro h; omega
    ·intro _; exact hM
   ·by_cases h16 : min D 16 < 16
    ·have hlt : D < 16 := by omega
     have f1 : rxAt l (k + 1) = ⟨M * 16 + hexV c, min D 16 + 1, D + 1, tr⟩ := by rw [e1, rxStep, if_neg hz, if_pos h16]
     rw [show D - min D 16 = 0 by omega, Nat.pow_zero] at i2 i3
     have htf : tr = false := by cases tr; rfl; exact absurd (i5 rfl).2 (by omega)
     refine ⟨?_, ⟨0, ?_, ?_, ?_, ?_⟩, ?_, ?_⟩ <;> simp only [f1, e2]
     ·omega
     ·rw [show D + 1 - min (D + 1) 16 = 0 by omega, Nat.pow_zero, i2]
      omega
     ·exact Nat.pow_pos (by decide)
     ·intro _; trivial
     ·intro h; rw [htf] at h; cases h
     ·intro _
      rw [show min (D + 1) 16 - 1 = D by omega]
      rcases Nat.eq_zero_or_pos D with h0 | h0
      ·have := hv1 fun h => hz ⟨h, h0⟩
       rw [h0, Nat.pow_zero]; omega
      ·have h1 := i6 h0
       rw [show min D 16 - 1 = D - 1 by omega] at h1
       have h2 : 16 ^ D = 16 ^ (D - 1) * 16 := by rw [← Nat.pow_succ]; congr 1; omega
       rw [h2]; omega
     ·intro h; omega
    ·have hge : 16 ≤ D := by omega
     have f1 : rxAt l (k + 1) = ⟨M, min D 16, D + 1, tr || c.toNat != 48⟩ := by rw [e1, rxStep, if_neg hz, if_neg h16]
     rw [Nat.min_eq_right hge] at i2 i3 i6
     refine ⟨?_, ⟨r * 16 + hexV c, ?_, ?_, ?_, ?_⟩, ?_, ?_⟩ <;> simp only [f1, e2]
     ·omega
     ·rw [Nat.min_eq_right (by omega), show D + 1 - 16 = (D - 16) + 1 by omega, Nat.pow_succ, i2, ← Nat.mul_assoc]
      generalize M * 16 ^ (D - 16) = Q
      omega
     ·rw [Nat.min_eq_right (by omega), show D + 1 - 16 = (D - 16) + 1 by omega, Nat.pow_succ]
      omega
     ·intro h
      simp only [Bool.or_eq_false_iff, bne_eq_false_iff_eq] at h
      rw [i4 h.1, hv0 h.2]
     ·intro h
      simp only [Bool.or_eq_true, bne_iff_ne, ne_eq] at h
      refine ⟨?_, by omega⟩
      rcases h with h | h
      ·have := (i5 h).1; omega
      ·have := hv1 h; omega
     ·intro _
      rw [Nat.min_eq_right (by omega)]
      exact i6 (by omega)
     ·intro h; omega
def St (Z m s : Nat) : Prop := if m % 2 = 0 then Z = m * 2 ^ s else (m - 1) * 2 ^ s < Z ∧ Z < (m + 1) * 2 ^ s
theorem st_exact {Z m s : Nat} (h : Z = m * 2 ^ s) : St Z m s := by
 unfold St
 have hP : 0 < 2 ^ s := Nat.pow_pos (by decide)
 split
 ·exact h
 ·rename_i ho
  rw [h]
  exact ⟨Nat.mul_lt_mul_of_pos_right (by omega) hP, Nat.mul_lt_mul_of_pos_right (by omega) hP⟩
theorem st_half {Z m s : Nat} (h : St Z m s) : St Z (m / 2 ||| m % 2) (s + 1) := by
 have hP : 0 < 2 ^ s := Nat.pow_pos (by decide)
 have e2 : (2 : Nat) ^ (s + 1) = 2 * 2 ^ s := by rw [Nat.pow_succ, Nat.mul_comm]
 unfold St at h
 by_cases he : m % 2 = 0
 ·rw [if_pos he] at h
  rw [he, Nat.or_zero]
  apply st_exact
  rw [e2, ← Nat.mul_assoc, h, show m / 2 * 2 = m by omega]
 ·rw [if_neg he] at h
  have h1 : m % 2 = 1 := by omega
  obtain ⟨a, ha⟩ : ∃ a, a = m / 2 := ⟨_, rfl⟩
  have hm : m = 2 * a + 1 := by omega
  rw [h1, ← ha]
  have ho := or_one_odd a
  have hle := or_one_le a
  have hge := or_one_ge a
  unfold St
  rw [if_neg (by omega), e2]
  rw [hm] at h
  obtain ⟨g1, g2⟩ := h
  generalize 2 ^ s = P at *
  have h3 : ((a ||| 1) - 1) * (2 * P) ≤ (2 * a + 1 - 1) * P := by
   have e : ((a ||| 1) - 1) * (2 * P) = (2 * ((a ||| 1) - 1)) * P := by rw [← Nat.mul_assoc, Nat.mul_comm _ 2]
   rw [e]
   exact Nat.mul_le_mul_right _ (by omega)
  have h4 : (2 * a + 1 + 1) * P ≤ ((a ||| 1) + 1) * (2 * P) := by
   have e : ((a ||| 1) + 1) * (2 * P) = (2 * ((a ||| 1) + 1)) * P := by rw [← Nat.mul_assoc, Nat.mul_comm _ 2]
   rw [e]
   exact Nat.mul_le_mul_right _ (by omega)
  omega
theorem st_ge {Z m s c : Nat} (h : St Z m s) (hc : c % 2 = 0) : c ≤ m ↔ c * 2 ^ s ≤ Z := by
 have hP : 0 < 2 ^ s := Nat.pow_pos (by decide)
 unfold St at h
 generalize 2 ^ s = P at *
 by_cases he : m % 2 = 0
 ·rw [if_pos he] at h
  rw [h]
  exact ⟨fun h => Nat.mul_le_mul_right _ h, fun h => Nat.le_of_mul_le_mul_right h hP⟩
 ·rw [if_neg he] at h
  constructor
  ·intro hh
   have : c * P ≤ (m - 1) * P := Nat.mul_le_mul_right _ (by omega)
   omega
  ·intro hh
   have h1 : c * P < (m + 1) * P := by omega
   have := Nat.lt_of_mul_lt_mul_right h1
   omega
theorem hx1_exact : ∀ (f m : Nat) (e : Int), ∃ j, j ≤ f ∧ (hx1 f m e).2 = e - j ∧ (hx1 f m e).1 = m * 2 ^ j
 | 0, m, e => ⟨0, Nat.le_refl _, by simp [hx1], by simp [hx1]⟩
 |f + 1, m, e => by
  rw [hx1]
  split
  ·obtain ⟨j, h1, h2, h3⟩ := hx1_exact f (m * 2) (e - 1)
   exact ⟨j + 1, by omega, by rw [h2]; omega, by rw [h3, Nat.pow_succ, Nat.mul_assoc, Nat.mul_comm 2]⟩
  ·exact ⟨0, Nat.zero_le _, by simp, by simp⟩
theorem hx2_st {Z : Nat} : ∀ (f m : Nat) (e : Int) (s : Nat), St Z m s → ∃ j, j ≤ f ∧ (hx2 f m e).2 = e + j ∧ St Z (hx2 f m e).1 (s + j) ∧ ((hx2 f m e).1 = m ∨ 18014398509481984 ≤ (hx2 f m e).1)
 | 0, m, e, s, h => ⟨0, Nat.le_refl _, by simp [hx2], by simpa [hx2] using h, .inl (by simp [hx2])⟩
 |f + 1, m, e, s, h => by
  rw [hx2]
  split
  ·rename_i hm
   obtain ⟨j, h1, h2, h3, h4⟩ := hx2_st f (m / 2 ||| m % 2) (e + 1) (s + 1) (st_half h)
   refine ⟨j + 1, by omega, by rw [h2]; omega, by rw [show s + (j + 1) = s + 1 + j by omega]; exact h3, .inr ?_⟩
   rcases h4 with h4 | h4
   ·rw [h4]
    have := Nat.left_le_or (n := m / 2) (m := m % 2)
    omega
   ·exact h4
  ·exact ⟨0, Nat.zero_le _, by simp, by simpa using h, .inl rfl⟩
theorem hxInf : isInfB (fbBits 4503599627370496 2047).toNat = true := by decide +kernel
theorem hxOut_inf {m : Nat} {e : Int} (hm : m < 18446744073709551616) (he : -1023 ≤ e) : isInfB (hxOut m e).1 = true ↔ 1023 < e := by
 unfold hxOut
 split
 ·rename_i h; simp only [hxInf]; exact ⟨fun _ => h, fun _ => trivial⟩
 ·rename_i h
  simp only [fbBits_fin hm (show (0 : Int) ≤ e + 1023 by omega) (by omega)]
  exact ⟨fun h => (by cases h), fun h2 => absurd h2 h⟩
theorem hxRnd_inf {m : Nat} {e : Int} (h1 : 18014398509481984 ≤ m) (h2 : m < 36028797018963968) (he : -1025 ≤ e) : isInfB (hxRnd m e).1 = true ↔ 1024 ≤ e + 2 ∨ (e + 2 = 1023 ∧ 36028797018963966 ≤ m) := by
 have hq : 4503599627370496 ≤ m / 4 ∧ m / 4 < 9007199254740992 := by omega
 unfold hxRnd
 by_cases hr : hxR m = 3
 ·rw [if_pos hr]
  by_cases hq1 : m / 4 + 1 = 9007199254740992
  ·rw [if_pos hq1]
   have hm2 : 36028797018963966 ≤ m := by
    have ho : m / 4 % 2 = 1 := by omega
    unfold hxR at hr
    rw [show (3 : Nat) = 2 ^ 2 - 1 by decide, Nat.and_two_pow_sub_one_eq_mod, ho] at hr
    have h4 : m % 2 ^ 2 = 0 ∨ m % 2 ^ 2 = 1 ∨ m % 2 ^ 2 = 2 ∨ m % 2 ^ 2 = 3 := by omega
    rcases h4 with h | h | h | h
    ·rw [h] at hr; simp at hr
    ·rw [h] at hr; simp at hr
    ·omega
    ·omega
   unfold hxDen
   rw [if_neg (by omega), hxOut_inf (by omega) (by omega)]
   omega
  ·rw [if_neg hq1]
   unfold hxDen
   rw [if_neg (by omega), hxOut_inf (by omega) (by omega)]
   omega
 ·rw [if_neg hr]
  have hm2 : ¬ 36028797018963966 ≤ m := by
   intro hm
   apply hr
   have ho : m / 4 % 2 = 1 := by omega
   unfold hxR
   rw [show (3 : Nat) = 2 ^ 2 - 1 by decide, Nat.and_two_pow_sub_one_eq_mod, ho]
   have h4 : m % 2 ^ 2 = 2 ∨ m % 2 ^ 2 = 3 := by omega
   rcases h4 with h | h <;> rw [h] <;> decide
  unfold hxDen
  rw [if_neg (by omega), hxOut_inf (by omega) (by omega)]
  omega
theorem hxV_zero : isInfB (hxV 0 0 false).1 = false := by decide +kernel
theorem ov_lo (σ c : Nat) (h : σ + 2 ≤ c) : 36028797018963968 * 2 ^ σ ≤ (2 ^ 54 - 1) * 2 ^ c := by
 refine Nat.le_trans (Nat.mul_le_mul_left _ (Nat.pow_le_pow_right (by decide) (show σ ≤ c - 2 by omega))) ?_
 rw [show (2 : Nat) ^ c = 4 * 2 ^ (c - 2) by rw [show (4 : Nat) = 2 ^ 2 by decide, ← Nat.pow_add]; congr 1; omega]
 generalize (2 : Nat) ^ (c - 2) = y
 omega
theorem ov_mid (σ c : Nat) (h : c = σ + 1) : 36028797018963966 * 2 ^ σ = (2 ^ 54 - 1) * 2 ^ c := by
 rw [h, show (2 : Nat) ^ (σ + 1) = 2 * 2 ^ σ from Nat.pow_succ']
 generalize (2 : Nat) ^ σ = y
 omega
theorem ov_hi (σ c : Nat) (h : c ≤ σ) : (2 ^ 54 - 1) * 2 ^ c ≤ 18014398509481984 * 2 ^ σ := by
 have h2 : (2 : Nat) ^ c ≤ 2 ^ σ := Nat.pow_le_pow_right (by decide) h
 exact Nat.le_trans (Nat.mul_le_mul_left _ h2) (Nat.mul_le_mul_right _ (by decide))
theorem hxV_over {Z m s : Nat} {p : Int} {tr : Bool} {m1 : Nat} {e1 : Int} (h1 : hx1 54 m (p + 52) = (m1, e1)) (hs : e1 = (s : Int) - 8) (hst : St Z (hxTr m1 tr) s) (hlo : 18014398509481984 ≤ hxTr m1 tr) (hhi : hxTr m1 tr < 18446744073709551616) :
  isInfB (hxV m p tr).1 = true ↔ ovN * 2 ^ 60 ≤ Z := by
 unfold hxV
 rw [h1]
 obtain ⟨j, j1, j2, j3, j4⟩ := hx2_st 9 (hxTr m1 tr) e1 s hst
 have hsp := hx2_spec 9 (hxTr m1 tr) e1 (by rw [show (2 : Nat) ^ (55 + 9) = 18446744073709551616 by decide]; exact hhi)
 have hm3 : 18014398509481984 ≤ (hx2 9 (hxTr m1 tr) e1).1 := by rcases j4 with h | h <;> omega
 simp only
 generalize hx2 9 (hxTr m1 tr) e1 = q at *
 obtain ⟨m3, e3⟩ := q
 simp only at *
 rw [hxRnd_inf hm3 hsp.1 (by omega)]
 obtain ⟨σ, hσ⟩ : ∃ σ, σ = s + j := ⟨_, rfl⟩
 rw [← hσ] at j3
 have he3 : e3 = (σ : Int) - 8 := by omega
 have hov : ovN * 2 ^ 60 = (2 ^ 54 - 1) * 2 ^ 1030 := by
  unfold ovN
  generalize h1 : (970 : Nat) = a
  generalize h2 : (1030 : Nat) = c
  exact pw_m2 _ a 60 c (by omega)
 rw [hov]
 rcases Nat.lt_trichotomy σ 1029 with hc | hc | hc
 ·have h2 := (st_ge j3 (c := 36028797018963968) (by decide)).2
  have hZ : Z < 36028797018963968 * 2 ^ σ := by
   rcases Nat.lt_or_ge Z (36028797018963968 * 2 ^ σ) with h | h
   ·exact h
   ·have := h2 h; omega
  have h6 := Nat.lt_of_lt_of_le hZ (ov_lo σ 1030 (by omega))
  generalize (2 ^ 54 - 1) * 2 ^ 1030 = V at h6 ⊢
  clear h2 hZ hov j3
  constructor
  ·rintro (h | h) <;> omega
  ·intro h
   omega
 ·have h2 := st_ge j3 (c := 36028797018963966) (by decide)
  have h4 := ov_mid σ 1030 (by rw [hc])
  rw [h4] at h2
  rw [← h2]
  constructor
  ·rintro (h | h)
   ·omega
   ·exact h.2
  ·intro h; exact .inr ⟨by omega, h⟩
 ·have h2 := (st_ge j3 (c := 18014398509481984) (by decide)).1 hm3
  have h3 := ov_hi σ 1030 (by omega)
  constructor
  ·intro _; have h9 := Nat.le_trans h3 h2; exact h9
  ·intro _; exact .inl (by omega)
theorem hexW_over {l : List UInt8} (h : HexOk l l.length) (h2 : 2 < l.length) : isInfB (hexW l) = true ↔ ovN ≤ hexNK l l.length := by
 obtain ⟨i1, ⟨r, i2, i3, i4, i5⟩, i6, i7⟩ := relX_at h l.length (by omega) (Nat.le_refl _)
 have hok := rxAt_ok h l.length (by omega) (Nat.le_refl _)
 unfold hexW
 generalize rxAt l l.length = R at *
 generalize hexNK l l.length = N at *
 obtain ⟨M, Nm, D, tr⟩ := R
 obtain ⟨⟨k1, k2, k3⟩, k4⟩ := hok
 simp only at *
 subst i1
 have hM64 : M < 18446744073709551616 := by
  have h5 : (16 : Nat) ^ min D 16 ≤ 16 ^ 16 := Nat.pow_le_pow_right (by decide) (by omega)
  have h6 : (16 : Nat) ^ 16 = 18446744073709551616 := by decide
  omega
 by_cases hM : M = 0
 ·have hD : D = 0 := by
   rcases Nat.eq_zero_or_pos D with h0 | h0
   ·exact h0
   ·have := i6 h0
    have hp : 0 < 16 ^ (min D 16 - 1) := Nat.pow_pos (by decide)
    omega
  have htr : tr = false := by cases tr; rfl; exact absurd (i5 rfl).2 (by omega)
  have hN : N = 0 := by rw [i2, hM, i4 htr]; omega
  rw [hM, htr, hN]
  simp only [ne_eq, not_true_eq_false, if_false, hxV_zero]
  have : 0 < ovN := by decide +kernel
  constructor
  ·intro h; cases h
  ·intro h; omega
 ·rw [if_pos hM]
  obtain ⟨c, hc⟩ : ∃ c, c = D - min D 16 := ⟨_, rfl⟩
  rw [← hc] at i2 i3
  have hp : 4 * (D : Int) - 4 * ((min D 16 : Nat) : Int) = ((4 * c : Nat) : Int) := by omega
  rw [hp]
  have e16 : (16 : Nat) ^ c = 2 ^ (4 * c) := by rw [show (16 : Nat) = 2 ^ 4 by decide, ← Nat.pow_mul]
  have hfin : ovN ≤ N ↔ ovN * 2 ^ 60 ≤ N * 2 ^ 60 := (Nat.mul_le_mul_right_iff (show 0 < 2 ^ 60 by decide)).symm
  rw [hfin]
  cases htr : tr
  ·have hr0 := i4 htr
   obtain ⟨j, j1, j2, j3⟩ := hx1_exact 54 M (((4 * c : Nat) : Int) + 52)
   have hsp := hx1_spec 54 M (((4 * c : Nat) : Int) + 52) (fun h0 => by
    have : 1 * 2 ^ 54 ≤ M * 2 ^ 54 := Nat.mul_le_mul_right _ (by omega)
    have e : (2 : Nat) ^ 54 = 18014398509481984 := by decide
    omega) hM64
   generalize hh : hx1 54 M (((4 * c : Nat) : Int) + 52) = q at *
   obtain ⟨m1, e1⟩ := q
   simp only at *
   have hm1 : m1 ≠ 0 := by rw [j3]; exact Nat.ne_of_gt (Nat.mul_pos (by omega) (Nat.pow_pos (by decide)))
   refine hxV_over (s := 4 * c + 60 - j) hh (by omega) ?_ (by show _ ≤ m1; exact hsp.2.1 hm1) (by show m1 < _; exact hsp.1)
   apply st_exact
   show N * 2 ^ 60 = m1 * 2 ^ (4 * c + 60 - j)
   rw [i2, hr0, Nat.add_zero, e16, j3, Nat.mul_assoc, Nat.mul_assoc, ← Nat.pow_add, ← Nat.pow_add]
   congr 2
   omega
  ·obtain ⟨r0, hD16⟩ := i5 htr
   have hbig := i6 (by omega)
   rw [show min D 16 - 1 = 15 by omega, show (16 : Nat) ^ 15 = 1152921504606846976 by decide] at hbig
   have hh := hx1_end (m := M) (by omega) (((4 * c : Nat) : Int) + 52) 54
   have ho := or_one_odd M
   have hle := or_one_le M
   have hge := or_one_ge M
   have hlt : M ||| 1 < 2 ^ 64 := Nat.or_lt_two_pow (by omega) (by decide)
   refine hxV_over (s := 4 * c + 60) hh (by omega) ?_ (by show _ ≤ M ||| 1; omega) (by show M ||| 1 < _; omega)
   show St (N * 2 ^ 60) (M ||| 1) (4 * c + 60)
   unfold St
   rw [if_neg (by omega), i2, e16, Nat.pow_add]
   rw [e16] at i3
   generalize 2 ^ (4 * c) = P at *
   have e60 : 0 < 2 ^ 60 := by decide
   generalize 2 ^ 60 = Q at *
   rw [← Nat.mul_assoc, ← Nat.mul_assoc, Nat.mul_lt_mul_right e60, Nat.mul_lt_mul_right e60]
   have g1 : ((M ||| 1) - 1) * P ≤ M * P := Nat.mul_le_mul_right _ (by omega)
   have g2 : (M + 1) * P ≤ ((M ||| 1) + 1) * P := Nat.mul_le_mul_right _ (by omega)
   rw [Nat.succ_mul] at g2
   omega
def stepN (a : Nat) (c : UInt8) : Option Nat :=
 if a = 8 ∧ isX c = true then some 9
 else if a = 9 ∨ a = 10 then (if hexd c = true then some 10 else none)
 else if digit c = true then (if a = 0 then (if c.toNat = 48 then some 8 else some 1) else if a = 1 ∨ a = 8 then some 1 else if a = 2 ∨ a = 3 ∨ a = 4 then some 4 else some 7)
 else if c.toNat = 46 then (if a = 0 then some 3 else if a = 1 ∨ a = 8 then some 2 else none)
 else if isE c = true then (if a = 1 ∨ a = 8 ∨ a = 2 ∨ a = 4 then some 5 else none)
 else if isPM c = true then (if a = 5 then some 6 else none)
 else none
def wholeB (a : Nat) : Bool := a == 1 || a == 8 || a == 2 || a == 4 || a == 7 || a == 10
def pf (a n i : Nat) : List UInt8 → Nat
 | [] => n
 |c :: r => match stepN a c with
  |none => n
  |some b => pf b (if wholeB b then i + 1 else n) (i + 1) r
theorem drop_atR {l : List UInt8} {i : Nat} (h : i < l.length) : l.drop i = atB l i :: l.drop (i + 1) := by
 rw [List.drop_eq_getElem_cons h]
 rw [show atB l i = l[i] by rw [atB, List.getD_eq_getElem?_getD, List.getElem?_eq_getElem h]; rfl]
theorem pf_none {l : List UInt8} {a n i : Nat} (h : i < l.length) (hs : stepN a (atB l i) = none) : pf a n i (l.drop i) = n := by
 rw [drop_atR h, pf, hs]
theorem pf_end {l : List UInt8} {a n i : Nat} (h : l.length ≤ i) : pf a n i (l.drop i) = n := by
 rw [List.drop_eq_nil_of_le h, pf]
theorem pf_some {l : List UInt8} {a n i b : Nat} (h : i < l.length) (hs : stepN a (atB l i) = some b) : pf a n i (l.drop i) = pf b (if wholeB b then i + 1 else n) (i + 1) (l.drop (i + 1)) := by
 rw [drop_atR h, pf, hs]
theorem span_yes {p : UInt8 → Bool} {l : List UInt8} {i : Nat} (h : i < l.length) (hp : p (atB l i) = true) : spanEnd p l i = spanEnd p l (i + 1) := by
 refine (spanEnd_step h ?_).symm
 rwa [show l[i] = atB l i by rw [atB, List.getD_eq_getElem?_getD, List.getElem?_eq_getElem h]; rfl]
theorem pf_hex (l : List UInt8) : ∀ d i, l.length - i = d → pf 10 i i (l.drop i) = spanEnd hexd l i
 | 0, i, h => by rw [pf_end (by omega), spanEnd_end (by omega)]
 |d + 1, i, h => by
  have hi : i < l.length := by omega
  cases hx : hexd (atB l i)
  ·rw [pf_none hi (by simp [stepN, hx]), spanEnd_self hi hx]
  ·rw [pf_some hi (b := 10) (by simp [stepN, hx]), span_yes hi hx]
   exact pf_hex l d (i + 1) (by omega)
theorem pf_power (l : List UInt8) : ∀ d i, l.length - i = d → pf 7 i i (l.drop i) = spanEnd digit l i
 | 0, i, h => by rw [pf_end (by omega), spanEnd_end (by omega)]
 |d + 1, i, h => by
  have hi : i < l.length := by omega
  cases hx : digit (atB l i)
  ·rw [pf_none hi (by simp [stepN, hx]), spanEnd_self hi hx]
  ·rw [pf_some hi (b := 7) (by simp [stepN, hx]), span_yes hi hx]
   exact pf_power l d (i + 1) (by omega)
theorem span_dec (l : List UInt8) (j : Nat) (h : j < l.length) (hd : digit (atB l j) = true) : j < spanEnd digit l j := by
 rw [span_yes h hd]
 have := spanEnd_ge digit l (j + 1)
 omega
theorem pf_sign {l : List UInt8} {n j : Nat} : pf 6 n j (l.drop j) = if j < spanEnd digit l j then spanEnd digit l j else n := by
 by_cases h : j < l.length
 ·cases hd : digit (atB l j)
  ·rw [pf_none h (by simp [stepN, hd]), spanEnd_self h hd, if_neg (by omega)]
  ·rw [pf_some h (b := 7) (by simp [stepN, hd]), if_pos (span_dec l j h hd)]
   show pf 7 (j + 1) (j + 1) _ = _
   rw [pf_power l _ (j + 1) rfl, span_yes h hd]
 ·rw [pf_end (by omega), spanEnd_end (by omega), if_neg (by omega)]
theorem isPM_cls : ∀ c : UInt8, isPM c = true → digit c = false ∧ (c.toNat = 46) = False ∧ isE c = false ∧ isX c = false := all_bytes (by decide +kernel)
theorem isE_cls : ∀ c : UInt8, isE c = true → digit c = false ∧ (c.toNat = 46) = False ∧ isX c = false := all_bytes (by decide +kernel)
theorem dot_cls : ∀ c : UInt8, c.toNat = 46 → digit c = false ∧ isE c = false ∧ isX c = false := all_bytes (by decide +kernel)
theorem isX_cls : ∀ c : UInt8, isX c = true → digit c = false ∧ (c.toNat = 46) = False ∧ isE c = false := all_bytes (by decide +kernel)
theorem pf_exp {l : List UInt8} {n i : Nat} (h : i < l.length) : pf 5 n (i + 1) (l.drop (i + 1)) = if expAt l i < spanEnd digit l (expAt l i) then spanEnd digit l (expAt l i) else n := by
 unfold expAt
 by_cases hp : i + 1 < l.length ∧ isPM (atB l (i + 1)) = true
 ·rw [if_pos hp]
  obtain ⟨h1, h2, h3, h4⟩ := isPM_cls _ hp.2
  rw [pf_some hp.1 (b := 6) (by simp [stepN, h1, h2, h3, h4, hp.2])]
  exact pf_sign
 ·rw [if_neg hp]
  by_cases hl : i + 1 < l.length
  ·have hpm : isPM (atB l (i + 1)) = false := by simpa using fun h => hp ⟨hl, h⟩
   cases hd : digit (atB l (i + 1))
   ·rw [spanEnd_self hl hd, if_neg (by omega)]
    refine pf_none hl ?_
    simp [stepN, hd, hpm]
   ·rw [pf_some hl (b := 7) (by simp [stepN, hd]), if_pos (span_dec l (i + 1) hl hd)]
    show pf 7 (i + 1 + 1) (i + 1 + 1) _ = _
    rw [pf_power l _ (i + 1 + 1) rfl, span_yes hl hd]
  ·rw [pf_end (by omega), spanEnd_end (by omega), if_neg (by omega)]
theorem pf_tail {l : List UInt8} {a i : Nat} (ha : a = 1 ∨ a = 8 ∨ a = 2 ∨ a = 4) (hd : i < l.length → digit (atB l i) = false) (hp : i < l.length → (atB l i).toNat = 46 → a = 2 ∨ a = 4) (hx : i < l.length → a = 8 → isX (atB l i) = false) : pf a i i (l.drop i) = expEnd l i := by
  unfold expEnd
  by_cases h : i < l.length
  · have h1 := hd h
    have h2 := hp h
    have h3 := hx h
    cases hE : isE (atB l i)
    · rw [if_pos (.inr rfl)]
      refine pf_none h ?_
      have e2 : ¬ (a = 9 ∨ a = 10) := by omega
      unfold stepN
      rw [if_neg (by rintro ⟨x, y⟩; rw [h3 x] at y; cases y), if_neg e2, h1, if_neg (by simp)]
      split
      · rename_i hdot
        have := h2 hdot
        rw [if_neg (by omega), if_neg (by omega)]
      · rw [hE, if_neg (by simp)]
        split
        · rw [if_neg (by omega)]
        · rfl
    · obtain ⟨_, e3, e4⟩ := isE_cls _ hE
      rw [if_neg (by rintro (x | x); · omega
                     · cases x)]
      rw [pf_some h (b := 5) (by
        unfold stepN
        rw [if_neg (by rintro ⟨_, y⟩; rw [e4] at y; cases y), if_neg (by omega), h1, if_neg (by simp), if_neg (by rw [e3]; exact id), hE, if_pos rfl, if_pos ha])]
      show pf 5 i (i + 1) _ = _
      exact pf_exp h
  · rw [if_pos (.inl (by omega)), pf_end (by omega)]
theorem pf_part (l : List UInt8) : ∀ d i, l.length - i = d → pf 4 i i (l.drop i) = expEnd l (spanEnd digit l i)
 | 0, i, h => by rw [spanEnd_end (by omega)]; exact pf_tail (by simp) (by omega) (by omega) (by omega)
 |d + 1, i, h => by
  have hi : i < l.length := by omega
  cases hx : digit (atB l i)
  ·rw [spanEnd_self hi hx]
   exact pf_tail (by simp) (fun _ => hx) (by simp) (by simp)
  ·rw [pf_some hi (b := 4) (by simp [stepN, hx]), span_yes hi hx]
   exact pf_part l d (i + 1) (by omega)
theorem pf_point (l : List UInt8) (i : Nat) : pf 2 i i (l.drop i) = expEnd l (spanEnd digit l i) := by
 by_cases hi : i < l.length
 ·cases hx : digit (atB l i)
  ·rw [spanEnd_self hi hx]
   exact pf_tail (by simp) (fun _ => hx) (by simp) (by simp)
  ·rw [pf_some hi (b := 4) (by simp [stepN, hx]), span_yes hi hx]
   exact pf_part l _ (i + 1) rfl
 ·rw [spanEnd_end (by omega)]; exact pf_tail (by simp) (by omega) (by omega) (by omega)
def wholeEnd (l : List UInt8) (k : Nat) : Nat := if k < l.length ∧ (atB l k).toNat = 46 then expEnd l (spanEnd digit l (k + 1)) else expEnd l k
theorem pf_stop {l : List UInt8} {a i : Nat} (ha : a = 1 ∨ a = 8) (hd : i < l.length → digit (atB l i) = false) (hx : i < l.length → a = 8 → isX (atB l i) = false) : pf a i i (l.drop i) = wholeEnd l i := by
 unfold wholeEnd
 by_cases hp : i < l.length ∧ (atB l i).toNat = 46
 ·rw [if_pos hp]
  obtain ⟨e1, e2, e3⟩ := dot_cls _ hp.2
  rw [pf_some hp.1 (b := 2) (by rcases ha with rfl | rfl <;> simp [stepN, e1, e3, hp.2])]
  exact pf_point l (i + 1)
 ·rw [if_neg hp]
  exact pf_tail (by omega) hd (fun h1 h2 => absurd ⟨h1, h2⟩ hp) hx
theorem pf_whole (l : List UInt8) : ∀ d i, l.length - i = d → pf 1 i i (l.drop i) = wholeEnd l (spanEnd digit l i)
 | 0, i, h => by rw [spanEnd_end (by omega)]; exact pf_stop (by simp) (by omega) (by omega)
 |d + 1, i, h => by
  have hi : i < l.length := by omega
  cases hx : digit (atB l i)
  ·rw [spanEnd_self hi hx]
   exact pf_stop (by simp) (fun _ => hx) (by simp)
  ·rw [pf_some hi (b := 1) (by simp [stepN, hx]), span_yes hi hx]
   exact pf_whole l d (i + 1) (by omega)
theorem decEnd_whole {l : List UInt8} (h : 0 < spanEnd digit l 0) : (if decEnd l = 0 then 0 else expEnd l (decEnd l)) = wholeEnd l (spanEnd digit l 0) := by
 unfold wholeEnd
 by_cases hp : spanEnd digit l 0 < l.length ∧ (atB l (spanEnd digit l 0)).toNat = 46
 ·have h2 := spanEnd_ge digit l (spanEnd digit l 0 + 1)
  have h5 : decEnd l = spanEnd digit l (spanEnd digit l 0 + 1) := by rw [decEnd, if_pos ⟨hp.1, hp.2, h⟩]
  rw [h5, if_pos hp, if_neg (by omega)]
 ·have h5 : decEnd l = spanEnd digit l 0 := by rw [decEnd, if_neg (by rintro ⟨a, b, _⟩; exact hp ⟨a, b⟩), if_neg (by omega)]
  rw [h5, if_neg hp, if_neg (by omega)]
theorem pf_numPrefix (l : List UInt8) : pf 0 0 0 l = numPrefix l := by
 have hl0 : pf 0 0 0 l = pf 0 0 0 (l.drop 0) := rfl
 rw [hl0]
 by_cases h0 : 0 < l.length
 ·cases hd : digit (atB l 0)
  ·have hs : spanEnd digit l 0 = 0 := spanEnd_self h0 hd
   have hh : hexHead l = false := by
    unfold hexHead
    have : ((atB l 0).toNat == 48) = false := by
     rw [beq_eq_false_iff_ne]
     intro h
     have : digit (atB l 0) = true := by simp [digit, h]
     rw [hd] at this; cases this
    rw [this, Bool.and_false, Bool.false_and, Bool.false_and]
   rw [numPrefix, hh, if_neg (by simp)]
   by_cases hp : (atB l 0).toNat = 46
   ·obtain ⟨e1, e2, e3⟩ := dot_cls _ hp
    rw [pf_some h0 (b := 3) (by simp [stepN, e1, hp])]
    show pf 3 0 1 (l.drop 1) = _
    by_cases h1 : 1 < l.length
    ·cases hd1 : digit (atB l 1)
     ·rw [pf_none h1 (by unfold stepN; simp only [hd1]; simp; repeat' split <;> simp_all)]
      have h5 : decEnd l = 0 := by
       rw [decEnd, hs, if_neg (by omega), if_neg (by rintro ⟨_, _, _, h⟩; rw [hd1] at h; cases h)]
      rw [h5, if_pos rfl]
     ·rw [pf_some h1 (b := 4) (by simp [stepN, hd1])]
      show pf 4 2 2 (l.drop 2) = _
      rw [pf_part l _ 2 rfl]
      have h5 : decEnd l = spanEnd digit l 1 := by
       rw [decEnd, hs, if_neg (by omega), if_pos ⟨rfl, h1, hp, hd1⟩]
      have h6 := span_dec l 1 h1 hd1
      rw [h5, if_neg (by omega), span_yes h1 hd1]
    ·have h5 : decEnd l = 0 := by rw [decEnd, hs, if_neg (by omega), if_neg (by omega)]
     rw [pf_end (by omega), h5, if_pos rfl]
   ·have h5 : decEnd l = 0 := by rw [decEnd, hs, if_neg (by omega), if_neg (by rintro ⟨_, _, h, _⟩; exact hp h)]
    rw [h5, if_pos rfl]
    refine pf_none h0 ?_
    unfold stepN
    rw [if_neg (by omega), if_neg (by omega), hd, if_neg (by simp), if_neg hp]
    split
    ·rw [if_neg (by omega)]
    ·split
     ·rw [if_neg (by omega)]
     ·rfl
  ·have hs1 := span_dec l 0 h0 hd
   have hsy := span_yes h0 hd
   by_cases hz : (atB l 0).toNat = 48
   ·rw [pf_some h0 (b := 8) (by simp [stepN, hd, hz])]
    show pf 8 1 1 (l.drop 1) = _
    by_cases hX : 1 < l.length ∧ isX (atB l 1) = true
    ·obtain ⟨x1, x2, x3⟩ := isX_cls _ hX.2
     rw [pf_some hX.1 (b := 9) (by simp [stepN, hX.2])]
     show pf 9 1 2 (l.drop 2) = _
     have hs2 : spanEnd digit l 0 = 1 := by rw [hsy, spanEnd_self hX.1 x1]
     by_cases hh : hexHead l = true
     ·have hh' := hh
      simp [hexHead] at hh'
      rw [numPrefix, if_pos hh, pf_some hh'.1.1.1 (b := 10) (by simp [stepN, hh'.2])]
      show pf 10 3 3 (l.drop 3) = _
      rw [pf_hex l _ 3 rfl, span_yes hh'.1.1.1 hh'.2]
     ·rw [numPrefix, if_neg hh, decEnd_whole (by omega), hs2]
      have hn : pf 9 1 2 (l.drop 2) = 1 := by
       by_cases h2 : 2 < l.length
       ·refine pf_none h2 ?_
        have hx2 : hexd (atB l 2) = false := by
         rw [← Bool.not_eq_true]
         intro h
         exact hh (by simp [hexHead, h2, hz, hX.2, h])
        simp [stepN, hx2]
       ·exact pf_end (by omega)
      rw [hn, wholeEnd, if_neg (by rw [x2]; simp), expEnd, if_pos (.inr x3)]
    ·have hh : ¬ hexHead l = true := by
      intro h
      simp [hexHead] at h
      exact hX ⟨by omega, h.1.2⟩
     rw [numPrefix, if_neg hh, decEnd_whole hs1, hsy]
     by_cases h1 : 1 < l.length
     ·have hX' : isX (atB l 1) = false := by simpa using fun h => hX ⟨h1, h⟩
      cases hd1 : digit (atB l 1)
      ·show pf 8 1 1 (l.drop 1) = wholeEnd l (spanEnd digit l 1)
       rw [spanEnd_self h1 hd1]
       exact pf_stop (by simp) (fun _ => hd1) (fun _ _ => hX')
      ·rw [pf_some h1 (b := 1) (by simp [stepN, hd1, hX'])]
       show pf 1 2 2 (l.drop 2) = wholeEnd l (spanEnd digit l 1)
       rw [pf_whole l _ 2 rfl, span_yes h1 hd1]
     ·show pf 8 1 1 (l.drop 1) = wholeEnd l (spanEnd digit l 1)
      rw [spanEnd_end (by omega)]
      exact pf_stop (by simp) (by omega) (by omega)
   ·have hh : ¬ hexHead l = true := by
     intro h
     simp [hexHead] at h
     exact hz h.1.1.2
    rw [numPrefix, if_neg hh, decEnd_whole hs1, hsy, pf_some h0 (b := 1) (by simp [stepN, hd, hz])]
    exact pf_whole l _ 1 rfl
 ·have : l = [] := List.length_eq_zero_iff.1 (by omega)
  subst this
  rfl
end Go.Proofs.YtpkeonafcldkhaaGreatDoor
