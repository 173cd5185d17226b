import Derived.Test.YtpkeonafcldkhaaGreatDoorM18
import Derived.Deep.Cut
import Derived.Deep.RegionLaw
import Derived.BigRegion
import Derived.Deep.RegionHeld3
import Derived.Deep.QuietTactic
import Derived.BigQuiet
import Derived.Test.YtpkeonafcldkhaaGreatDoorM04
import Derived.Test.YtpkeonafcldkhaaGreatDoorM05
/- strconv: prescale, uscale, parseFloat64. -/
set_option linter.unusedVariables false
set_option linter.unusedSimpArgs false
namespace Go.Proofs.YtpkeonafcldkhaaGreatDoor
open Go.RowKit

set_option maxRecDepth 100000 in
theorem fp_prescale (b : Nat) (e p l : Int) (x0 x1 x2 : Value) (i : Nat) (hi : p = (i : Int) - 348) (hi2 : i < 696) (he : -5000 ≤ e ∧ e ≤ 5000) (hl : -5000 ≤ l ∧ l ≤ 5000) (w : World) (hb : Blk w b 199 #[x0, x1, x2]) (H L : Nat)
    (c0 : w.cell? ⟨10, i * 2, none⟩ = some (.int .u64 (H : Int))) (c1 : w.cell? ⟨10, i * 2 + 1, none⟩ = some (.int .u64 (L : Int))) (hg : b ≠ 10) :
    Calls Tryz.prog 163 #[.pointer (some ⟨b, 0, none⟩), .int .i64 e, .int .i64 p, .int .i64 l] w fun e' w' => e' = .returned (.tuple #[]) ∧ Blk w' b 199 #[.int .u64 (H : Int), .int .u64 (L : Int), .int .i64 (-(e + l + 3))] ∧ Below b w w' := by
  have h1 : IntKind.i64.wrap (p - -348) = (i : Int) := by rw [IntKind.wrap_i64]; omega
  have f0 := hb.frozen 0
  have f1 := hb.frozen 1
  have f2 := hb.frozen 2
  have d0 : w.cell? ⟨b, 0, none⟩ = some x0 := by rw [hb.cell]; rfl
  have d1 : w.cell? ⟨b, 1, none⟩ = some x1 := by rw [hb.cell]; rfl
  have d2 : w.cell? ⟨b, 2, none⟩ = some x2 := by rw [hb.cell]; rfl
  go_enter Tryz.func163, Tryz.ntmps163
  go_wp2_with fail
  go_end0
  refine ⟨rfl, ?_, ?_⟩
  · have := ((hb.set_ 0 (.int .u64 (H : Int))).set_ 1 (.int .u64 (L : Int))).set_ 2 (.int .i64 (-(e + l + 3)))
    simpa using this
  · exact (((Below.refl b w).setCell (p := ⟨b, 0, none⟩) (Nat.le_refl _) _).setCell (p := ⟨b, 1, none⟩) (Nat.le_refl _) _).setCell (p := ⟨b, 2, none⟩) (Nat.le_refl _) _
theorem and63F : ∀ s : Fin 64, bits .and .i64 (s.val : Int) 63 = (s.val : Int) := by decide +kernel
/-- uscale's words by hi, mid and m2. -/
def uscaleT (hi mid m2 s : Nat) : Nat :=
  if hi / 2 ^ s * 2 ^ s ≠ hi then hi / 2 ^ s ||| 1 else (hi - (if mid < m2 then 1 else 0)) / 2 ^ s ||| (if 1 < (mid + 18446744073709551616 - m2) % 18446744073709551616 then 1 else 0)
theorem uscale_T (x H L s : Nat) : uscaleN x H L s = uscaleT (x * H / 18446744073709551616) (x * H % 18446744073709551616) (x * L / 18446744073709551616) s := rfl
theorem uscaleT_big {hi mid m2 s : Nat} (h : hi / 2 ^ s * 2 ^ s ≠ hi) : uscaleT hi mid m2 s = (hi / 2 ^ s ||| 1) := by rw [uscaleT, if_pos h]
theorem uscaleT_fine {hi mid m2 s : Nat} (h : hi / 2 ^ s * 2 ^ s = hi) {t k : Nat} (ht : t = if mid < m2 then 1 else 0) (hk : k = if 1 < (mid + 18446744073709551616 - m2) % 18446744073709551616 then 1 else 0) :
    uscaleT hi mid m2 s = ((hi - t) / 2 ^ s ||| k) := by rw [uscaleT, if_neg (fun h2 => h2 h), ht, hk]
theorem div_pow_int (a s : Nat) (hs : s < 64) : ((a : Int) / 2 ^ min s 64) = ((a / 2 ^ s : Nat) : Int) := by
  rw [show min s 64 = s by omega]; simp
theorem mul_pow_int (a s : Nat) (hs : s < 64) (h : a * 2 ^ s < 18446744073709551616) : IntKind.u64.wrap ((a : Int) * 2 ^ min s 64) = ((a * 2 ^ s : Nat) : Int) := by
  rw [show min s 64 = s by omega, IntKind.wrap_u64]
  have : (a : Int) * 2 ^ s = ((a * 2 ^ s : Nat) : Int) := by simp
  rw [this]
  omega
set_option maxRecDepth 100000 in
theorem fp_uscaleT (x b H L s hi mid m2 l2 : Nat) (hhi : 1 ≤ hi) (hhi2 : hi < 18446744073709551616) (hmid : mid < 18446744073709551616) (hm2 : m2 < 18446744073709551616) (hs : s < 64) (w : World) (hb : Blk w b 199 #[.int .u64 (H : Int), .int .u64 (L : Int), .int .i64 (s : Int)])
    (hA : ∀ w, Calls Tryz.prog 173 #[.int .u64 (x : Int), .int .u64 (H : Int)] w fun e w' => e = .returned (.tuple #[.int .u64 (hi : Int), .int .u64 (mid : Int)]) ∧ w' = w)
    (hB : ∀ w, Calls Tryz.prog 173 #[.int .u64 (x : Int), .int .u64 (L : Int)] w fun e w' => e = .returned (.tuple #[.int .u64 (m2 : Int), .int .u64 (l2 : Int)]) ∧ w' = w) :
    Calls Tryz.prog 164 #[.int .u64 (x : Int), .pointer (some ⟨b, 0, none⟩)] w fun e' w' => e' = .returned (.int .u64 (uscaleT hi mid m2 s : Nat)) ∧ w'.heap = w.heap ∧ Below w.heap.size w w' := by
  have d0 : w.cell? ⟨b, 0, none⟩ = some (.int .u64 (H : Int)) := by rw [hb.cell]; rfl
  have d1 : w.cell? ⟨b, 1, none⟩ = some (.int .u64 (L : Int)) := by rw [hb.cell]; rfl
  have d2 : w.cell? ⟨b, 2, none⟩ = some (.int .i64 (s : Int)) := by rw [hb.cell]; rfl
  have h63 : bits .and .i64 (s : Int) 63 = (s : Int) := and63F ⟨s, hs⟩
  have e1 := div_pow_int hi s hs
  have hle : hi / 2 ^ s * 2 ^ s ≤ hi := Nat.div_mul_le_self _ _
  have e2 := mul_pow_int (hi / 2 ^ s) s hs (by omega)
  have hA1 : hi / 2 ^ s ≤ hi := Nat.div_le_self _ _
  by_cases hne : hi / 2 ^ s * 2 ^ s ≠ hi
  · have b0 : (((hi / 2 ^ s * 2 ^ s : Nat) : Int) != (hi : Int)) = true := by
      have : ¬ ((hi / 2 ^ s * 2 ^ s : Nat) : Int) = (hi : Int) := by omega
      simpa [bne_iff_ne] using this
    have o1 : bits .or .u64 ((hi / 2 ^ s : Nat) : Int) 1 = ((hi / 2 ^ s ||| 1 : Nat) : Int) := u64_or_nat (hi / 2 ^ s) 1 (by omega) (by omega)
    have hT := uscaleT_big (mid := mid) (m2 := m2) hne
    generalize hi / 2 ^ s * 2 ^ s = B at *
    generalize hi / 2 ^ s = A at *
    rw [hT]
    generalize (A ||| 1) = C at *
    clear hhi hhi2 hmid hm2 hs hT hne hle hA1
    go_enter Tryz.func164, Tryz.ntmps164
    go_wp2_with fail
    refine (hA _).mono ?_
    rintro e w' ⟨rfl, rfl⟩
    go_wp2_with fail
    go_ret
    exact ⟨rfl, rfl, Below.refl _ _⟩
  · have heq : hi / 2 ^ s * 2 ^ s = hi := by simpa using hne
    have b0 : (((hi / 2 ^ s * 2 ^ s : Nat) : Int) != (hi : Int)) = false := by rw [heq]; simp
    obtain ⟨t, ht⟩ : ∃ t : Nat, t = if mid < m2 then 1 else 0 := ⟨_, rfl⟩
    obtain ⟨D, hD⟩ : ∃ D, D = (mid + 18446744073709551616 - m2) % 18446744073709551616 := ⟨_, rfl⟩
    obtain ⟨k, hk⟩ : ∃ k : Nat, k = if 1 < D then 1 else 0 := ⟨_, rfl⟩
    have ht1 : t ≤ 1 := by rw [ht]; split <;> simp
    have hk1 : k ≤ 1 := by rw [hk]; split <;> simp
    have hT : uscaleT hi mid m2 s = ((hi - t) / 2 ^ s ||| k) := uscaleT_fine heq ht (by rw [← hD]; exact hk)
    have e3 : IntKind.u64.wrap ((hi : Int) - (t : Int)) = ((hi - t : Nat) : Int) := by rw [IntKind.wrap_u64]; omega
    have e4 : IntKind.u64.wrap ((mid : Int) - (m2 : Int)) = (D : Int) := by rw [IntKind.wrap_u64]; omega
    have e5 := div_pow_int (hi - t) s hs
    have hA2 : (hi - t) / 2 ^ s ≤ hi - t := Nat.div_le_self _ _
    have o1 : bits .or .u64 (((hi - t) / 2 ^ s : Nat) : Int) (k : Int) = (((hi - t) / 2 ^ s ||| k : Nat) : Int) := u64_or_nat _ _ (by omega) (by omega)
    have t1 : ∀ [inst : Decidable (mid < m2)], (if @decide _ inst = true then (1 : Int) else 0) = (t : Int) := by
      intro inst
      by_cases hlt : mid < m2
      · rw [ht, if_pos hlt, if_pos (decide_eq_true hlt)]; rfl
      · rw [ht, if_neg hlt, if_neg (by rw [decide_eq_false hlt]; simp)]; rfl
    have t2 : ∀ [inst : Decidable ((1 : Int) < (D : Int))], (@ite Int ((1 : Int) < (D : Int)) inst 1 0) = (k : Int) := by
      intro inst
      by_cases hlt : 1 < D
      · rw [hk, if_pos hlt, if_pos (by omega)]; rfl
      · rw [hk, if_neg hlt, if_neg (by omega)]; rfl
    rw [hT]
    generalize hi / 2 ^ s * 2 ^ s = B at *
    generalize hi / 2 ^ s = A at *
    generalize ((hi - t) / 2 ^ s ||| k) = C at *
    generalize (hi - t) / 2 ^ s = A2 at *
    generalize hi - t = h' at *
    clear hhi hhi2 hmid hm2 hs hT hne hle hA1 heq ht hD hk ht1 hk1 hA2
    go_enter Tryz.func164, Tryz.ntmps164
    go_wp2_with fail
    refine (hA _).mono ?_
    rintro e w' ⟨rfl, rfl⟩
    go_wp2_with fail
    refine (hB _).mono ?_
    rintro e w' ⟨rfl, rfl⟩
    go_wp2_with fail
    refine (fp_bool2 _ _).mono ?_
    rintro e w' ⟨rfl, rfl⟩
    rw [t1]
    go_wp2_with fail
    go_quiet ((go_at_call 151; exact Calls.quiet_of_same ((fp_bool2 _ _).mono fun _ _ ⟨h1, h2⟩ => ⟨h1, h2.symm⟩)))
    go_wp2_with fail
    all_goals
      go_ret
      exact ⟨rfl, rfl, below_drewN (Below.refl _ _) _⟩
theorem fp_uscale (x b H L s : Nat) (hx : x < 18446744073709551616) (hH : H < 18446744073709551616) (hL : L < 18446744073709551616) (hs : s < 64) (hge : 18446744073709551616 ≤ x * H) (w : World) (hb : Blk w b 199 #[.int .u64 (H : Int), .int .u64 (L : Int), .int .i64 (s : Int)]) :
    Calls Tryz.prog 164 #[.int .u64 (x : Int), .pointer (some ⟨b, 0, none⟩)] w fun e' w' => e' = .returned (.int .u64 (uscaleN x H L s : Nat)) ∧ w'.heap = w.heap ∧ Below w.heap.size w w' := by
  have h1 : x * H < 18446744073709551616 * 18446744073709551616 := Nat.mul_lt_mul'' hx hH
  have h2 : x * L < 18446744073709551616 * 18446744073709551616 := Nat.mul_lt_mul'' hx hL
  rw [uscale_T]
  exact fp_uscaleT x b H L s _ _ _ (x * L % 18446744073709551616) ((Nat.le_div_iff_mul_le (by omega)).2 (by omega)) ((Nat.div_lt_iff_lt_mul (by omega)).2 h1) (Nat.mod_lt _ (by omega)) ((Nat.div_lt_iff_lt_mul (by omega)).2 h2) hs w hb
    (fun w => Tryz.bits_Mul64 x H hx hH w) (fun w => Tryz.bits_Mul64 x L hx hL w)
theorem bitLen_log2 : ∀ (d : Nat), 0 < d → d < 18446744073709551616 → Lib.bitLen d = d.log2 + 1 := by
  intro d
  induction d using Nat.strongRecOn with
  | _ d ih =>
    intro h0 h1
    rw [Lib.bitLen_half d (by omega) (by omega)]
    by_cases h : d < 2
    · have : d = 1 := by omega
      subst this; rfl
    · have h2 := Nat.log2_def d
      rw [if_pos (by omega)] at h2
      rw [ih (d / 2) (by omega) (by omega) (by omega), h2]
      omega
end Go.Proofs.YtpkeonafcldkhaaGreatDoor
/- strconv: parseFloat64. -/
set_option linter.unusedVariables false
set_option linter.unusedSimpArgs false
namespace Go.Proofs.YtpkeonafcldkhaaGreatDoor
open Go.RowKit

theorem pow10_rows : ∀ r ∈ Pinned.pow10Rows, 9223372036854775808 ≤ r.1 ∧ r.1 < 18446744073709551616 ∧ r.2 < 18446744073709551616 := by decide +kernel
theorem pow10_len : Pinned.pow10Rows.length = 696 := by decide +kernel
theorem pow10_fits (p : Int) (hp : -345 ≤ p ∧ p ≤ 310) : 9223372036854775808 ≤ powHi p ∧ powHi p < 18446744073709551616 ∧ powLo p < 18446744073709551616 := by
  have hi : (p + 348).toNat < Pinned.pow10Rows.length := by rw [pow10_len]; omega
  have hm := pow10_rows _ (List.getElem_mem hi)
  unfold powHi powLo
  rw [List.getD_eq_getElem?_getD, List.getElem?_eq_getElem hi]
  exact hm
theorem pack_in {m : Nat} {e : Int} (h : m < 9007199254740993) : m < 9223372036854775808 := by omega
set_option maxRecDepth 100000 in
set_option maxHeartbeats 1000000 in
theorem fp_parse64T (d B b sh s : Nat) (p l E S : Int) (H L x u : Nat) (hd : d < 18446744073709551616) (w : World)
    (hlen : Lib.bitLen d = B) (hp : -345 ≤ p ∧ p ≤ 310) (hl : log2P p = l)
    (w1 : wrap64 (53 - (B : Int)) = 53 - (B : Int)) (w2 : wrap64 (53 - (B : Int) - l) = 53 - (B : Int) - l) (hE : min 1074 (53 - (B : Int) - l) = E) (w3 : wrap64 (64 - (B : Int)) = (sh : Int)) (w4 : wrap64 (E - (sh : Int)) = E - (sh : Int))
    (hS : -(E - (sh : Int) + l + 3) = S) (hEb : -5000 ≤ E - (sh : Int) ∧ E - (sh : Int) ≤ 5000) (hlb : -5000 ≤ l ∧ l ≤ 5000)
    (i : Nat) (hi : p = (i : Int) - 348) (hi2 : i < 696) (hg : 10 < w.heap.size)
    (c0 : w.cell? ⟨10, i * 2, none⟩ = some (.int .u64 (H : Int))) (c1 : w.cell? ⟨10, i * 2 + 1, none⟩ = some (.int .u64 (L : Int))) (hs : S < 64) (hub : u < 144115188075855872) (hE1 : -2000 ≤ E ∧ E ≤ 1074) (hsS : S = (s : Int))
    (hx : IntKind.u64.wrap ((d : Int) * 2 ^ min sh 64) = (x : Int)) (hu : ∀ b w, Blk w b 199 #[.int .u64 (H : Int), .int .u64 (L : Int), .int .i64 (s : Int)] → Calls Tryz.prog 164 #[.int .u64 (x : Int), .pointer (some ⟨b, 0, none⟩)] w fun e' w' => e' = .returned (.int .u64 (u : Int)) ∧ w'.heap = w.heap ∧ Below w.heap.size w w') :
    Calls Tryz.prog 154 #[.int .u64 (d : Int), .int .i64 p, .int .u64 0] w fun e' w' => e' = .returned (.tuple #[.float .f64 (packB (pfM u) (-(E - (pfT u : Int)))), rngV (packRng (pfM u) (-(E - (pfT u : Int))))]) ∧ Below w.heap.size w w' := by
  have HL := Lib.hid hlen
  have HLL := Lib.hid hl
  have HS := Lib.hid hS
  have HI := Lib.hid hi
  have HSS := Lib.hid hsS
  have HD := Lib.hid hd
  have HE := Lib.hid hEb
  have HU := Lib.hid hu
  have HUB := Lib.hid hub
  have HE1 := Lib.hid hE1
  clear hlen hl hi hS hsS hd hEb hu hub hE1
  go_enter Tryz.func154, Tryz.ntmps154
  go_wp2_with fail
  refine (Tryz.bits_Len64 d _ (by omega) (by have := HD.out; omega)).mono ?_
  rintro e w' ⟨rfl, rfl⟩
  rw [Int.toNat_natCast, HL.out]
  go_wp2_with fail
  refine (fp_log2Pow10 p (by omega) _).mono ?_
  rintro e w' ⟨rfl, rfl⟩
  rw [HLL.out]
  go_wp2_with fail
  have hb0 := Blk.new w' 199 #[.int .u64 0, .int .u64 0, .int .i64 0]
  have hB0 := (Below.refl w'.heap.size w').alloc (Nat.le_refl _) (.cells #[.int .u64 0, .int .u64 0, .int .i64 0] 199)
  refine (fp_prescale w'.heap.size (E - (sh : Int)) p l _ _ _ i HI.out hi2 HE.out hlb _ hb0 H L ((hB0.cell hg).trans c0) ((hB0.cell hg).trans c1) (by omega)).mono ?_
  rintro e w2 ⟨rfl, hb2, hB2⟩
  rw [HS.out, HSS.out] at hb2
  have hs64 : ((64 : Int) ≤ (s : Int)) = False := by have := HSS.out; simp; omega
  have d2 : w2.cell? ⟨w'.heap.size, 2, none⟩ = some (.int .i64 (s : Int)) := by rw [hb2.cell]; rfl
  have HB0 := Lib.hid (hB0.trans hB2)
  have HB2 := Lib.hid hb2
  clear hB0 hB2 hb0 hb2
  go_wp2_with fail
  refine (HU.out _ _ HB2.out).mono ?_
  rintro e w3 ⟨rfl, hh, hb3⟩
  have HB3 := Lib.hid hb3
  clear hh hb3
  go_wp2_with fail
  refine (fp_unmin _).mono ?_
  rintro e w4 ⟨rfl, rfl⟩
  go_wp2_with fail
  refine (Tryz.internal_strconv_bool2_int _ _).mono ?_
  rintro e w4 ⟨rfl, rfl⟩
  have hT : ∀ [inst : Decidable ((36028797018963966 : Int) ≤ (u : Int))], (if @decide _ inst = true then (1 : Int) else 0) = (pfT u : Int) := by
    intro inst
    unfold pfT
    by_cases hlt : 36028797018963966 ≤ u
    · rw [if_pos hlt, if_pos (decide_eq_true (by omega))]; rfl
    · rw [if_neg hlt, if_neg (by rw [decide_eq_false (by omega)]; simp)]; rfl
  have hub := HUB.out
  have hE1 := HE1.out
  have ht1 : pfT u ≤ 1 := by unfold pfT; split <;> simp
  rw [hT]
  obtain ⟨m, hm⟩ : ∃ m, m = pfM u := ⟨_, rfl⟩
  have hmM : m = roundU (u / 2 ^ pfT u ||| (u &&& 1)) := hm
  obtain ⟨t, htt⟩ : ∃ t, t = pfT u := ⟨_, rfl⟩
  rw [← htt] at hmM ht1 ⊢
  have HM := Lib.hid hm
  have HTT := Lib.hid htt
  clear hT hm htt
  obtain ⟨a, ha⟩ : ∃ a, a = u / 2 ^ t := ⟨_, rfl⟩
  have ha1 : a ≤ u := by rw [ha]; exact Nat.div_le_self _ _
  have f1 : ((u : Int) / 2 ^ min t 64) = (a : Int) := by rw [ha]; exact div_pow_int u t (by omega)
  obtain ⟨u2, hu2⟩ : ∃ u2, u2 = (a ||| (u &&& 1)) := ⟨_, rfl⟩
  rw [← ha, ← hu2] at hmM
  have hlt57 : u2 < 144115188075855872 := by
    rw [hu2]
    exact Nat.or_lt_two_pow (n := 57) (by omega) (by have := Nat.and_le_left (n := u) (m := 1); omega)
  have hmb : m < 9223372036854775808 := by
    have h2 : (u2 / 4 &&& 1) ≤ 1 := Nat.and_le_right
    rw [hmM, roundU]; omega
  have f2 : bits .or .u64 (a : Int) (bits .and .u64 (u : Int) 1) = (u2 : Int) := by
    rw [show bits .and .u64 (u : Int) 1 = ((u &&& 1 : Nat) : Int) from u64_and_nat u 1 (by omega) (by omega), u64_or_nat a (u &&& 1) (by omega) (by have := Nat.and_le_left (n := u) (m := 1); omega), hu2]
  have f3 : wrap64 (E - (t : Int)) = E - (t : Int) := by unfold wrap64; omega
  have f4 : bits .or .u64 0 (m : Int) = (m : Int) := by
    have := u64_or_nat 0 m (by omega) (by omega)
    rw [Nat.zero_or] at this
    exact this
  have f5 : wrap64 (-(E - (t : Int))) = -(E - (t : Int)) := by unfold wrap64; omega
  have HMM := Lib.hid hmM
  have HLT := Lib.hid hlt57
  have HMB := Lib.hid hmb
  have HT1 := Lib.hid ht1
  clear hmM hu2 ha hlt57 hmb ha1 hub ht1 hE1
  go_wp2_with fail
  refine (fp_round u2 (by have := HLT.out; omega) _).mono ?_
  rintro e w5 ⟨rfl, rfl⟩
  rw [← HMM.out]
  go_wp2_with fail
  refine (fp_pack64 m (-(E - (t : Int))) HMB.out (by have := HE1.out; have := HT1.out; omega) _).mono ?_
  rintro e w5 ⟨rfl, rfl⟩
  go_wp2_with fail
  go_ret2
  rw [← HM.out, ← HTT.out]
  exact ⟨rfl, HB0.out.trans (HB3.out.mono HB0.out.size)⟩
set_option maxRecDepth 100000 in
set_option maxHeartbeats 1000000 in
theorem fp_parse64Z (d B sh : Nat) (p l E S : Int) (H L : Nat) (hd : d < 18446744073709551616) (w : World)
    (hlen : Lib.bitLen d = B) (hp : -345 ≤ p ∧ p ≤ 310) (hl : log2P p = l)
    (w1 : wrap64 (53 - (B : Int)) = 53 - (B : Int)) (w2 : wrap64 (53 - (B : Int) - l) = 53 - (B : Int) - l) (hE : min 1074 (53 - (B : Int) - l) = E) (w3 : wrap64 (64 - (B : Int)) = (sh : Int)) (w4 : wrap64 (E - (sh : Int)) = E - (sh : Int))
    (hS : -(E - (sh : Int) + l + 3) = S) (hEb : -5000 ≤ E - (sh : Int) ∧ E - (sh : Int) ≤ 5000) (hlb : -5000 ≤ l ∧ l ≤ 5000)
    (i : Nat) (hi : p = (i : Int) - 348) (hi2 : i < 696) (hg : 10 < w.heap.size)
    (c0 : w.cell? ⟨10, i * 2, none⟩ = some (.int .u64 (H : Int))) (c1 : w.cell? ⟨10, i * 2 + 1, none⟩ = some (.int .u64 (L : Int))) (hs : 64 ≤ S) :
    Calls Tryz.prog 154 #[.int .u64 (d : Int), .int .i64 p, .int .u64 0] w fun e' w' => e' = .returned (.tuple #[.float .f64 0, .nilIface]) ∧ Below w.heap.size w w' := by
  have HL := Lib.hid hlen
  have HLL := Lib.hid hl
  have HS := Lib.hid hS
  have HI := Lib.hid hi
  have HD := Lib.hid hd
  have HE := Lib.hid hEb
  clear hlen hl hi hS hd hEb
  go_enter Tryz.func154, Tryz.ntmps154
  go_wp2_with fail
  refine (Tryz.bits_Len64 d _ (by omega) (by have := HD.out; omega)).mono ?_
  rintro e w' ⟨rfl, rfl⟩
  rw [Int.toNat_natCast, HL.out]
  go_wp2_with fail
  refine (fp_log2Pow10 p (by omega) _).mono ?_
  rintro e w' ⟨rfl, rfl⟩
  rw [HLL.out]
  go_wp2_with fail
  have hb0 := Blk.new w' 199 #[.int .u64 0, .int .u64 0, .int .i64 0]
  have hB0 := (Below.refl w'.heap.size w').alloc (Nat.le_refl _) (.cells #[.int .u64 0, .int .u64 0, .int .i64 0] 199)
  refine (fp_prescale w'.heap.size (E - (sh : Int)) p l _ _ _ i HI.out hi2 HE.out hlb _ hb0 H L ((hB0.cell hg).trans c0) ((hB0.cell hg).trans c1) (by omega)).mono ?_
  rintro e w2 ⟨rfl, hb2, hB2⟩
  rw [HS.out] at hb2
  have d2 : w2.cell? ⟨w'.heap.size, 2, none⟩ = some (.int .i64 S) := by rw [hb2.cell]; rfl
  have f4 : bits .or .u64 0 0 = 0 := by decide +kernel
  have HB0 := Lib.hid (hB0.trans hB2)
  clear hB0 hB2 hb0 hb2
  go_wp2_with fail
  rw [run_frombits]
  rw [Oper.upon_value]
  go_wp2_with fail
  go_ret2
  exact ⟨rfl, HB0.out⟩
theorem shl_norm (d : Nat) (h0 : 0 < d) (h : d < 18446744073709551616) : 9223372036854775808 ≤ d * 2 ^ (63 - d.log2) ∧ d * 2 ^ (63 - d.log2) < 18446744073709551616 := by
  have h1 : d.log2 < 64 := (Nat.log2_lt (by omega)).2 (by omega)
  have h2 : 2 ^ d.log2 ≤ d := Nat.log2_self_le (by omega)
  have h3 : d < 2 ^ (d.log2 + 1) := Nat.lt_log2_self
  have h4 : 2 ^ d.log2 * 2 ^ (63 - d.log2) = 9223372036854775808 := by rw [← Nat.pow_add, show d.log2 + (63 - d.log2) = 63 by omega]
  have h5 : 2 ^ (d.log2 + 1) * 2 ^ (63 - d.log2) = 18446744073709551616 := by rw [← Nat.pow_add, show d.log2 + 1 + (63 - d.log2) = 64 by omega]
  have h6 : 0 < 2 ^ (63 - d.log2) := Nat.two_pow_pos _
  constructor
  · rw [← h4]; exact Nat.mul_le_mul_right _ h2
  · rw [← h5]; exact Nat.mul_lt_mul_of_pos_right h3 h6
theorem log2P_fits (p : Int) (hp : -345 ≤ p ∧ p ≤ 310) : -1200 ≤ log2P p ∧ log2P p ≤ 1100 := by unfold log2P; omega
theorem uscaleN_lt (x H L s : Nat) (hx : x < 18446744073709551616) (hH : H < 18446744073709551616) (hs : 8 ≤ s) : uscaleN x H L s < 144115188075855872 := by
  have h1 : x * H < 18446744073709551616 * 18446744073709551616 := Nat.mul_lt_mul'' hx hH
  have h2 : x * H / 18446744073709551616 < 18446744073709551616 := (Nat.div_lt_iff_lt_mul (by omega)).2 h1
  have h3 : ∀ y, y < 18446744073709551616 → y / 2 ^ s < 144115188075855872 := by
    intro y hy
    have h4 : 2 ^ 8 ≤ 2 ^ s := Nat.pow_le_pow_right (by omega) hs
    have h5 : y / 2 ^ s ≤ y / 2 ^ 8 := Nat.div_le_div_left h4 (by omega)
    omega
  rw [uscale_T, uscaleT]
  split
  · exact Nat.or_lt_two_pow (n := 57) (h3 _ h2) (by omega)
  · refine Nat.or_lt_two_pow (n := 57) (h3 _ (by omega)) ?_
    split <;> omega
theorem fp_parse64 (d : Nat) (p : Int) (hd0 : 0 < d) (hd : d < 18446744073709551616) (hp : -345 ≤ p ∧ p ≤ 310) (w : World) (hg : 10 < w.heap.size)
    (c0 : w.cell? ⟨10, (p + 348).toNat * 2, none⟩ = some (.int .u64 (powHi p : Int))) (c1 : w.cell? ⟨10, (p + 348).toNat * 2 + 1, none⟩ = some (.int .u64 (powLo p : Int))) :
    Calls Tryz.prog 154 #[.int .u64 (d : Int), .int .i64 p, .int .u64 0] w fun e' w' => e' = .returned (.tuple #[.float .f64 (pf64 d p), rngV (pf64R d p)]) ∧ Below w.heap.size w w' := by
  have h1 : d.log2 < 64 := (Nat.log2_lt (by omega)).2 (by omega)
  have hlen := bitLen_log2 d hd0 hd
  have hl := log2P_fits p hp
  have hf := pow10_fits p hp
  have hx := shl_norm d hd0 hd
  have hEd : pfE d p = min 1074 (53 - ((d.log2 + 1 : Nat) : Int) - log2P p) := rfl
  have hSd : pfS d p = -(pfE d p - (64 - ((d.log2 + 1 : Nat) : Int)) + log2P p + 3) := rfl
  have hE1 : -2000 ≤ pfE d p ∧ pfE d p ≤ 1074 := by omega
  have hS8 : 8 ≤ pfS d p := by omega
  have w1 : wrap64 (53 - ((d.log2 + 1 : Nat) : Int)) = 53 - ((d.log2 + 1 : Nat) : Int) := by unfold wrap64; omega
  have w2 : wrap64 (53 - ((d.log2 + 1 : Nat) : Int) - log2P p) = 53 - ((d.log2 + 1 : Nat) : Int) - log2P p := by unfold wrap64; omega
  have w3 : wrap64 (64 - ((d.log2 + 1 : Nat) : Int)) = ((63 - d.log2 : Nat) : Int) := by unfold wrap64; omega
  have w4 : wrap64 (pfE d p - ((63 - d.log2 : Nat) : Int)) = pfE d p - ((63 - d.log2 : Nat) : Int) := by unfold wrap64; omega
  by_cases hs : 64 ≤ pfS d p
  · have e1 : pf64 d p = 0 := by rw [pf64, if_pos hs]
    have e2 : pf64R d p = false := by rw [pf64R, if_pos hs]
    rw [e1, e2]
    exact fp_parse64Z d (d.log2 + 1) (63 - d.log2) p (log2P p) (pfE d p) (pfS d p) (powHi p) (powLo p) hd w hlen hp rfl w1 w2 hEd.symm w3 w4 (by omega) (by omega) (by omega) (p + 348).toNat (by omega) (by omega) hg c0 c1 hs
  · have e1 : pf64 d p = packB (pfM (pfU d p)) (-(pfE d p - (pfT (pfU d p) : Int))) := by rw [pf64, if_neg hs]
    have e2 : pf64R d p = packRng (pfM (pfU d p)) (-(pfE d p - (pfT (pfU d p) : Int))) := by rw [pf64R, if_neg hs]
    rw [e1, e2]
    have hxw : IntKind.u64.wrap ((d : Int) * 2 ^ min (63 - d.log2) 64) = ((d * 2 ^ (63 - d.log2) : Nat) : Int) := mul_pow_int d (63 - d.log2) (by omega) hx.2
    exact fp_parse64T d (d.log2 + 1) 0 (63 - d.log2) (pfS d p).toNat p (log2P p) (pfE d p) (pfS d p) (powHi p) (powLo p) (d * 2 ^ (63 - d.log2)) (pfU d p) hd w hlen hp rfl w1 w2 hEd.symm w3 w4 (by omega) (by omega) (by omega) (p + 348).toNat (by omega) (by omega) hg c0 c1 (by omega)
      (uscaleN_lt _ _ _ _ hx.2 hf.2.1 (by omega)) hE1 (by omega) hxw (fun b w hb => fp_uscale _ b _ _ _ hx.2 hf.2.1 hf.2.2 (by omega) (by
        have := Nat.mul_le_mul hx.1 hf.1
        omega) w hb)
end Go.Proofs.YtpkeonafcldkhaaGreatDoor
/- num, math: words, infinities. -/
set_option linter.unusedVariables false
set_option linter.unusedSimpArgs false
namespace Go.Proofs.YtpkeonafcldkhaaGreatDoor
open Go.RowKit

theorem run_mfrombits (x : Int) (w : World) : (callFunc 60 #[.int .u64 x]).run Tryz.prog w = .ok (.value (.float .f64 x.toNat)) w := by
  rw [run_callFunc_extern Tryz.func60 (by kernel_rfl) (by kernel_rfl) (by kernel_rfl) (e := Extern.MathFloatBits.float64frombits) (by kernel_rfl)]
  rfl
theorem run_mbits (x : Nat) (w : World) : (callFunc 135 #[.float .f64 x]).run Tryz.prog w = .ok (.value (.int .u64 (x : Int))) w := by
  rw [run_callFunc_extern Tryz.func135 (by kernel_rfl) (by kernel_rfl) (by kernel_rfl) (e := Extern.MathFloatBits.float64bits) (by kernel_rfl)]
  rfl
set_option maxRecDepth 100000 in
theorem math_Inf (w : World) : Calls Tryz.prog 100 #[.int .i64 1] w fun e w' => e = .returned (.float .f64 9218868437227405312) ∧ w = w' := by
  go_enter Tryz.func100, Tryz.ntmps100
  go_wp2_with fail
  rw [run_mfrombits]
  rw [Oper.upon_value]
  go_wp2_with fail
  go_ret
  exact ⟨rfl, rfl⟩
set_option maxRecDepth 100000 in
theorem math_NaN (w : World) : Calls Tryz.prog 101 #[] w fun e w' => e = .returned (.float .f64 9221120237041090561) ∧ w = w' := by
  go_enter Tryz.func101, Tryz.ntmps101
  go_wp2_with fail
  rw [run_mfrombits]
  rw [Oper.upon_value]
  go_wp2_with fail
  go_ret
  exact ⟨rfl, rfl⟩
set_option maxRecDepth 100000 in
theorem math_Abs (x : Nat) (w : World) : Calls Tryz.prog 122 #[.float .f64 x] w fun e w' => e = .returned (.float .f64 (absB x)) ∧ w = w' := by
  have h1 : bits .andNot .u64 (x : Int) 9223372036854775808 = ((absB x : Nat) : Int) := by
    have e : bits .andNot .u64 (x : Int) 9223372036854775808 = bits .andNot .u64 ((x % 18446744073709551616 : Nat) : Int) 9223372036854775808 := by
      have hb : BitVec.ofInt 64 (x : Int) = BitVec.ofInt 64 ((x % 18446744073709551616 : Nat) : Int) := by
        apply BitVec.eq_of_toNat_eq
        simp only [BitVec.toNat_ofInt]
        omega
      unfold bits
      show IntKind.u64.wrap _ = IntKind.u64.wrap _
      simp only [IntKind.bits]
      rw [hb]
    rw [e]
    exact u64_andNot_nat (x % 18446744073709551616) 9223372036854775808 (Nat.mod_lt _ (by omega)) (by omega)
  go_enter Tryz.func122, Tryz.ntmps122
  go_wp2_with fail
  rw [run_mbits]
  rw [Oper.upon_value]
  go_wp2_with fail
  rw [run_mfrombits]
  rw [Oper.upon_value]
  go_wp2_with fail
  go_ret
  exact ⟨rfl, rfl⟩
set_option maxRecDepth 100000 in
theorem math_IsInf (x : Nat) (w : World) : Calls Tryz.prog 104 #[.float .f64 x, .int .i64 0] w fun e w' => e = .returned (.bool (isInfB x)) ∧ w = w' := by
  go_enter Tryz.func104, Tryz.ntmps104
  go_wp2_with fail
  refine (math_Abs x _).mono ?_
  rintro e w' ⟨rfl, rfl⟩
  go_wp2_with fail
  go_ret
  exact ⟨rfl, rfl⟩
/-- Is l the word m, in any case? -/
def wordB (l m : List UInt8) : Bool := l.length == m.length && (l.zip m).all fun p => (p.1.toNat ||| 32) == p.2.toNat
def wordTo (l m : List UInt8) (k : Nat) : Prop := ((l.take k).zip (m.take k)).all (fun p => (p.1.toNat ||| 32) == p.2.toNat) = true
theorem wordTo_zero (l m : List UInt8) : wordTo l m 0 := rfl
theorem zip_take_succ {l m : List UInt8} {k : Nat} (h1 : k < l.length) (h2 : k < m.length) : (l.take (k + 1)).zip (m.take (k + 1)) = (l.take k).zip (m.take k) ++ [(atB l k, atB m k)] := by
  have e1 : l[k] = atB l k := by rw [atB, List.getD_eq_getElem?_getD, List.getElem?_eq_getElem h1]; rfl
  have e2 : m[k] = atB m k := by rw [atB, List.getD_eq_getElem?_getD, List.getElem?_eq_getElem h2]; rfl
  rw [List.take_succ_eq_append_getElem h1, List.take_succ_eq_append_getElem h2, List.zip_append (by simp; omega), e1, e2]
  rfl
theorem wordTo_succ {l m : List UInt8} {k : Nat} (h1 : k < l.length) (h2 : k < m.length) (h : wordTo l m k) (he : ((atB l k).toNat ||| 32) = (atB m k).toNat) : wordTo l m (k + 1) := by
  unfold wordTo at *
  rw [zip_take_succ h1 h2, List.all_append, h]
  simp [he]
theorem wordB_all {l m : List UInt8} (hl : l.length = m.length) (h : wordTo l m l.length) : wordB l m = true := by
  unfold wordTo at h
  rw [List.take_length, hl, List.take_length] at h
  rw [wordB, h]; simp [hl]
theorem wordB_no {l m : List UInt8} {k : Nat} (h1 : k < l.length) (h2 : k < m.length) (he : ((atB l k).toNat ||| 32) ≠ (atB m k).toNat) : wordB l m = false := by
  have : (l.zip m).all (fun p => (p.1.toNat ||| 32) == p.2.toNat) = false := by
    rw [List.all_eq_false]
    refine ⟨(l.zip m)[k]'(by simp; omega), List.getElem_mem _, ?_⟩
    have e1 : l[k] = atB l k := by rw [atB, List.getD_eq_getElem?_getD, List.getElem?_eq_getElem h1]; rfl
    have e2 : m[k] = atB m k := by rw [atB, List.getD_eq_getElem?_getD, List.getElem?_eq_getElem h2]; rfl
    rw [List.getElem_zip, e1, e2]
    simpa using he
  rw [wordB, this, Bool.and_false]
set_option maxRecDepth 100000 in
theorem num_word (s m : ByteArray) (w : World) (hs : s.size ≤ 1000) (hm : m.size ≤ 1000) :
    Calls Tryz.prog 99 #[.string s, .string m] w fun e w' => e = .returned (.bool (wordB s.data.toList m.data.toList)) ∧ Below w.heap.size w w' := by
  by_cases hl : s.size = m.size
  · have q1 : ((s.size : Int) != (m.size : Int)) = false := by rw [hl]; simp
    have hll : s.data.toList.length = m.data.toList.length := by rw [len_data, len_data, hl]
    have HLL := Lib.hid hll
    clear hll
    go_enter Tryz.func99, Tryz.ntmps99
    go_wp2_with fail
    go_loopw [13] (fun t wr => ∃ k : Nat, Hid (k ≤ s.size ∧ wordTo s.data.toList m.data.toList k) ∧ t = .int .i64 (k : Int) ∧ Hid (Below w.heap.size w wr)) (fun t wr => s.size - (intOf t).toNat)
    case atStart => exact ⟨0, Lib.hid ⟨Nat.zero_le _, wordTo_zero _ _⟩, rfl, Lib.hid (Below.refl _ _)⟩
    case round =>
      obtain ⟨k, hk, rfl, hb⟩ := hrel
      have hk' := hk.out.1
      by_cases hi : k < s.size
      · have hi2 : k < m.size := by omega
        have p1 : ((k : Int) < (s.size : Int)) = True := by simp; omega
        have p2 : ((k : Int) < (m.size : Int)) = True := by simp; omega
        have o1 : bits .or .u8 (s[k].toNat : Int) 32 = ((s[k].toNat ||| 32 : Nat) : Int) := u8_or_nat s[k].toNat 32 (UInt8.toNat_lt _) (by omega)
        have w1 : wrap64 ((k : Int) + 1) = ((k + 1 : Nat) : Int) := by unfold wrap64; omega
        have a1 : atB s.data.toList k = s[k] := atB_lt hi
        have a2 : atB m.data.toList k = m[k] := atB_lt hi2
        have k1 : k < s.data.toList.length := by rw [len_data]; exact hi
        have k2 : k < m.data.toList.length := by rw [len_data]; exact hi2
        have HK1 := Lib.hid k1
        have HK2 := Lib.hid k2
        have HA1 := Lib.hid a1
        have HA2 := Lib.hid a2
        clear k1 k2 a1 a2
        cases ne : (((s[k].toNat ||| 32 : Nat) : Int) != (m[k].toNat : Int))
        · have he : (s[k].toNat ||| 32) = m[k].toNat := by
            have : ((s[k].toNat ||| 32 : Nat) : Int) = (m[k].toNat : Int) := by simpa using ne
            omega
          have HN := Lib.hid (wordTo_succ HK1.out HK2.out hk.out.2 (by rw [HA1.out, HA2.out]; exact he))
          have HLE := Lib.hid (show k + 1 ≤ s.size from hi)
          clear he
          go_wp2_with fail
          go_quiet (fail)
          go_wp2_with fail
          go_round
          case rel => exact ⟨k + 1, Lib.hid ⟨HLE.out, HN.out⟩, (by first | rfl | simp), Lib.hid (below_drewN hb.out _)⟩
          case measure => simp [intOf]; omega
        · have he : (s[k].toNat ||| 32) ≠ m[k].toNat := by
            have : ¬ ((s[k].toNat ||| 32 : Nat) : Int) = (m[k].toNat : Int) := by simpa using ne
            omega
          have HN := Lib.hid (wordB_no HK1.out HK2.out (by rw [HA1.out, HA2.out]; exact he))
          clear he
          go_wp2_with fail
          go_quiet (fail)
          go_wp2_with fail
          go_ret
          rw [HN.out]
          exact ⟨rfl, below_drewN hb.out _⟩
      · have hke : k = s.size := by omega
        have hw := hk.out.2
        rw [hke, ← len_data] at hw
        have HW := Lib.hid (wordB_all HLL.out hw)
        clear hw
        subst hke
        go_wp2_with fail
        go_ret
        rw [HW.out]
        exact ⟨rfl, hb.out⟩
  · have q1 : ((s.size : Int) != (m.size : Int)) = true := by simp; omega
    go_enter Tryz.func99, Tryz.ntmps99
    go_wp2_with fail
    go_ret
    refine ⟨ret_bool ?_, Below.refl _ _⟩
    have : (s.data.toList.length == m.data.toList.length) = false := by rw [len_data, len_data]; simpa using hl
    rw [wordB, this, Bool.false_and]
end Go.Proofs.YtpkeonafcldkhaaGreatDoor
/- strconv: special; the plain words of atof64exact. -/
set_option linter.unusedVariables false
set_option linter.unusedSimpArgs false
namespace Go.Proofs.YtpkeonafcldkhaaGreatDoor
open Go.RowKit

theorem results_tmp3' {fn : Func} {a b c : Tmp} (h : fn.results = #[.tmp a, .tmp b, .tmp c]) (tmps : Array Value) (P : Program) (w : World) :
    (results fn tmps).run P w = .ok (.tuple #[tmps.getD a undef, tmps.getD b undef, tmps.getD c undef]) w := by
  simp [results, h]
set_option maxRecDepth 100000 in
theorem fp_special (s : ByteArray) (w : World) (h0 : 0 < s.size) (hd : digit s[0] = true ∨ s[0].toNat = 46) :
    Calls Tryz.prog 142 #[.string s] w fun e w' => e = .returned (.tuple #[.float .f64 0, .int .i64 0, .bool false]) ∧ w = w' := by
  have hb : s[0].toNat = 46 ∨ 48 ≤ s[0].toNat ∧ s[0].toNat ≤ 57 := by
    rcases hd with h | h
    · exact .inr (digit_fits h)
    · exact .inl h
  have e1 : ((s[0].toNat : Int) == 43) = false := by simp; omega
  have e2 : ((s[0].toNat : Int) == 45) = false := by simp; omega
  have e3 : ((s[0].toNat : Int) == 105) = false := by simp; omega
  have e4 : ((s[0].toNat : Int) == 73) = false := by simp; omega
  have e5 : ((s[0].toNat : Int) == 110) = false := by simp; omega
  have e6 : ((s[0].toNat : Int) == 78) = false := by simp; omega
  have z1 : (s = ByteArray.empty) = False := by
    apply eq_false
    intro h; rw [h] at h0; simp at h0
  clear hb hd
  go_enter Tryz.func142, Tryz.ntmps142
  go_wp2_with fail
  refine bodyPost_ret (results_tmp3' rfl _ _ _) rfl ?_
  exact ⟨rfl, rfl⟩
end Go.Proofs.YtpkeonafcldkhaaGreatDoor
/- strconv: atof64exact. -/
set_option linter.unusedVariables false
set_option linter.unusedSimpArgs false
namespace Go.Proofs.YtpkeonafcldkhaaGreatDoor
open Go.RowKit

def ExactPost (w : World) (r : Option Nat) (e : Ending) (w' : World) : Prop :=
  (∃ v ok, e = .returned (.tuple #[.float .f64 v, .bool ok]) ∧ (match r with | some x => ok = true ∧ v = x | none => ok = false)) ∧ w = w'
theorem ExactPost.some {w : World} {r : Option Nat} {x : Nat} (h : r = Option.some x) : ExactPost w r (.returned (.tuple #[.float .f64 x, .bool true])) w := ⟨⟨x, true, rfl, by rw [h]; exact ⟨rfl, rfl⟩⟩, rfl⟩
theorem ExactPost.none {w : World} {r : Option Nat} {x : Nat} (h : r = Option.none) : ExactPost w r (.returned (.tuple #[.float .f64 x, .bool false])) w := ⟨⟨x, false, rfl, by rw [h]⟩, rfl⟩
set_option maxRecDepth 100000 in
set_option maxHeartbeats 1000000 in
theorem fp_exact (m : Nat) (p : Int) (w : World) (hp : -400 ≤ p ∧ p ≤ 400) (hm64 : m < 18446744073709551616) (c0 : w.cell? ⟨6, 0, none⟩ = some (.int .u64 52)) (b o c : Nat) (g : w.cell? ⟨9, 0, none⟩ = some (.slice (some ⟨b, o, none⟩) 23 c))
    (hT : ∀ k, k < 23 → w.cell? ⟨b, o + k, none⟩ = some (.float .f64 (p10W k))) :
    Calls Tryz.prog 153 #[.int .u64 (m : Int), .int .i64 p, .bool false] w (ExactPost w (exactW m p)) := by
  have HT := Lib.hid hT
  have HP := Lib.hid hp
  have HM := Lib.hid hm64
  clear hT hp hm64
  obtain ⟨f, hf⟩ : ∃ f, f = floatOfInt .f64 (m : Int) := ⟨_, rfl⟩
  have hfle : f ≤ infW := by rw [hf]; exact ofInt_le m
  have HF := Lib.hid hf
  have HFL := Lib.hid hfle
  have hfe : floatOfInt .f64 (m : Int) = f := hf.symm
  clear hf hfle
  by_cases hm : m / 4503599627370496 ≠ 0
  · have HX := Lib.hid (show exactW m p = none by rw [exactW, if_pos hm])
    have b0 : ((m : Int) / 4503599627370496 != 0) = true := by simp; omega
    clear hm
    go_enter Tryz.func153, Tryz.ntmps153
    go_wp2_with fail
    go_ret2
    exact .none HX.out
  · have b0 : ((m : Int) / 4503599627370496 != 0) = false := by simp; omega
    by_cases h0 : p = 0
    · have HX := Lib.hid (show exactW m p = some f by rw [exactW, if_neg hm, if_pos h0, HF.out])
      subst h0
      clear hm
      go_enter Tryz.func153, Tryz.ntmps153
      go_wp2_with fail
      go_ret2
      exact .some HX.out
    · have e0 : (p == 0) = false := by simp; exact h0
      by_cases h1 : 0 < p ∧ p ≤ 37
      · have d1 : ∀ [inst : Decidable ((0 : Int) < p)], @decide _ inst = true := fun {inst} => decide_eq_true h1.1
        have d2 : ∀ [inst : Decidable (p ≤ 37)], @decide _ inst = true := fun {inst} => decide_eq_true h1.2
        have d1' : ((0 : Int) < p) = True := eq_true h1.1
        have d2' : (p ≤ 37) = True := eq_true h1.2
        by_cases h2 : 22 < p
        · obtain ⟨k, rfl⟩ : ∃ k : Nat, p = (k : Int) + 22 := ⟨(p - 22).toNat, by omega⟩
          have d3 : ((22 : Int) < (k : Int) + 22) = True := eq_true h2
          have hk : k < 23 := by omega
          have hk0 : 0 < k := by omega
          have w22 : wrap64 ((k : Int) + 22 - 22) = (k : Int) := by unfold wrap64; omega
          have gk := HT.out k hk
          have g22 := HT.out 22 (by omega)
          obtain ⟨hm1, hm1le⟩ := mulW_eq HFL.out (p10W_pos hk)
          have HM1 := Lib.hid hm1
          obtain ⟨hmul, _⟩ := mulW_eq hm1le (p10W_pos (show 22 < 23 by omega))
          have HMUL := Lib.hid hmul
          have hE : exactW m ((k : Int) + 22) = if bigW (mulW f (p10W k)) then none else some (mulW (mulW f (p10W k)) (p10W 22)) := by
            rw [exactW, if_neg hm, if_neg h0, if_pos h1, hfe, if_pos h2, if_pos h2, show ((k : Int) + 22 - 22).toNat = k by omega]
          have HE := Lib.hid hE
          clear hmul hE h1 h2 hm h0 hm1 hm1le
          generalize mulW f (p10W k) = f1 at *
          cases b1 : (FloatKind.f64.format.order f1 4831355200913801216 == some .gt)
          · cases b2 : (FloatKind.f64.format.order f1 14054727237768577024 == some .lt)
            · go_enter Tryz.func153, Tryz.ntmps153
              go_wp2_with fail
              rw [run_float_arith _ _ _ _ _ _ _ HM1.out]
              simp only [Result.andThen]
              rw [Oper.upon_value]
              go_wp2_with fail
              rw [run_float_arith _ _ _ _ _ _ _ HMUL.out]
              simp only [Result.andThen]
              rw [Oper.upon_value]
              go_wp2_with fail
              go_ret2
              exact .some (by rw [HE.out, bigW, b1, b2]; rfl)
            · go_enter Tryz.func153, Tryz.ntmps153
              go_wp2_with fail
              rw [run_float_arith _ _ _ _ _ _ _ HM1.out]
              simp only [Result.andThen]
              rw [Oper.upon_value]
              go_wp2_with fail
              go_ret2
              exact .none (by rw [HE.out, bigW, b1, b2]; rfl)
          · go_enter Tryz.func153, Tryz.ntmps153
            go_wp2_with fail
            rw [run_float_arith _ _ _ _ _ _ _ HM1.out]
            simp only [Result.andThen]
            rw [Oper.upon_value]
            go_wp2_with fail
            go_ret2
            exact .none (by rw [HE.out, bigW, b1]; rfl)
        · obtain ⟨k, rfl⟩ : ∃ k : Nat, p = (k : Int) := ⟨p.toNat, by omega⟩
          have d3 : ((22 : Int) < (k : Int)) = False := eq_false h2
          have hk : k < 23 := by omega
          have hk0 : 0 < k := by omega
          have gk := HT.out k hk
          obtain ⟨hmul, _⟩ := mulW_eq HFL.out (p10W_pos hk)
          have HMUL := Lib.hid hmul
          have hE : exactW m (k : Int) = if bigW f then none else some (mulW f (p10W k)) := by
            rw [exactW, if_neg hm, if_neg h0, if_pos h1, hfe, if_neg h2, if_neg h2, Int.toNat_natCast]
          have HE := Lib.hid hE
          clear hmul hE h1 h2 hm h0
          cases b1 : (FloatKind.f64.format.order f 4831355200913801216 == some .gt)
          · cases b2 : (FloatKind.f64.format.order f 14054727237768577024 == some .lt)
            · go_enter Tryz.func153, Tryz.ntmps153
              go_wp2_with fail
              rw [run_float_arith _ _ _ _ _ _ _ HMUL.out]
              simp only [Result.andThen]
              rw [Oper.upon_value]
              go_wp2_with fail
              go_ret2
              exact .some (by rw [HE.out, bigW, b1, b2]; rfl)
            · go_enter Tryz.func153, Tryz.ntmps153
              go_wp2_with fail
              go_ret2
              exact .none (by rw [HE.out, bigW, b1, b2]; rfl)
          · go_enter Tryz.func153, Tryz.ntmps153
            go_wp2_with fail
            go_ret2
            exact .none (by rw [HE.out, bigW, b1]; rfl)
      · by_cases h2 : p < 0 ∧ -22 ≤ p
        · obtain ⟨k, rfl⟩ : ∃ k : Nat, p = -(k : Int) := ⟨(-p).toNat, by omega⟩
          have d1 : ∀ [inst : Decidable ((0 : Int) < -(k : Int))], @decide _ inst = false := fun {inst} => decide_eq_false (by omega)
          have d1' : ((0 : Int) < -(k : Int)) = False := eq_false (by omega)
          have d2 : ∀ [inst : Decidable (-(k : Int) < 0)], @decide _ inst = true := fun {inst} => decide_eq_true h2.1
          have d2' : (-(k : Int) < 0) = True := eq_true h2.1
          have d3 : ∀ [inst : Decidable ((-22 : Int) ≤ -(k : Int))], @decide _ inst = true := fun {inst} => decide_eq_true h2.2
          have d3' : ((-22 : Int) ≤ -(k : Int)) = True := eq_true h2.2
          have hk : k < 23 := by omega
          have hk0 : 0 < k := by omega
          have wk : wrap64 (- -(k : Int)) = (k : Int) := by unfold wrap64; omega
          have gk := HT.out k hk
          obtain ⟨hmul, _⟩ := divW_eq HFL.out (p10W_pos hk)
          have HMUL := Lib.hid hmul
          have hE : exactW m (-(k : Int)) = some (divW f (p10W k)) := by
            rw [exactW, if_neg hm, if_neg h0, if_neg h1, if_pos h2, hfe, show (- -(k : Int)).toNat = k by omega]
          have HE := Lib.hid hE
          clear hmul hE h1 h2 hm h0
          go_enter Tryz.func153, Tryz.ntmps153
          go_wp2_with fail
          rw [run_float_arith _ _ _ _ _ _ _ HMUL.out]
          simp only [Result.andThen]
          rw [Oper.upon_value]
          go_wp2_with fail
          go_ret2
          exact .some HE.out
        · have hE : exactW m p = none := by rw [exactW, if_neg hm, if_neg h0, if_neg h1, if_neg h2]
          have HE := Lib.hid hE
          by_cases hp0 : 0 < p
          · have d1 : ∀ [inst : Decidable ((0 : Int) < p)], @decide _ inst = true := fun {inst} => decide_eq_true hp0
            have d1' : ((0 : Int) < p) = True := eq_true hp0
            have d2 : ∀ [inst : Decidable (p ≤ 37)], @decide _ inst = false := fun {inst} => decide_eq_false (by omega)
            have d2' : (p ≤ 37) = False := eq_false (by omega)
            have d3 : ∀ [inst : Decidable (p < 0)], @decide _ inst = false := fun {inst} => decide_eq_false (by omega)
            have d3' : (p < 0) = False := eq_false (by omega)
            clear hE h1 h2 hm h0
            go_enter Tryz.func153, Tryz.ntmps153
            go_wp2_with fail
            go_ret2
            exact .none HE.out
          · have d1 : ∀ [inst : Decidable ((0 : Int) < p)], @decide _ inst = false := fun {inst} => decide_eq_false hp0
            have d1' : ((0 : Int) < p) = False := eq_false hp0
            have d2 : ∀ [inst : Decidable (p < 0)], @decide _ inst = true := fun {inst} => decide_eq_true (by omega)
            have d2' : (p < 0) = True := eq_true (by omega)
            have d3 : ∀ [inst : Decidable ((-22 : Int) ≤ p)], @decide _ inst = false := fun {inst} => decide_eq_false (by omega)
            have d3' : ((-22 : Int) ≤ p) = False := eq_false (by omega)
            clear hE h1 h2 hm h0
            go_enter Tryz.func153, Tryz.ntmps153
            go_wp2_with fail
            go_ret2
            exact .none HE.out
end Go.Proofs.YtpkeonafcldkhaaGreatDoor
