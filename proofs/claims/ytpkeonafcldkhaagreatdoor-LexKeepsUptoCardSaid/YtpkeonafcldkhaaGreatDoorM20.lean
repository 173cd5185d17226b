import Derived.Test.YtpkeonafcldkhaaGreatDoorM19
import Derived.Test.YtpkeonafcldkhaaGreatDoorM05
import Derived.Deep.QuietTactic
import Derived.BigQuiet
import Derived.Deep.CutBlock
import Derived.Deep.LoopGhost
import GoSem.PinnedTables
/- internal/strconv: decimal in memory; trim. -/
set_option linter.unusedVariables false
set_option linter.unusedSimpArgs false
namespace Go.Proofs.YtpkeonafcldkhaaGreatDoor
open Go.RowKit

/-- The decimal at g: its digits' bytes D, how many count, the point's place, its two marks. -/
structure DecAt (w : World) (g : Nat) (D : Nat → Nat) (nd : Nat) (dp : Int) (neg tr : Bool) : Prop where
  dig : ∀ i, i < 800 → w.cell? ⟨g, i, none⟩ = some (.int .u8 (D i : Int))
  nd : w.cell? ⟨g, 800, none⟩ = some (.int .i64 (nd : Int))
  dp : w.cell? ⟨g, 801, none⟩ = some (.int .i64 dp)
  neg : w.cell? ⟨g, 802, none⟩ = some (.bool neg)
  tr : w.cell? ⟨g, 803, none⟩ = some (.bool tr)
  free : ∀ i, w.frozen? ⟨g, i, none⟩ = false
  lt : g < w.heap.size
section
variable {w : World} {g : Nat} {D : Nat → Nat} {nd : Nat} {dp : Int} {neg tr : Bool}
theorem DecAt.other {i : Nat} (_ : DecAt w g D nd dp neg tr) (u : Value) {j : Nat} (hj : j ≠ i) {v : Value} (hv : w.cell? ⟨g, j, none⟩ = some v) : (w.setCell ⟨g, i, none⟩ u).cell? ⟨g, j, none⟩ = some v := by
  rw [World.cell?_setCell_other _ _ _ _ (by simp [hj]), hv]
theorem DecAt.free' {i : Nat} (h : DecAt w g D nd dp neg tr) (u : Value) (j : Nat) : (w.setCell ⟨g, i, none⟩ u).frozen? ⟨g, j, none⟩ = false := (World.frozen?_setCell _ _ _ _).trans (h.free j)
theorem DecAt.lt' {i : Nat} (h : DecAt w g D nd dp neg tr) (u : Value) : g < (w.setCell ⟨g, i, none⟩ u).heap.size := by simpa using h.lt
theorem DecAt.setDig (h : DecAt w g D nd dp neg tr) {i c : Nat} (hi : i < 800) {z : Int} (hz : z = (c : Int)) : DecAt (w.setCell ⟨g, i, none⟩ (.int .u8 z)) g (upd D i c) nd dp neg tr := by
  subst hz
  refine ⟨fun j hj => ?_, h.other _ (by omega) h.nd, h.other _ (by omega) h.dp, h.other _ (by omega) h.neg, h.other _ (by omega) h.tr, h.free' _, h.lt' _⟩
  by_cases e : j = i
  · subst e; rw [World.cell?_setCell_same _ _ _ (h.dig j hj), upd, if_pos rfl]
  · rw [h.other _ e (h.dig j hj), upd, if_neg e]
theorem DecAt.setNd (h : DecAt w g D nd dp neg tr) {n : Nat} {z : Int} (hz : z = (n : Int)) : DecAt (w.setCell ⟨g, 800, none⟩ (.int .i64 z)) g D n dp neg tr := by
  subst hz
  exact ⟨fun j hj => h.other _ (by omega) (h.dig j hj), World.cell?_setCell_same _ _ _ h.nd, h.other _ (by omega) h.dp, h.other _ (by omega) h.neg, h.other _ (by omega) h.tr, h.free' _, h.lt' _⟩
theorem DecAt.setDp (h : DecAt w g D nd dp neg tr) (z : Int) : DecAt (w.setCell ⟨g, 801, none⟩ (.int .i64 z)) g D nd z neg tr :=
  ⟨fun j hj => h.other _ (by omega) (h.dig j hj), h.other _ (by omega) h.nd, World.cell?_setCell_same _ _ _ h.dp, h.other _ (by omega) h.neg, h.other _ (by omega) h.tr, h.free' _, h.lt' _⟩
theorem DecAt.setNeg (h : DecAt w g D nd dp neg tr) (b : Bool) : DecAt (w.setCell ⟨g, 802, none⟩ (.bool b)) g D nd dp b tr :=
  ⟨fun j hj => h.other _ (by omega) (h.dig j hj), h.other _ (by omega) h.nd, h.other _ (by omega) h.dp, World.cell?_setCell_same _ _ _ h.neg, h.other _ (by omega) h.tr, h.free' _, h.lt' _⟩
theorem DecAt.setTr (h : DecAt w g D nd dp neg tr) (b : Bool) : DecAt (w.setCell ⟨g, 803, none⟩ (.bool b)) g D nd dp neg b :=
  ⟨fun j hj => h.other _ (by omega) (h.dig j hj), h.other _ (by omega) h.nd, h.other _ (by omega) h.dp, h.other _ (by omega) h.neg, World.cell?_setCell_same _ _ _ h.tr, h.free' _, h.lt' _⟩
theorem DecAt.drew (h : DecAt w g D nd dp neg tr) (n : Nat) : DecAt (w.drewN n) g D nd dp neg tr := ⟨h.dig, h.nd, h.dp, h.neg, h.tr, h.free, h.lt⟩
end
/-- How many digits count, by the memory. -/
def ndOf (w : World) (g : Nat) : Nat := match w.cell? ⟨g, 800, none⟩ with | some (.int _ k) => k.toNat | _ => 0
theorem DecAt.ndOf {w : World} {g : Nat} {D : Nat → Nat} {nd : Nat} {dp : Int} {neg tr : Bool} (h : DecAt w g D nd dp neg tr) : ndOf w g = nd := by
  unfold Go.Proofs.YtpkeonafcldkhaaGreatDoor.ndOf
  rw [h.nd]; simp
set_option maxRecDepth 100000 in
set_option maxHeartbeats 2000000 in
theorem dec_trim (w : World) (B g : Nat) (D : Nat → Nat) (nd : Nat) (dp : Int) (neg tr : Bool) (h : DecAt w g D nd dp neg tr) (hnd : nd ≤ 800) (hB : B ≤ g) :
    Calls Tryz.prog 182 #[.pointer (some ⟨g, 0, none⟩)] w fun e w' => e = .returned (.tuple #[]) ∧ DecAt w' g D (trimN D nd) (trimDp D nd dp) neg tr ∧ Below B w w' := by
  obtain ⟨T, hT⟩ : ∃ T, T = trimN D nd := ⟨_, rfl⟩
  obtain ⟨DP, hDP⟩ : ∃ DP, DP = trimDp D nd dp := ⟨_, rfl⟩
  have hTT : DP = if T = 0 then 0 else dp := by rw [hDP, trimDp, hT]
  rw [← hDP, ← hT]
  clear hDP
  have HT := Lib.hid hT
  have H0 := Lib.hid h
  have HTT := Lib.hid hTT
  clear hT h hTT
  go_enter Tryz.func182, Tryz.ntmps182
  go_wp2_with fail
  go_loopw [] (fun wr => ∃ m : Nat, Hid (m ≤ 800 ∧ DecAt wr g D m dp neg tr ∧ trimN D m = T ∧ Below B w wr)) (fun wr => ndOf wr g)
  case atStart => exact ⟨nd, Lib.hid ⟨hnd, H0.out, HT.out.symm, Below.refl _ _⟩⟩
  case round =>
    obtain ⟨m, hI⟩ := hrel
    have d0 := hI.out.2.1.nd
    have d1 := hI.out.2.1.dp
    have f0 := hI.out.2.1.free 800
    have f1 := hI.out.2.1.free 801
    cases m with
    | zero =>
      go_wp2_with fail
      go_quiet (fail)
      have hI2 : DecAt (wr.drewN nq) g D 0 dp neg tr := hI.out.2.1.drew nq
      have hb2 := below_drewN hI.out.2.2.2 nq
      have hT0 : T = 0 := by rw [← hI.out.2.2.1]; rfl
      clear d0 d1 f0 f1
      generalize wr.drewN nq = w2 at hI2 hb2 ⊢
      have d0 := hI2.nd
      have d1 := hI2.dp
      have f1 := hI2.free 801
      have H2 := Lib.hid hI2
      have HB2 := Lib.hid hb2
      have HT0 := Lib.hid hT0
      clear hI2 hb2 hT0
      go_wp2_with fail
      go_end0
      refine ⟨rfl, ?_, HB2.out.setCell (p := ⟨g, 801, none⟩) hB _⟩
      rw [HTT.out, if_pos HT0.out, HT0.out]
      exact H2.out.setDp 0
    | succ k =>
      have hk : k < 800 := hI.out.1
      have p1 : ((k : Int) < 800) = True := by simp; omega
      have p0 : ((0 : Int) < (k : Int) + 1) = True := eq_true (by omega)
      have dk := hI.out.2.1.dig k hk
      cases e48 : ((D k : Int) == 48)
      · have hne : D k ≠ 48 := by intro h; rw [h] at e48; simp at e48
        have hT1 : T = k + 1 := by rw [← hI.out.2.2.1, trimN, if_neg hne]
        go_wp2_with fail
        go_quiet (fail)
        have hI2 : DecAt (wr.drewN nq) g D (k + 1) dp neg tr := hI.out.2.1.drew nq
        have hb2 := below_drewN hI.out.2.2.2 nq
        clear d0 d1 f0 f1 dk
        generalize wr.drewN nq = w2 at hI2 hb2 ⊢
        have d0 := hI2.nd
        have p2 : ((k : Int) + 1 = 0) = False := eq_false (by omega)
        have H2 := Lib.hid hI2
        have HB2 := Lib.hid hb2
        have HT1 := Lib.hid hT1
        clear hI2 hb2 hT1 hne
        go_wp2_with fail
        go_end0
        rw [HTT.out, if_neg (by rw [HT1.out]; omega), HT1.out]
        exact ⟨rfl, H2.out, HB2.out⟩
      · have he : D k = 48 := by have : (D k : Int) = 48 := by simpa using e48
                                 omega
        have hT1 : trimN D k = T := by rw [← hI.out.2.2.1, trimN, if_pos he]
        go_wp2_with fail
        go_quiet (fail)
        have hI2 : DecAt (wr.drewN nq) g D (k + 1) dp neg tr := hI.out.2.1.drew nq
        have hb2 := below_drewN hI.out.2.2.2 nq
        have hnd : ndOf wr g = k + 1 := hI.out.2.1.ndOf
        clear d0 d1 f0 f1 dk
        generalize wr.drewN nq = w2 at hI2 hb2 ⊢
        have d0 := hI2.nd
        have f0 := hI2.free 800
        have H2 := Lib.hid hI2
        have HB2 := Lib.hid hb2
        have HT1 := Lib.hid hT1
        have HND := Lib.hid hnd
        clear hI2 hb2 hT1 he hnd
        go_wp2_with fail
        go_roundw
        case rel => exact ⟨k, Lib.hid ⟨by omega, H2.out.setNd (by first | rfl | (simp only [wrap64]; omega)), HT1.out, HB2.out.setCell (p := ⟨g, 800, none⟩) hB _⟩⟩
        case measure =>
          rw [HND.out, (H2.out.setNd (n := k) (by first | rfl | (simp only [wrap64]; omega))).ndOf]
          exact Nat.lt_succ_self k
end Go.Proofs.YtpkeonafcldkhaaGreatDoor
/- internal/strconv: rightShift. -/
set_option linter.unusedVariables false
set_option linter.unusedSimpArgs false
namespace Go.Proofs.YtpkeonafcldkhaaGreatDoor
open Go.RowKit

theorem vint {k : IntKind} {a b : Int} (h : a = b) : Value.int k a = Value.int k b := by rw [h]
theorem pre_small {D : Nat → Nat} {nd k r : Nat} (h : DigOk D nd) (hn : 0 < nd) (hk : k ≤ 60) (hlt : pre D nd r < 2 ^ k) : r ≤ 20 ∧ pre D nd r < 1152921504606846976 := by
  have h60 : (2 : Nat) ^ k ≤ 2 ^ 60 := Nat.pow_le_pow_right (by omega) hk
  refine ⟨?_, by omega⟩
  rcases Nat.lt_or_ge r 21 with h1 | h1
  · omega
  · exfalso
    obtain ⟨q, rfl⟩ : ∃ q, r = q + 1 := ⟨r - 1, by omega⟩
    have h2 := pre_pos h hn q
    have h3 : (10 : Nat) ^ 20 ≤ 10 ^ q := Nat.pow_le_pow_right (by omega) (by omega)
    omega
theorem div_zero_iff {n K : Nat} (hK : 0 < K) : (((n / K : Nat) : Int) == 0) = !decide (K ≤ n) := by
  by_cases h : K ≤ n
  · have : 1 ≤ n / K := (Nat.one_le_div_iff hK).2 h
    rw [decide_eq_true h, beq_eq_false_iff_ne.2 (by omega)]; rfl
  · rw [Nat.div_eq_of_lt (by omega), decide_eq_false h]; rfl
theorem acc_val {n d : Nat} (hn : n < 1152921504606846976) (h1 : 48 ≤ d) (h2 : d ≤ 57) : IntKind.u64.wrap (IntKind.u64.wrap ((n : Int) * 10 + IntKind.u64.wrap (d : Int)) - 48) = ((n * 10 + (d - 48) : Nat) : Int) := by
  simp only [IntKind.wrap_u64]; omega
theorem mul10_val {n : Nat} (hn : n < 1152921504606846976) : IntKind.u64.wrap ((n : Int) * 10) = ((n * 10 : Nat) : Int) := by
  simp only [IntKind.wrap_u64]; omega
theorem meas_i64 {F r : Nat} (h : r < F) : F - (intOf (.int .i64 ((r : Int) + 1))).toNat < F - (intOf (.int .i64 (r : Int))).toNat := by
  have h1 : (intOf (.int .i64 ((r : Int) + 1))).toNat = r + 1 := rfl
  have h2 : (intOf (.int .i64 (r : Int))).toNat = r := rfl
  rw [h1, h2]
  exact Nat.sub_lt_sub_left h (Nat.lt_succ_self r)
theorem mask_val {K : Nat} (h0 : 0 < K) (h : K ≤ 1152921504606846976) : IntKind.u64.wrap (IntKind.u64.wrap (K : Int) - 1) = ((K - 1 : Nat) : Int) := by
  simp only [IntKind.wrap_u64]; omega
theorem byte_val {d : Nat} (h : d ≤ 9) : IntKind.u64.wrap ((d : Int) + 48) % 256 = ((48 + d : Nat) : Int) := by
  simp only [IntKind.wrap_u64]; omega
theorem acc_val2 {n K d : Nat} (hn : n % K < 1152921504606846976) (h1 : 48 ≤ d) (h2 : d ≤ 57) : IntKind.u64.wrap (IntKind.u64.wrap (IntKind.u64.wrap ((n : Int) % (K : Int) * 10) + IntKind.u64.wrap (d : Int)) - 48) = ((n % K * 10 + (d - 48) : Nat) : Int) := by
  have e : (n : Int) % (K : Int) = ((n % K : Nat) : Int) := by simp
  rw [e]
  generalize n % K = m at hn ⊢
  simp only [IntKind.wrap_u64]; omega
theorem mul10_val2 {n K : Nat} (hn : n % K < 1152921504606846976) : IntKind.u64.wrap ((n : Int) % (K : Int) * 10) = ((n % K * 10 : Nat) : Int) := by
  have e : (n : Int) % (K : Int) = ((n % K : Nat) : Int) := by simp
  rw [e]
  generalize n % K = m at hn ⊢
  simp only [IntKind.wrap_u64]; omega
theorem shr_zero {n K k : Nat} (hK : K = 2 ^ k) (h0 : 0 < K) : (((n : Nat) : Int) / 2 ^ k == 0) = !decide (K ≤ n) := by
  rw [← div_zero_iff h0, hK]; simp
set_option maxRecDepth 100000 in
set_option maxHeartbeats 2000000 in
theorem dec_rightShift (w : World) (B g : Nat) (D : Nat → Nat) (nd k : Nat) (dp : Int) (neg tr : Bool) (h : DecAt w g D nd dp neg tr) (hd : DigOk D nd) (hn : 0 < nd) (hnd : nd ≤ 800) (hk1 : 1 ≤ k) (hk : k ≤ 60) (hdp : -1000000000000 ≤ dp ∧ dp ≤ 1000000000000) (hB : B ≤ g) :
    Calls Tryz.prog 175 #[.pointer (some ⟨g, 0, none⟩), .int .u64 (k : Int)] w fun e w' => e = .returned (.tuple #[]) ∧ DecAt w' g (rsDF D nd k) (rsNd D nd k) (rsDp D nd k dp) neg (rsTr D nd k tr) ∧ Below B w w' := by
  have H := Lib.hid h
  have HD := Lib.hid hd
  obtain ⟨K, hKK⟩ : ∃ K, K = 2 ^ k := ⟨_, rfl⟩
  have hK0 : 0 < K := by rw [hKK]; exact Nat.pow_pos (by omega)
  have HK := Lib.hid hKK
  have hK60 : K ≤ 1152921504606846976 := by rw [hKK]; exact Nat.pow_le_pow_right (by omega) hk
  have hkm : ((2 : Int) ^ min k 64) = (K : Int) := by rw [Nat.min_eq_left (by omega), hKK]; simp
  have hbig : ∀ r, rsBig D nd k r = decide (K ≤ pre D nd r) := fun r => by rw [rsBig, hKK]
  obtain ⟨R0, hR0⟩ : ∃ R, R = rsR D nd k := ⟨_, rfl⟩
  obtain ⟨P, hP⟩ : ∃ P : Nat → Nat, P = pre D nd := ⟨_, rfl⟩
  have hPs : ∀ r, P (r + 1) = P r * 10 + dgt D nd r := fun r => by rw [hP]; rfl
  have hP0 : P 0 = 0 := by rw [hP]; rfl
  have hsm : ∀ r, P r < K → r ≤ 20 ∧ P r < 1152921504606846976 := fun r hr => by rw [hP] at hr ⊢; exact pre_small hd hn hk (by rw [← hKK]; exact hr)
  have hpos : ∀ r, 0 < r → P r ≠ 0 := fun r hr => by
    obtain ⟨q, rfl⟩ : ∃ q, r = q + 1 := ⟨r - 1, by omega⟩
    have := pre_pos hd hn q
    rw [hP]
    have h1 : 0 < 10 ^ q := Nat.pow_pos (by omega)
    omega
  have HPS := Lib.hid hPs
  have HP0 := Lib.hid hP0
  have HSM := Lib.hid hsm
  have HPOS := Lib.hid hpos
  have HBIG := Lib.hid hbig
  have HR0 := Lib.hid hR0
  have HP := Lib.hid hP
  clear h hd hKK hR0 hP hPs hP0 hsm hpos hbig
  go_enter Tryz.func175, Tryz.ntmps175
  go_upto_block 0 with fail
  go_cut [4, 6, 7] from 12 to 48 (fun t4 t6 t7 wx => t4 = .int .i64 (R0 : Int) ∧ t6 = .int .u64 (P R0 : Int) ∧ Hid (K ≤ P R0 ∧ P R0 < 10 * K ∧ 1 ≤ R0 ∧ R0 ≤ 21) ∧ wx = w)
  case first =>
    go_wp2_with fail
    go_loopw [4, 6, 7] (fun t4 t6 t7 wr => ∃ r : Nat, Hid (srch (rsBig D nd k) (1000 - r) r = R0 ∧ r ≤ 21 ∧ P r < 10 * K ∧ (r = 0 → True)) ∧ t4 = .int .i64 (r : Int) ∧ t6 = .int .u64 (P r : Int) ∧ wr = w) (fun t4 _ _ _ => 1000 - (intOf t4).toNat)
    case atStart => exact ⟨0, Lib.hid ⟨by rw [HR0.out]; rfl, by omega, by rw [HP0.out]; omega, fun _ => trivial⟩, rfl, by rw [HP0.out]; rfl, rfl⟩
    case round =>
      obtain ⟨r, hI, rfl, rfl, rfl⟩ := hrel
      have hz := shr_zero (n := P r) HK.out hK0
      have d0 := H.out.nd
      by_cases hge : K ≤ P r
      · rw [decide_eq_true hge] at hz
        have HZ := Lib.hid (show R0 = r by
          rw [← hI.out.1]
          exact srch_hit (by have := hI.out.2.1; omega) (by rw [HBIG.out, ← HP.out]; exact decide_eq_true hge))
        go_wp2_with fail
        go_meet
        rw [HZ.out]
        exact ⟨rfl, rfl, Lib.hid ⟨hge, hI.out.2.2.1, by
          rcases Nat.eq_zero_or_pos r with h | h
          · rw [h, HP0.out] at hge; omega
          · exact h, hI.out.2.1⟩, rfl⟩
      · rw [decide_eq_false hge] at hz
        have hsm := HSM.out r (by omega)
        have HSR := Lib.hid (show srch (rsBig D nd k) (1000 - (r + 1)) (r + 1) = R0 by
          rw [← hI.out.1]
          exact (srch_miss (by omega) (by rw [HBIG.out, ← HP.out]; exact decide_eq_false hge)).symm)
        have hd9 := dgt_le HD.out r
        have hps := HPS.out r
        by_cases hrn : r < nd
        · have p1 : ((nd : Int) ≤ (r : Int)) = False := eq_false (by omega)
          have p2 : ((r : Int) < 800) = True := eq_true (by omega)
          have dr := H.out.dig r (by omega)
          have hdr := HD.out.1 r hrn
          have hdg : dgt D nd r = D r - 48 := by rw [dgt, if_pos hrn]
          have HX := Lib.hid (And.intro hps (And.intro hdg (And.intro hdr hsm)))
          clear hps hdg hdr hsm hd9
          go_wp2_with fail
          go_roundw
          case rel =>
            refine ⟨r + 1, Lib.hid ⟨HSR.out, by have := HX.out.2.2.2.1; omega, ?_, fun _ => trivial⟩, rfl, ?_, by first | rfl | trivial⟩
            · rw [HX.out.1, HX.out.2.1]; have := HX.out.2.2.1; omega
            · rw [HX.out.1, HX.out.2.1]
              exact vint (acc_val HX.out.2.2.2.2 HX.out.2.2.1.1 HX.out.2.2.1.2)
          case measure => exact meas_i64 (by omega)
        · have p1 : ((nd : Int) ≤ (r : Int)) = True := eq_true (by omega)
          have hne : (((P r : Nat) : Int) == 0) = false := beq_eq_false_iff_ne.2 (by have := HPOS.out r (by omega); omega)
          have HX := Lib.hid hsm
          clear hps hd9 hsm
          go_wp2_with fail
          go_loopw [4, 6] (fun t4 t6 wr2 => ∃ r : Nat, Hid (srch (rsBig D nd k) (1000 - r) r = R0 ∧ r ≤ 21 ∧ P r < 10 * K ∧ nd ≤ r) ∧ t4 = .int .i64 (r : Int) ∧ t6 = .int .u64 (P r : Int) ∧ wr2 = wr) (fun t4 _ _ => 1000 - (intOf t4).toNat)
          case atStart => exact ⟨r, Lib.hid ⟨hI.out.1, hI.out.2.1, hI.out.2.2.1, by omega⟩, rfl, rfl, rfl⟩
          case round =>
            obtain ⟨r2, hI2, rfl, rfl, rfl⟩ := hrel
            have hz2 := shr_zero (n := P r2) HK.out hK0
            by_cases hge2 : K ≤ P r2
            · rw [decide_eq_true hge2] at hz2
              have HZ := Lib.hid (show R0 = r2 by
                rw [← hI2.out.1]
                exact srch_hit (by have := hI2.out.2.1; omega) (by rw [HBIG.out, ← HP.out]; exact decide_eq_true hge2))
              go_wp2_with fail
              go_meet
              rw [HZ.out]
              exact ⟨rfl, rfl, Lib.hid ⟨hge2, hI2.out.2.2.1, by have := hI2.out.2.2.2; omega, hI2.out.2.1⟩, rfl⟩
            · rw [decide_eq_false hge2] at hz2
              have hsm := HSM.out r2 (by omega)
              have HSR2 := Lib.hid (show srch (rsBig D nd k) (1000 - (r2 + 1)) (r2 + 1) = R0 by
                rw [← hI2.out.1]
                exact (srch_miss (by omega) (by rw [HBIG.out, ← HP.out]; exact decide_eq_false hge2)).symm)
              have hps := HPS.out r2
              have hdg : dgt D nd r2 = 0 := by rw [dgt, if_neg (by have := hI2.out.2.2.2; omega)]
              have HX2 := Lib.hid (And.intro hps (And.intro hdg hsm))
              have hr20 := hsm.1
              clear hps hdg hsm
              go_wp2_with fail
              go_roundw
              case rel =>
                refine ⟨r2 + 1, Lib.hid ⟨HSR2.out, by have := HX2.out.2.2.1; omega, ?_, by have := hI2.out.2.2.2; omega⟩, rfl, ?_, by first | rfl | trivial⟩
                · rw [HX2.out.1, HX2.out.2.1]; omega
                · rw [HX2.out.1, HX2.out.2.1, Nat.add_zero]
                  first | exact vint (mul10_val HX2.out.2.2.2) | exact vint (by omega)
              case measure => exact meas_i64 (F := 1000) (by omega)
  case rest =>
    obtain ⟨rfl, rfl, hX, rfl⟩ := hcut
    have d1 := H.out.dp
    have f1 := H.out.free 801
    have hmask : IntKind.u64.wrap (IntKind.u64.wrap (2 ^ k) - 1) = ((K - 1 : Nat) : Int) := by
      rw [show ((2 : Int) ^ k) = (K : Int) by rw [HK.out]; simp]
      exact mask_val hK0 hK60
    obtain ⟨N, hN⟩ : ∃ N : Nat → Nat, N = fun j => P (R0 + j) % (10 * K) := ⟨_, rfl⟩
    have hNd : ∀ j, N j / K = rsDig D nd k R0 j ∧ N j % K * 10 + dgt D nd (R0 + j) = N (j + 1) ∧ N j < 10 * K := fun j => by
      have h1 := rs_step (X := P (R0 + j)) hK0 (dgt_le HD.out (R0 + j))
      rw [hN]
      refine ⟨?_, ?_, Nat.mod_lt _ (by omega)⟩
      · rw [h1.1, rsDig, ← HP.out, ← HK.out]
      · show P (R0 + j) % (10 * K) % K * 10 + dgt D nd (R0 + j) = P (R0 + (j + 1)) % (10 * K)
        rw [h1.2, ← Nat.add_assoc, HPS.out]
    have hN0 : N 0 = P R0 := by rw [hN]; exact Nat.mod_eq_of_lt hX.out.2.1
    have hNe : ∀ j, nd + (k + 1) ≤ R0 + j → N j = 0 := fun j hj => by
      rw [hN]
      show P (R0 + j) % (10 * K) = 0
      obtain ⟨m, hm⟩ : ∃ m, R0 + j = nd + (k + 1 + m) := ⟨R0 + j - nd - (k + 1), by omega⟩
      rw [hm, HP.out, pre_behind, HK.out]
      have e : (10 : Nat) ^ (k + 1 + m) = (10 * 2 ^ k) * (5 ^ k * 10 ^ m) := by
        rw [Nat.pow_add, Nat.pow_succ, show (10 : Nat) ^ k = 2 ^ k * 5 ^ k by rw [← Nat.mul_pow]]
        simp only [Nat.mul_assoc, Nat.mul_comm, Nat.mul_left_comm]
      rw [e, ← Nat.mul_assoc, Nat.mul_comm (pre D nd nd), Nat.mul_assoc]
      exact Nat.mul_mod_right _ _
    have hNE : ∀ j, rsEnd D nd k R0 j = decide (N j = 0) := fun j => by rw [rsEnd, hN, ← HP.out, ← HK.out]
    have H1 := Lib.hid (H.out.setDp (dp - ((R0 : Int) - 1)))
    have HN := Lib.hid (And.intro hNd (And.intro hN0 (And.intro hNe hNE)))
    have hR21 := hX.out.2.2.2
    have hR1 := hX.out.2.2.1
    have hN0' := hN0
    rw [← hN0]
    clear hN hNd hN0 hNe hNE hN0'
    have HB1 := Lib.hid ((Below.refl B wc).setCell (p := ⟨g, 801, none⟩) hB (.int .i64 (dp - ((R0 : Int) - 1))))
    go_upto_block 4 with fail
    go_wp2_with fail
    go_loopw [4, 5, 6, 9, 10] (fun t4 t5 t6 _ _ wr => ∃ j : Nat, Hid ((R0 + j ≤ nd ∨ j = 0) ∧ DecAt wr g (rsD D nd k R0 j) nd (dp - ((R0 : Int) - 1)) neg tr ∧ Below B wc wr) ∧ t4 = .int .i64 ((R0 + j : Nat) : Int) ∧ t5 = .int .i64 (j : Int) ∧ t6 = .int .u64 (N j : Int)) (fun t4 _ _ _ _ _ => nd - (intOf t4).toNat)
    case atStart => exact ⟨0, Lib.hid ⟨.inr rfl, by rw [rsD_zero]; exact H1.out, HB1.out⟩, rfl, rfl, rfl⟩
    case round =>
      obtain ⟨j, hI, rfl, rfl, rfl⟩ := hrel
      have d0 := hI.out.2.1.nd
      obtain ⟨r, hr⟩ : ∃ r, r = R0 + j := ⟨_, rfl⟩
      rw [← hr]
      have hst := HN.out.1 j
      rw [← hr] at hst
      have hjr : j + 1 ≤ r := by omega
      have HRR := Lib.hid hr
      clear hr
      by_cases hrn : r < nd
      · have p1 : ((r : Int) < (nd : Int)) = True := eq_true (by omega)
        have hj8 : j < 800 := by omega
        have p2 : ((r : Int) < 800) = True := eq_true (by omega)
        have p3 : ((j : Int) < 800) = True := eq_true (by omega)
        have dr := hI.out.2.1.dig r (by omega)
        rw [rsD_keep (by omega)] at dr
        have fj := hI.out.2.1.free j
        have dj := hI.out.2.1.dig j hj8
        have hdr := HD.out.1 r hrn
        have hdg : dgt D nd r = D r - 48 := by rw [dgt, if_pos hrn]
        have g1 : ((N j : Int) / 2 ^ k) = ((rsDig D nd k R0 j : Nat) : Int) := by
          rw [← hst.1, HK.out]; simp
        have g2 : bits .and .u64 (N j : Int) ((K - 1 : Nat) : Int) = ((N j % K : Nat) : Int) := by
          rw [u64_and_nat _ _ (by have := hst.2.2; omega) (by omega), HK.out, Nat.and_two_pow_sub_one_eq_mod]
        have h9 : rsDig D nd k R0 j ≤ 9 := by rw [rsDig]; omega
        have HX := Lib.hid (And.intro hst (And.intro hdg (And.intro hdr h9)))
        obtain ⟨v0, hv0⟩ : ∃ v0, v0 = Value.int .u8 (rsD D nd k R0 j j : Int) := ⟨_, rfl⟩
        rw [← hv0] at dj
        clear hst hdg hdr h9 hv0
        go_wp2_with fail
        go_roundw
        case rel =>
          refine ⟨j + 1, Lib.hid ⟨.inl (by have := HRR.out; omega), ?_, hI.out.2.2.setCell (p := ⟨g, j, none⟩) hB _⟩, ?_, rfl, ?_⟩
          · rw [← rsD_succ hj8]
            exact hI.out.2.1.setDig hj8 (byte_val HX.out.2.2.2)
          · exact vint (by have := HRR.out; omega)
          · rw [← HX.out.1.2.1, HX.out.2.1]
            exact vint (acc_val2 (by have := Nat.mod_lt (N j) hK0; omega) HX.out.2.2.1.1 HX.out.2.2.1.2)
        case measure => exact meas_i64 hrn
      · have p1 : ((r : Int) < (nd : Int)) = False := eq_false (by omega)
        have hjn : j = nd - R0 := by
          have h1 := hI.out.1
          have h2 := HRR.out
          omega
        have hrn2 : nd ≤ R0 + j := by have h2 := HRR.out; omega
        obtain ⟨WW, hWW⟩ : ∃ WW, WW = rsW D nd k R0 := ⟨_, rfl⟩
        have hW0 : srch (rsEnd D nd k R0) (2000 - j) j = WW := by rw [hWW, rsW, hjn]
        have hj8 : j ≤ 800 := by omega
        have HW := Lib.hid hWW
        have HI := Lib.hid (And.intro hI.out.2.1 (And.intro hI.out.2.2 (And.intro hW0 hrn2)))
        have hT0 : (tr || rsT D nd k R0 j) = tr := by rw [rsT_small hj8, Bool.or_false]
        have HT0 := Lib.hid hT0
        have HST := Lib.hid hst
        clear hst hWW hW0 hrn2 hT0 hI hjn
        go_wp2_with fail
        go_loopg [5, 6, 11] (1000 - j) (fun gg t5 t6 _ wr => ∃ j q : Nat, Hid (gg = 1000 - j ∧ q = min j 800 ∧ srch (rsEnd D nd k R0) (2000 - j) j = WW ∧ nd ≤ R0 + j ∧ DecAt wr g (rsD D nd k R0 j) nd (dp - ((R0 : Int) - 1)) neg (tr || rsT D nd k R0 j) ∧ Below B wc wr ∧ j ≤ 900) ∧ t5 = .int .i64 (q : Int) ∧ t6 = .int .u64 (N j : Int))
        case atStart => exact ⟨j, j, Lib.hid ⟨rfl, (Nat.min_eq_left hj8).symm, HI.out.2.2.1, HI.out.2.2.2, by rw [HT0.out]; exact HI.out.1, HI.out.2.1, by omega⟩, rfl, rfl⟩
        case round =>
          obtain ⟨j, q, hI2, rfl, rfl⟩ := hrel
          have hst := HN.out.1 j
          have hNE := HN.out.2.2.2 j
          have hdec := hI2.out.2.2.2.2.1
          cases hz : decide (N j = 0)
          · rw [hz] at hNE
            have hne : N j ≠ 0 := of_decide_eq_false hz
            have hjb : R0 + j < nd + (k + 1) := by
              rcases Nat.lt_or_ge (R0 + j) (nd + (k + 1)) with h | h
              · exact h
              · exact absurd (HN.out.2.2.1 j h) hne
            have hj9 : j < 900 := by omega
            have hms := srch_miss (F := 2000) (r := j) (by omega) hNE
            have hdg : dgt D nd (R0 + j) = 0 := by rw [dgt, if_neg (by have := hI2.out.2.2.2.1; omega)]
            have p1 : ((0 : Int) < (N j : Int)) = True := eq_true (by omega)
            have p1n : 0 < N j := by omega
            have g1 : ((N j : Int) / 2 ^ k) = ((rsDig D nd k R0 j : Nat) : Int) := by
              rw [← hst.1, HK.out]; simp
            have g2 : bits .and .u64 (N j : Int) ((K - 1 : Nat) : Int) = ((N j % K : Nat) : Int) := by
              rw [u64_and_nat _ _ (by have := hst.2.2; omega) (by omega), HK.out, Nat.and_two_pow_sub_one_eq_mod]
            have h9 : rsDig D nd k R0 j ≤ 9 := by rw [rsDig]; omega
            have hNs : N (j + 1) = N j % K * 10 := by have := hst.2.1; rw [hdg] at this; omega
            have hmk : N j % K < 1152921504606846976 := by have := Nat.mod_lt (N j) hK0; omega
            have hsr : srch (rsEnd D nd k R0) (2000 - (j + 1)) (j + 1) = WW := by rw [← hms]; exact hI2.out.2.2.1
            have HX := Lib.hid (And.intro hNs (And.intro hmk (And.intro hsr h9)))
            have HD2 := Lib.hid hdec
            have f0 := hdec.free 803
            have t0 := hdec.tr
            by_cases hj8 : j < 800
            · have hq : q = j := by have := hI2.out.2.1; omega
              subst hq
              have fj := hdec.free q
              have dj := hdec.dig q hj8
              obtain ⟨v0, hv0⟩ : ∃ v0, v0 = Value.int .u8 (rsD D nd k R0 q q : Int) := ⟨_, rfl⟩
              rw [← hv0] at dj
              clear hv0
              have p3 : ((q : Int) < 800) = True := eq_true (by omega)
              clear hst hdg hms h9 hNE hz hne hNs hmk hsr hdec
              go_wp2_with fail
              go_roundg (1000 - (q + 1))
              case measure => have := hI2.out.1; omega
              case rel =>
                refine ⟨q + 1, q + 1, Lib.hid ⟨rfl, by omega, HX.out.2.2.1, by have := hI2.out.2.2.2.1; omega, ?_, hI2.out.2.2.2.2.2.1.setCell (p := ⟨g, q, none⟩) hB _, by omega⟩, rfl, ?_⟩
                · rw [← rsD_succ hj8, rsT_succ, decide_eq_false (by omega : ¬ 800 ≤ q), Bool.false_and, Bool.or_false]
                  exact HD2.out.setDig hj8 (byte_val HX.out.2.2.2)
                · rw [HX.out.1]
                  exact vint (mul10_val2 HX.out.2.1)
            · have hq : q = 800 := by have := hI2.out.2.1; omega
              have p3 : ((q : Int) < 800) = False := eq_false (by omega)
              have HQ := Lib.hid hq
              clear hq
              have hjj : 800 ≤ j := by omega
              cases hdz : decide (0 < rsDig D nd k R0 j)
              · have p4 : ((0 : Int) < (rsDig D nd k R0 j : Int)) = False := eq_false (by have := of_decide_eq_false hdz; omega)
                have p4n : ¬ 0 < rsDig D nd k R0 j := of_decide_eq_false hdz
                have HDZ := Lib.hid hdz
                clear hst hdg hms h9 hNE hz hne hNs hmk hsr hdec hdz
                go_wp2_with fail
                go_roundg (1000 - (j + 1))
                case measure => have := hI2.out.1; omega
                case rel =>
                  refine ⟨j + 1, q, Lib.hid ⟨rfl, by have := HQ.out; omega, HX.out.2.2.1, by have := hI2.out.2.2.2.1; omega, ?_, hI2.out.2.2.2.2.2.1, by omega⟩, rfl, ?_⟩
                  · rw [rsD_far hjj, rsT_succ, HDZ.out, Bool.and_false, Bool.or_false]
                    exact HD2.out
                  · rw [HX.out.1]
                    exact vint (mul10_val2 HX.out.2.1)
              · have p4 : ((0 : Int) < (rsDig D nd k R0 j : Int)) = True := eq_true (by have := of_decide_eq_true hdz; omega)
                have p4n : 0 < rsDig D nd k R0 j := of_decide_eq_true hdz
                have HDZ := Lib.hid hdz
                clear hst hdg hms h9 hNE hz hne hNs hmk hsr hdec hdz
                go_wp2_with fail
                go_roundg (1000 - (j + 1))
                case measure => have := hI2.out.1; omega
                case rel =>
                  refine ⟨j + 1, q, Lib.hid ⟨rfl, by have := HQ.out; omega, HX.out.2.2.1, by have := hI2.out.2.2.2.1; omega, ?_, hI2.out.2.2.2.2.2.1.setCell (p := ⟨g, 803, none⟩) hB _, by omega⟩, rfl, ?_⟩
                  · rw [rsD_far hjj, rsT_succ, HDZ.out, decide_eq_true hjj, Bool.and_true, Bool.or_true, Bool.or_true]
                    exact HD2.out.setTr true
                  · rw [HX.out.1]
                    exact vint (mul10_val2 HX.out.2.1)
          · rw [hz] at hNE
            have hn0 : N j = 0 := of_decide_eq_true hz
            have hWj : WW = j := by rw [← hI2.out.2.2.1]; exact srch_hit (by have := hI2.out.2.2.2.2.2.2; omega) hNE
            have p1 : ((0 : Int) < (N j : Int)) = False := eq_false (by omega)
            have p1n : ¬ 0 < N j := by omega
            have f0 := hdec.free 800
            have d1 := hdec.nd
            have HD2 := Lib.hid (hdec.setNd (n := q) (z := (q : Int)) rfl)
            have HWJ := Lib.hid hWj
            clear hst hNE hz hn0 hdec hWj
            go_wp2_with fail
            refine (dec_trim _ B g _ q _ neg _ HD2.out (by have := hI2.out.2.1; omega) hB).mono ?_
            rintro e w9 ⟨rfl, hdf, hb9⟩
            have HB9 := Lib.hid ((hI2.out.2.2.2.2.2.1.setCell (p := ⟨g, 800, none⟩) hB (.int .i64 (q : Int))).trans hb9)
            have HDF := Lib.hid hdf
            clear hdf hb9
            go_wp2_with fail
            go_end0
            have e1 : rsDF D nd k = rsD D nd k R0 j := by rw [rsDF, ← HR0.out, ← HW.out, HWJ.out]
            have e2 : rsNd0 D nd k = q := by rw [rsNd0, ← HR0.out, ← HW.out, HWJ.out]; exact hI2.out.2.1.symm
            have e3 : rsTr D nd k tr = (tr || rsT D nd k R0 j) := by rw [rsTr, ← HR0.out, ← HW.out, HWJ.out]
            have e4 : rsDp D nd k dp = trimDp (rsD D nd k R0 j) q (dp - ((R0 : Int) - 1)) := by rw [rsDp, e1, e2, ← HR0.out]
            rw [rsNd, e1, e2, e3, e4]
            exact ⟨rfl, HDF.out, HB9.out⟩
end Go.Proofs.YtpkeonafcldkhaaGreatDoor
/- internal/strconv: prefixIsLessThan. -/
set_option linter.unusedVariables false
set_option linter.unusedSimpArgs false
namespace Go.Proofs.YtpkeonafcldkhaaGreatDoor
open Go.RowKit

theorem DecAt.drewN {w : World} {g : Nat} {D : Nat → Nat} {nd : Nat} {dp : Int} {neg tr : Bool} (h : DecAt w g D nd dp neg tr) (n : Nat) : DecAt (w.drewN n) g D nd dp neg tr := h.drew n
theorem plessL_end {D : Nat → Nat} {nd i : Nat} {l : List UInt8} (h : l.length ≤ i) : plessL D nd (l.drop i) i = false := by rw [List.drop_eq_nil_of_le h]; rfl
theorem plessL_at {D : Nat → Nat} {nd i : Nat} {l : List UInt8} (h : i < l.length) : plessL D nd (l.drop i) i = if nd ≤ i then true else if D i = (atB l i).toNat then plessL D nd (l.drop (i + 1)) (i + 1) else decide (D i < (atB l i).toNat) := by
  have e : l[i] = atB l i := by rw [atB, List.getD_eq_getElem?_getD, List.getElem?_eq_getElem h]; rfl
  rw [List.drop_eq_getElem_cons h, plessL, e]
set_option maxRecDepth 100000 in
set_option maxHeartbeats 2000000 in
theorem dec_pless (w : World) (g : Nat) (D : Nat → Nat) (nd : Nat) (dp : Int) (neg tr : Bool) (s : ByteArray) (h : DecAt w g D nd dp neg tr) (hnd : nd ≤ 800) (hs : s.size ≤ 1000) :
    Calls Tryz.prog 181 #[.slice (some ⟨g, 0, none⟩) nd 800, .string s] w fun e w' => e = .returned (.bool (plessL D nd s.data.toList 0)) ∧ ∃ m, w' = w.drewN m := by
  obtain ⟨T, hT⟩ : ∃ T, T = plessL D nd s.data.toList 0 := ⟨_, rfl⟩
  rw [← hT]
  have HT := Lib.hid hT
  have H := Lib.hid h
  clear hT h
  go_enter Tryz.func181, Tryz.ntmps181
  go_wp2_with fail
  go_loopw [5] (fun t5 wr => ∃ i : Nat, Hid (plessL D nd (s.data.toList.drop i) i = T ∧ i ≤ s.size ∧ ∃ m, wr = w.drewN m) ∧ t5 = .int .i64 (i : Int)) (fun t5 _ => s.size - (intOf t5).toNat)
  case atStart => exact ⟨0, Lib.hid ⟨HT.out.symm, Nat.zero_le _, 0, rfl⟩, rfl⟩
  case round =>
    obtain ⟨i, hI, rfl⟩ := hrel
    by_cases hi : i < s.size
    · have p1 : ((i : Int) < (s.size : Int)) = True := eq_true (by omega)
      have hst := plessL_at (D := D) (nd := nd) (l := s.data.toList) (i := i) (by rw [len_data]; exact hi)
      rw [atB_lt hi] at hst
      have hD : DecAt wr g D nd dp neg tr := by obtain ⟨m, hm⟩ := hI.out.2.2; rw [hm]; exact H.out.drewN m
      have HD := Lib.hid hD
      have HST := Lib.hid hst
      clear hst hD
      by_cases hn : nd ≤ i
      · have p2 : ((nd : Int) ≤ (i : Int)) = True := eq_true (by omega)
        have hTT : T = true := by rw [← hI.out.1, HST.out, if_pos hn]
        have HTT := Lib.hid hTT
        clear hTT
        go_wp2_with fail
        go_ret
        exact ⟨by rw [HTT.out]; rfl, hI.out.2.2⟩
      · have p2 : ((nd : Int) ≤ (i : Int)) = False := eq_false (by omega)
        have p3 : ((i : Int) < (nd : Int)) = True := eq_true (by omega)
        have c0 := HD.out.dig i (by omega)
        by_cases he : D i = s[i].toNat
        · have e1 : ((D i : Int) != (s[i].toNat : Int)) = false := by rw [he]; simp
          have hTT : plessL D nd (s.data.toList.drop (i + 1)) (i + 1) = T := by rw [← hI.out.1, HST.out, if_neg hn, if_pos he]
          have HTT := Lib.hid hTT
          clear hTT
          go_wp2_with fail
          go_quiet (fail)
          have hm2 : ∃ m, wr.drewN nq = w.drewN m := by obtain ⟨m, hm⟩ := hI.out.2.2; exact ⟨_, by rw [hm, World.drewN_drewN]⟩
          clear c0
          generalize wr.drewN nq = w2 at hm2 ⊢
          have HM2 := Lib.hid hm2
          clear hm2 he
          go_wp2_with fail
          go_roundw
          case rel => exact ⟨i + 1, Lib.hid ⟨HTT.out, hi, HM2.out⟩, rfl⟩
          case measure => exact meas_i64 hi
        · have e1 : ((D i : Int) != (s[i].toNat : Int)) = true := by rw [bne_iff_ne]; omega
          have hTT : T = decide (D i < s[i].toNat) := by rw [← hI.out.1, HST.out, if_neg hn, if_neg he]
          have HTT := Lib.hid hTT
          clear hTT
          clear he
          go_wp2_with fail
          go_quiet (fail)
          have hm2 : ∃ m, wr.drewN nq = w.drewN m := by obtain ⟨m, hm⟩ := hI.out.2.2; exact ⟨_, by rw [hm, World.drewN_drewN]⟩
          have c1 : (wr.drewN nq).cell? ⟨g, i, none⟩ = some (.int .u8 (D i : Int)) := c0
          clear c0
          generalize wr.drewN nq = w2 at hm2 c1 ⊢
          have HM2 := Lib.hid hm2
          clear hm2
          go_wp2_with fail
          go_quiet (fail)
          have hm3 : ∃ m, w2.drewN nq = w.drewN m := by obtain ⟨m, hm⟩ := HM2.out; exact ⟨_, by rw [hm, World.drewN_drewN]⟩
          clear c1
          generalize w2.drewN nq = w3 at hm3 ⊢
          have HM3 := Lib.hid hm3
          clear hm3
          go_wp2_with fail
          go_ret
          exact ⟨by rw [HTT.out]; rfl, HM3.out⟩
    · have p1 : ((i : Int) < (s.size : Int)) = False := eq_false (by omega)
      have hTT : T = false := by rw [← hI.out.1]; exact plessL_end (by rw [len_data]; omega)
      have HTT := Lib.hid hTT
      clear hTT
      go_wp2_with fail
      go_ret
      exact ⟨by rw [HTT.out]; rfl, hI.out.2.2⟩
end Go.Proofs.YtpkeonafcldkhaaGreatDoor
