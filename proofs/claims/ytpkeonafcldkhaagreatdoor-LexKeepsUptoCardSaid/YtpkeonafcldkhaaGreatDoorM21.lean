import Derived.Test.YtpkeonafcldkhaaGreatDoorM20
import Derived.Test.YtpkeonafcldkhaaGreatDoorM05
/- internal/strconv: leftShift. -/
set_option linter.unusedVariables false
set_option linter.unusedSimpArgs false
namespace Go.Proofs.YtpkeonafcldkhaaGreatDoor
open Go.RowKit

/-- The table leftcheats in memory, its rows in block C. -/
structure CheatAt (w : World) (C : Nat) : Prop where
  tab : ∃ o, w.cell? ⟨11, 0, none⟩ = some (.slice (some ⟨C, o, none⟩) 61 61) ∧ ∀ k, k < 61 → w.cell? ⟨C, o + k * 2, none⟩ = some (.int .i64 (chD k : Int)) ∧ w.cell? ⟨C, o + k * 2 + 1, none⟩ = some (.string ⟨(chS k).toArray⟩)
  lt0 : 11 < w.heap.size
  lt : C < w.heap.size
theorem CheatAt.below {w w' : World} {C B : Nat} (h : CheatAt w C) (hb : Below B w w') (h0 : 11 < B) (h1 : C < B) : CheatAt w' C := by
  obtain ⟨o, t1, t2⟩ := h.tab
  exact ⟨⟨o, (hb.cell (p := ⟨_, 0, none⟩) h0).trans t1, fun k hk => ⟨(hb.cell (p := ⟨C, _, none⟩) h1).trans (t2 k hk).1, (hb.cell (p := ⟨C, _, none⟩) h1).trans (t2 k hk).2⟩⟩, Nat.lt_of_lt_of_le h.lt0 hb.size, Nat.lt_of_lt_of_le h.lt hb.size⟩
theorem ls_acc {n d k K : Nat} (hK : K = 2 ^ k) (h60 : K ≤ 1152921504606846976) (hn : n < K) (h1 : 48 ≤ d) (h2 : d ≤ 57) : IntKind.u64.wrap ((n : Int) + IntKind.u64.wrap (IntKind.u64.wrap (IntKind.u64.wrap (d : Int) - 48) * 2 ^ k)) = ((n + (d - 48) * K : Nat) : Int) := by
  have e : ((2 : Int) ^ k) = (K : Int) := by rw [hK]; simp
  rw [e]
  have e2 : IntKind.u64.wrap (IntKind.u64.wrap (d : Int) - 48) = ((d - 48 : Nat) : Int) := by simp only [IntKind.wrap_u64]; omega
  rw [e2]
  have h9 : (d - 48) * K ≤ 9 * K := Nat.mul_le_mul_right _ (by omega)
  have e3 : (((d - 48 : Nat) : Int) * (K : Int)) = (((d - 48) * K : Nat) : Int) := by simp
  rw [e3]
  generalize (d - 48) * K = x at h9 ⊢
  simp only [IntKind.wrap_u64]; omega
theorem ls_rem {n : Nat} (hn : n < 18446744073709551616) : IntKind.u64.wrap ((n : Int) - IntKind.u64.wrap (10 * ((n / 10 : Nat) : Int))) = ((n % 10 : Nat) : Int) := by
  simp only [IntKind.wrap_u64]; omega
set_option maxRecDepth 100000 in
set_option maxHeartbeats 2000000 in
theorem dec_leftShift (w : World) (B g C : Nat) (D : Nat → Nat) (nd k : Nat) (dp : Int) (neg tr : Bool) (h : DecAt w g D nd dp neg tr) (hc : CheatAt w C) (hd : DigOk D nd) (hn : 0 < nd) (hnd : nd ≤ 800) (hk1 : 1 ≤ k) (hk : k ≤ 60) (hdp : -1000000000000 ≤ dp ∧ dp ≤ 1000000000000) (hB : B ≤ g) :
    Calls Tryz.prog 174 #[.pointer (some ⟨g, 0, none⟩), .int .u64 (k : Int)] w fun e w' => e = .returned (.tuple #[]) ∧ DecAt w' g (lsDF D nd k) (lsNd D nd k) (lsDp D nd k dp) neg (lsTr D nd k tr) ∧ Below B w w' := by
  have H := Lib.hid h
  have HD := Lib.hid hd
  have hok := cheat_ok hk1 hk
  obtain ⟨o, h0, hrow⟩ := hc.tab
  have hr := hrow k (by omega)
  clear hrow
  obtain ⟨δ, hδ⟩ : ∃ δ, δ = chD k := ⟨_, rfl⟩
  obtain ⟨s, hs⟩ : ∃ s : ByteArray, s = ⟨(chS k).toArray⟩ := ⟨_, rfl⟩
  rw [← hδ, ← hs] at hr
  have hsl : s.data.toList = chS k := by rw [hs]
  have hss : s.size ≤ 60 := by rw [← len_data, hsl]; exact hok.short
  have hδ1 : 1 ≤ δ ∧ δ ≤ 20 := by rw [hδ]; exact ⟨hok.pos, hok.small⟩
  obtain ⟨r1, r2⟩ := hr
  have hb := ls_bounds hd hn hk1 hk
  obtain ⟨L, hL⟩ : ∃ L, L = lsL D nd k := ⟨_, rfl⟩
  obtain ⟨M, hM⟩ : ∃ M, M = lsM D nd k := ⟨_, rfl⟩
  rw [← hL, ← hM] at hb
  have HB := Lib.hid hb
  have HL := Lib.hid hL
  have HM := Lib.hid hM
  have HDL := Lib.hid (And.intro hδ hsl)
  have hLn : nd ≤ L ∧ L ≤ nd + 20 := ⟨hb.2.2.1, hb.2.2.2⟩
  clear h hd hok hs hδ hsl hb hL hM hc
  have d0 := H.out.nd
  have hq0 : ((0 : Int) ≤ (nd : Int)) = True := eq_true (by omega)
  have hq1 : ((nd : Int) ≤ 800) = True := eq_true (by omega)
  have hq2 : ((k : Int) < 61) = True := eq_true (by omega)
  go_enter Tryz.func174, Tryz.ntmps174
  obtain ⟨b, hl⟩ : ∃ b, lsLess D nd k = b := ⟨_, rfl⟩
  have hp : plessL D nd s.data.toList 0 = b := by rw [HDL.out.2]; exact hl
  have HP := Lib.hid hp
  have HLB := Lib.hid hl
  clear hp hl
  go_wp2_with fail
  go_quiet ((go_at_call 181; exact Calls.quiet_of ((dec_pless _ g D nd dp neg tr s (H.out.drewN _) hnd (by omega)).mono fun _ _ ⟨h1, h2⟩ => ⟨by rw [h1, HP.out], h2⟩)))
  obtain ⟨m, hm⟩ : ∃ m, m = nq := ⟨_, rfl⟩
  rw [← hm]
  clear hm
  have hH : DecAt (w.drewN m) g D nd dp neg tr := H.out.drewN m
  have hb2 : Below B w (w.drewN m) := below_drewN (Below.refl B w) m
  clear d0 h0 r1 r2
  generalize w.drewN m = w2 at hH hb2 ⊢
  have d0 := hH.nd
  have H2 := Lib.hid hH
  have HB2 := Lib.hid hb2
  obtain ⟨K, hKK⟩ : ∃ K, K = 2 ^ k := ⟨_, rfl⟩
  have hK60 : K ≤ 1152921504606846976 := by rw [hKK]; exact Nat.pow_le_pow_right (n := 2) (by omega) hk
  have hK0 : 0 < K := by rw [hKK]; exact Nat.pow_pos (by omega)
  obtain ⟨N, hN⟩ : ∃ N : Nat → Nat, N = lsN (pre D nd nd) k := ⟨_, rfl⟩
  have hMM : M = pre D nd nd * K := by rw [HM.out, lsM, hKK]
  have hstep : ∀ j, j < nd → (N j + (D (nd - 1 - j) - 48) * K) % 10 = M / 10 ^ j % 10 ∧ (N j + (D (nd - 1 - j) - 48) * K) / 10 = N (j + 1) ∧ N j < K := fun j hj => by
    have := lsN_step (k := k) (pre_dig HD.out hj)
    rw [hN, hMM, hKK]; exact this
  have hbeh : ∀ j, nd ≤ j → N j = M / 10 ^ j := fun j hj => by
    rw [hN, hMM, hKK]; exact lsN_behind (pre_lt HD.out nd) hj
  have hN0 : N 0 = 0 := by rw [hN, lsN]; simp [Nat.mod_one]
  have hNK : ∀ j, N j < K := fun j => by rw [hN, hKK]; exact (lsN_step rfl).2.2
  have HN := Lib.hid (And.intro hstep (And.intro hbeh (And.intro hN0 hNK)))
  have HKK := Lib.hid hKK
  clear hH hb2 hKK hN hMM hstep hbeh hN0 hNK
  go_upto_if 30 with fail
  go_cut [4] from 12 to 32 (fun t4 wx => t4 = .int .i64 ((L : Int) - nd) ∧ wx = w2)
  case first =>
    cases b
    · have hLL : (L : Int) - nd = δ := by
        have := HL.out; rw [lsL, HLB.out, if_neg (by simp), ← HDL.out.1] at this; omega
      go_wp2_with fail
      go_meet
      exact ⟨vint (by omega), rfl⟩
    · have hLL : (L : Int) - nd = δ - 1 := by
        have := HL.out; rw [lsL, HLB.out, if_pos rfl, ← HDL.out.1] at this; omega
      go_wp2_with fail
      go_meet
      exact ⟨vint (by omega), rfl⟩
  case rest =>
    obtain ⟨rfl, rfl⟩ := hcut
    go_wp2_with fail
    go_loopg [5, 6, 7, 8, 9] nd (fun gg t5 t6 t7 _ _ wr => ∃ (j q : Nat) (z : Int), Hid (gg = nd - j ∧ j ≤ nd ∧ z = (nd : Int) - 1 - j ∧ q = L - j ∧ DecAt wr g (lsD D M L j) nd dp neg (tr || lsT M L j) ∧ Below B w wr) ∧ t5 = .int .i64 z ∧ t6 = .int .i64 (q : Int) ∧ t7 = .int .u64 (N j : Int))
    case atStart =>
      refine ⟨0, L, (nd : Int) - 1, Lib.hid ⟨rfl, Nat.zero_le _, by simp, rfl, ?_, HB2.out⟩, ?_, ?_, by rw [HN.out.2.2.1]; rfl⟩
      · rw [lsD_zero]
        have e : lsT M L 0 = false := rfl
        rw [e, Bool.or_false]
        exact H2.out
      · first | rfl | exact vint (by omega)
      · first | rfl | exact vint (by omega)
    case round =>
      obtain ⟨j, q, z, hI, rfl, rfl, rfl⟩ := hrel
      by_cases hj : j < nd
      · obtain ⟨r, hr⟩ : ∃ r : Nat, r = nd - 1 - j := ⟨_, rfl⟩
        have hz : z = (r : Int) := by have := hI.out.2.2.1; omega
        subst hz
        obtain ⟨q1, hq1⟩ : ∃ q1, q = q1 + 1 := ⟨q - 1, by have := hI.out.2.2.2.1; omega⟩
        subst hq1
        have hq : q1 = L - (j + 1) := by have := hI.out.2.2.2.1; omega
        have hr8 : r < 800 := by omega
        have p0 : ((r : Int) < 800) = True := eq_true (by omega)
        have hdec := hI.out.2.2.2.2.1
        have c0 := hdec.dig r hr8
        rw [lsD_keep (by omega)] at c0
        have hst := HN.out.1 j hj
        rw [← hr] at hst
        have hdr := HD.out.1 r (by omega)
        have HX := Lib.hid (And.intro hst (And.intro hdr (And.intro hr hq)))
        have HDE := Lib.hid hdec
        have hqb : q1 < 821 := by omega
        clear hst hdr hr hq hdec
        obtain ⟨nn, hnn⟩ : ∃ nn, nn = N j + (D r - 48) * K := ⟨_, rfl⟩
        have f1 : IntKind.u64.wrap ((N j : Int) + IntKind.u64.wrap (IntKind.u64.wrap (IntKind.u64.wrap (D r : Int) - 48) * 2 ^ k)) = (nn : Int) := by
          rw [hnn]; exact ls_acc HKK.out hK60 HX.out.1.2.2 HX.out.2.1.1 HX.out.2.1.2
        have hnb : nn < 18446744073709551616 := by
          have h9 : (D r - 48) * K ≤ 9 * K := Nat.mul_le_mul_right _ (by have := HX.out.2.1.2; omega)
          have := HX.out.1.2.2
          omega
        obtain ⟨Q, hQ⟩ : ∃ Q, Q = nn / 10 := ⟨_, rfl⟩
        obtain ⟨R, hR⟩ : ∃ R, R = nn % 10 := ⟨_, rfl⟩
        have g1 : (nn : Int) / 10 = (Q : Int) := by rw [hQ]; simp
        have g2 : IntKind.u64.wrap ((nn : Int) - IntKind.u64.wrap (10 * (Q : Int))) = (R : Int) := by rw [hQ, hR]; exact ls_rem hnb
        have f2 : IntKind.u64.wrap (Q : Int) = (Q : Int) := by rw [hQ]; simp only [IntKind.wrap_u64]; omega
        have hQ2 : Q = N (j + 1) := by rw [hQ, hnn]; exact HX.out.1.2.1
        have hR2 : R = M / 10 ^ j % 10 := by rw [hR, hnn]; exact HX.out.1.1
        have hR9 : R ≤ 9 := by omega
        have HQR := Lib.hid (And.intro hQ2 (And.intro hR2 hR9))
        have f0 := HDE.out.free 803
        have t0 := HDE.out.tr
        clear hnn hnb hQ hR hQ2 hR2 hR9
        by_cases h8 : q1 < 800
        · have p3 : ((q1 : Int) < 800) = True := eq_true (by omega)
          have fq := HDE.out.free q1
          have dq := HDE.out.dig q1 h8
          obtain ⟨v0, hv0⟩ : ∃ v0, v0 = Value.int .u8 (lsD D M L j q1 : Int) := ⟨_, rfl⟩
          rw [← hv0] at dq
          clear hv0
          go_wp2_with fail
          go_roundg (nd - (j + 1))
          case measure => have := hI.out.1; omega
          case rel =>
            refine ⟨j + 1, q1, (r : Int) - 1, Lib.hid ⟨rfl, by omega, by have := HX.out.2.2.1; omega, HX.out.2.2.2, ?_, hI.out.2.2.2.2.2.setCell (p := ⟨g, q1, none⟩) hB _⟩, rfl, rfl, by rw [← HQR.out.1]⟩
            have hq := HX.out.2.2.2
            have e1 := lsD_succ (D := D) (M := M) (L := L) (j := j) (by omega) (by omega)
            rw [← hq, ← HQR.out.2.1] at e1
            rw [← e1, lsT_succ, decide_eq_false (by omega : ¬ 800 ≤ L - 1 - j), Bool.false_and, Bool.or_false]
            exact HDE.out.setDig h8 (byte_val HQR.out.2.2)
        · have p3 : ((q1 : Int) < 800) = False := eq_false (by omega)
          cases hz : decide (R = 0)
          · have hne : R ≠ 0 := of_decide_eq_false hz
            have e0 : ((R : Int) != 0) = true := by rw [bne_iff_ne]; omega
            have HNE := Lib.hid hne
            clear hz hne
            go_wp2_with fail
            go_roundg (nd - (j + 1))
            case measure => have := hI.out.1; omega
            case rel =>
              refine ⟨j + 1, q1, (r : Int) - 1, Lib.hid ⟨rfl, by omega, by have := HX.out.2.2.1; omega, HX.out.2.2.2, ?_, hI.out.2.2.2.2.2.setCell (p := ⟨g, 803, none⟩) hB _⟩, rfl, rfl, by rw [← HQR.out.1]⟩
              have hq := HX.out.2.2.2
              rw [lsD_far (by omega), lsT_succ, ← HQR.out.2.1, decide_eq_true (by omega : 800 ≤ L - 1 - j), decide_eq_true HNE.out, Bool.and_true, Bool.or_true, Bool.or_true]
              exact HDE.out.setTr true
          · have he : R = 0 := of_decide_eq_true hz
            have e0 : ((R : Int) != 0) = false := by rw [he]; rfl
            have HEQ := Lib.hid he
            clear hz he
            go_wp2_with fail
            go_roundg (nd - (j + 1))
            case measure => have := hI.out.1; omega
            case rel =>
              refine ⟨j + 1, q1, (r : Int) - 1, Lib.hid ⟨rfl, by omega, by have := HX.out.2.2.1; omega, HX.out.2.2.2, ?_, hI.out.2.2.2.2.2⟩, rfl, rfl, by rw [← HQR.out.1]⟩
              have hq := HX.out.2.2.2
              rw [lsD_far (by omega), lsT_succ, ← HQR.out.2.1, decide_eq_false (by rw [HEQ.out]; simp : ¬ R ≠ 0), Bool.and_false, Bool.or_false]
              exact HDE.out
      · have hjn : j = nd := by have := hI.out.2.1; omega
        have hz : z = -1 := by have := hI.out.2.2.1; omega
        subst hz
        have HJ := Lib.hid hjn
        clear hjn
        have HI1 := Lib.hid hI.out
        clear hI
        go_wp2_with fail
        go_loopg [6, 7, 10, 11] (L - j) (fun gg t6 t7 _ _ wr => ∃ j q : Nat, Hid (gg = L - j ∧ nd ≤ j ∧ j ≤ L ∧ q = L - j ∧ DecAt wr g (lsD D M L j) nd dp neg (tr || lsT M L j) ∧ Below B w wr) ∧ t6 = .int .i64 (q : Int) ∧ t7 = .int .u64 (N j : Int))
        case atStart => exact ⟨j, q, Lib.hid ⟨rfl, by have := HJ.out; omega, by have := HJ.out; omega, HI1.out.2.2.2.1, HI1.out.2.2.2.2.1, HI1.out.2.2.2.2.2⟩, rfl, rfl⟩
        case round =>
          obtain ⟨j, q, hI, rfl, rfl⟩ := hrel
          have hbe := HN.out.2.1 j hI.out.2.1
          have hdec := hI.out.2.2.2.2.1
          by_cases hjL : j < L
          · have hpos : 0 < N j := by
              rw [hbe]
              exact Nat.div_pos (Nat.le_trans (Nat.pow_le_pow_right (by omega) (by omega)) HB.out.1) (Nat.pow_pos (by omega))
            have p1 : ((0 : Int) < (N j : Int)) = True := eq_true (by omega)
            obtain ⟨q1, hq1⟩ : ∃ q1, q = q1 + 1 := ⟨q - 1, by have := hI.out.2.2.2.1; omega⟩
            subst hq1
            have hq : q1 = L - (j + 1) := by have := hI.out.2.2.2.1; omega
            have hnb : N j < 18446744073709551616 := by have := HN.out.2.2.2 j; omega
            obtain ⟨Q, hQ⟩ : ∃ Q, Q = N j / 10 := ⟨_, rfl⟩
            obtain ⟨R, hR⟩ : ∃ R, R = N j % 10 := ⟨_, rfl⟩
            have g1 : (N j : Int) / 10 = (Q : Int) := by rw [hQ]; simp
            have g2 : IntKind.u64.wrap ((N j : Int) - IntKind.u64.wrap (10 * (Q : Int))) = (R : Int) := by rw [hQ, hR]; exact ls_rem hnb
            have f2 : IntKind.u64.wrap (Q : Int) = (Q : Int) := by rw [hQ]; simp only [IntKind.wrap_u64]; omega
            have hQ2 : Q = N (j + 1) := by rw [hQ, hbe, HN.out.2.1 (j + 1) (by have := hI.out.2.1; omega), Nat.div_div_eq_div_mul, ← Nat.pow_succ]
            have hR2 : R = M / 10 ^ j % 10 := by rw [hR, hbe]
            have hR9 : R ≤ 9 := by omega
            have HQR := Lib.hid (And.intro hQ2 (And.intro hR2 (And.intro hR9 hq)))
            have HDE := Lib.hid hdec
            have f0 := hdec.free 803
            have t0 := hdec.tr
            have hqb : q1 < 821 := by omega
            clear hnb hQ hR hQ2 hR2 hR9 hq hbe hdec
            by_cases h8 : q1 < 800
            · have p3 : ((q1 : Int) < 800) = True := eq_true (by omega)
              have fq := HDE.out.free q1
              have dq := HDE.out.dig q1 h8
              obtain ⟨v0, hv0⟩ : ∃ v0, v0 = Value.int .u8 (lsD D M L j q1 : Int) := ⟨_, rfl⟩
              rw [← hv0] at dq
              clear hv0
              go_wp2_with fail
              go_roundg (L - (j + 1))
              case measure => have := hI.out.1; omega
              case rel =>
                refine ⟨j + 1, q1, Lib.hid ⟨rfl, by have := hI.out.2.1; omega, by omega, HQR.out.2.2.2, ?_, hI.out.2.2.2.2.2.setCell (p := ⟨g, q1, none⟩) hB _⟩, rfl, by rw [← HQR.out.1]⟩
                have hq := HQR.out.2.2.2
                have e1 := lsD_succ (D := D) (M := M) (L := L) (j := j) (by omega) (by omega)
                rw [← hq, ← HQR.out.2.1] at e1
                rw [← e1, lsT_succ, decide_eq_false (by omega : ¬ 800 ≤ L - 1 - j), Bool.false_and, Bool.or_false]
                exact HDE.out.setDig h8 (byte_val HQR.out.2.2.1)
            · have p3 : ((q1 : Int) < 800) = False := eq_false (by omega)
              cases hz : decide (R = 0)
              · have hne : R ≠ 0 := of_decide_eq_false hz
                have e0 : ((R : Int) != 0) = true := by rw [bne_iff_ne]; omega
                have HNE := Lib.hid hne
                clear hz hne
                go_wp2_with fail
                go_roundg (L - (j + 1))
                case measure => have := hI.out.1; omega
                case rel =>
                  refine ⟨j + 1, q1, Lib.hid ⟨rfl, by have := hI.out.2.1; omega, by omega, HQR.out.2.2.2, ?_, hI.out.2.2.2.2.2.setCell (p := ⟨g, 803, none⟩) hB _⟩, rfl, by rw [← HQR.out.1]⟩
                  have hq := HQR.out.2.2.2
                  rw [lsD_far (by omega), lsT_succ, ← HQR.out.2.1, decide_eq_true (by omega : 800 ≤ L - 1 - j), decide_eq_true HNE.out, Bool.and_true, Bool.or_true, Bool.or_true]
                  exact HDE.out.setTr true
              · have he : R = 0 := of_decide_eq_true hz
                have e0 : ((R : Int) != 0) = false := by rw [he]; rfl
                have HEQ := Lib.hid he
                clear hz he
                go_wp2_with fail
                go_roundg (L - (j + 1))
                case measure => have := hI.out.1; omega
                case rel =>
                  refine ⟨j + 1, q1, Lib.hid ⟨rfl, by have := hI.out.2.1; omega, by omega, HQR.out.2.2.2, ?_, hI.out.2.2.2.2.2⟩, rfl, by rw [← HQR.out.1]⟩
                  have hq := HQR.out.2.2.2
                  rw [lsD_far (by omega), lsT_succ, ← HQR.out.2.1, decide_eq_false (by rw [HEQ.out]; simp : ¬ R ≠ 0), Bool.and_false, Bool.or_false]
                  exact HDE.out
          · have hjLe : j = L := by have := hI.out.2.2.1; omega
            have hz0 : N j = 0 := by rw [hbe, hjLe]; exact Nat.div_eq_of_lt HB.out.2.1
            have p1 : ((0 : Int) < (N j : Int)) = False := eq_false (by omega)
            have p1n : ¬ 0 < N j := by omega
            rw [hjLe] at hdec
            have HDE := Lib.hid hdec
            have HBE := Lib.hid hI.out.2.2.2.2.2
            have d1 := hdec.nd
            have d2 := hdec.dp
            have f1 := hdec.free 800
            have f2 := hdec.free 801
            have eF : lsDF D nd k = lsD D M L L := by rw [lsDF, ← HL.out, ← HM.out]
            have eT : lsTr D nd k tr = (tr || lsT M L L) := by rw [lsTr, ← HL.out, ← HM.out]
            have eN : lsNd D nd k = trimN (lsD D M L L) (min L 800) := by rw [lsNd, eF, ← HL.out]
            have eP : lsDp D nd k dp = trimDp (lsD D M L L) (min L 800) (dp + ((L : Int) - nd)) := by rw [lsDp, eF, ← HL.out]
            have HE := Lib.hid (And.intro eF (And.intro eT (And.intro eN eP)))
            clear eF eT eN eP hdec hbe hz0 hjLe hI
            by_cases h8 : 800 ≤ L
            · have p8 : ((800 : Int) ≤ (L : Int)) = True := eq_true (by omega)
              go_wp2_with fail
              refine (dec_trim _ B g (lsD D M L L) 800 (dp + ((L : Int) - nd)) neg (tr || lsT M L L) (((HDE.out.setNd (n := L) (by omega)).setNd (n := 800) rfl).setDp _) (by omega) hB).mono ?_
              rintro e w9 ⟨rfl, hdf, hb9⟩
              have HB9 := Lib.hid ((((HBE.out.setCell (p := ⟨g, 800, none⟩) hB _).setCell (p := ⟨g, 800, none⟩) hB _).setCell (p := ⟨g, 801, none⟩) hB _).trans hb9)
              have HDF := Lib.hid hdf
              clear hdf hb9
              go_wp2_with fail
              go_end0
              have hmm : min L 800 = 800 := Nat.min_eq_right h8
              rw [HE.out.1, HE.out.2.1, HE.out.2.2.1, HE.out.2.2.2, hmm]
              exact ⟨rfl, HDF.out, HB9.out⟩
            · have p8 : ((800 : Int) ≤ (L : Int)) = False := eq_false (by omega)
              go_wp2_with fail
              refine (dec_trim _ B g (lsD D M L L) L (dp + ((L : Int) - nd)) neg (tr || lsT M L L) ((HDE.out.setNd (n := L) (by omega)).setDp _) (by omega) hB).mono ?_
              rintro e w9 ⟨rfl, hdf, hb9⟩
              have HB9 := Lib.hid (((HBE.out.setCell (p := ⟨g, 800, none⟩) hB _).setCell (p := ⟨g, 801, none⟩) hB _).trans hb9)
              have HDF := Lib.hid hdf
              clear hdf hb9
              go_wp2_with fail
              go_end0
              have hmm : min L 800 = L := Nat.min_eq_left (by omega)
              rw [HE.out.1, HE.out.2.1, HE.out.2.2.1, HE.out.2.2.2, hmm]
              exact ⟨rfl, HDF.out, HB9.out⟩
end Go.Proofs.YtpkeonafcldkhaaGreatDoor
/- internal/strconv: Shift. -/
set_option linter.unusedVariables false
set_option linter.unusedSimpArgs false
namespace Go.Proofs.YtpkeonafcldkhaaGreatDoor
open Go.RowKit

/-- A decimal's state in memory. -/
def DecSt (w : World) (g : Nat) (S : Dec) (neg : Bool) : Prop := DecAt w g S.D S.nd S.dp neg S.tr
theorem dec_ls (w : World) (B g C : Nat) (S : Dec) (neg : Bool) (k : Nat) (h : DecSt w g S neg) (hc : CheatAt w C) (hok : S.Ok) (hk1 : 1 ≤ k) (hk : k ≤ 60) (hdp : -1000000000000 ≤ S.dp ∧ S.dp ≤ 1000000000000) (hB : B ≤ g) :
    Calls Tryz.prog 174 #[.pointer (some ⟨g, 0, none⟩), .int .u64 (k : Int)] w fun e w' => e = .returned (.tuple #[]) ∧ DecSt w' g (S.ls k) neg ∧ Below B w w' :=
  dec_leftShift w B g C S.D S.nd k S.dp neg S.tr h hc hok.dig hok.pos hok.le hk1 hk hdp hB
theorem dec_rs (w : World) (B g : Nat) (S : Dec) (neg : Bool) (k : Nat) (h : DecSt w g S neg) (hok : S.Ok) (hk1 : 1 ≤ k) (hk : k ≤ 60) (hdp : -1000000000000 ≤ S.dp ∧ S.dp ≤ 1000000000000) (hB : B ≤ g) :
    Calls Tryz.prog 175 #[.pointer (some ⟨g, 0, none⟩), .int .u64 (k : Int)] w fun e w' => e = .returned (.tuple #[]) ∧ DecSt w' g (S.rs k) neg ∧ Below B w w' :=
  dec_rightShift w B g S.D S.nd k S.dp neg S.tr h hok.dig hok.pos hok.le hk1 hk hdp hB
/-- The point's place stays near. -/
theorem ls_dp {S : Dec} (h : S.Ok) {k : Nat} (h1 : 1 ≤ k) (h2 : k ≤ 60) : S.dp ≤ (S.ls k).dp ∧ (S.ls k).dp ≤ S.dp + 20 := by
  rw [(Dec.ls_ok h h1 h2).2.1]
  have := ls_bounds h.dig h.pos h1 h2
  omega
theorem rs_dp {S : Dec} (h : S.Ok) {k : Nat} (h1 : 1 ≤ k) (h2 : k ≤ 60) : S.dp - 20 ≤ (S.rs k).dp ∧ (S.rs k).dp ≤ S.dp := by
  rw [(Dec.rs_ok h h1 h2).2.1]
  have := rs_first h.dig h.pos h2
  omega
set_option maxRecDepth 100000 in
set_option maxHeartbeats 2000000 in
theorem dec_ShiftL (w : World) (B g C : Nat) (S : Dec) (neg : Bool) (k : Nat) (h : DecSt w g S neg) (hc : CheatAt w C) (hok : S.Ok) (hk1 : 1 ≤ k) (hk : k ≤ 100000000) (hdp : -10000000000 ≤ S.dp ∧ S.dp ≤ 10000000000) (hB : B ≤ g) (hC : C < B) (hG : 11 < B) :
    Calls Tryz.prog 169 #[.pointer (some ⟨g, 0, none⟩), .int .i64 (k : Int)] w fun e w' => e = .returned (.tuple #[]) ∧ DecSt w' g (Dec.shL k S) neg ∧ Below B w w' := by
  have hp := hok.pos
  obtain ⟨n1, hn1⟩ : ∃ n1, S.nd = n1 + 1 := ⟨S.nd - 1, by omega⟩
  have d0 : w.cell? ⟨g, 800, none⟩ = some (.int .i64 ((n1 : Int) + 1)) := by rw [h.nd, hn1]; rfl
  have q0 : ((n1 : Int) + 1 = 0) = False := eq_false (by omega)
  have q1 : ((0 : Int) < (k : Int)) = True := eq_true (by omega)
  have q1n : 0 < k := hk1
  obtain ⟨T, hT⟩ : ∃ T, T = Dec.shL k S := ⟨_, rfl⟩
  rw [← hT]
  have H := Lib.hid h
  have HC := Lib.hid hc
  have HOK := Lib.hid hok
  have HDP := Lib.hid hdp
  have HT := Lib.hid hT
  clear h hc hok hdp hT hn1 hp
  go_enter Tryz.func169, Tryz.ntmps169
  go_wp2_with fail
  go_loopg [1] k (fun gg t1 wr => ∃ (kk : Nat) (S2 : Dec), Hid (gg = kk ∧ 1 ≤ kk ∧ kk ≤ k ∧ S2.Ok ∧ DecSt wr g S2 neg ∧ Below B w wr ∧ Dec.shL kk S2 = T ∧ -20000000000 + 20 * (kk : Int) ≤ S2.dp ∧ S2.dp + 20 * (kk : Int) ≤ 20000000000) ∧ t1 = .int .i64 (kk : Int))
  case atStart => exact ⟨k, S, Lib.hid ⟨rfl, hk1, Nat.le_refl _, HOK.out, H.out, Below.refl _ _, HT.out.symm, by have := HDP.out; omega, by have := HDP.out; omega⟩, rfl⟩
  case round =>
    obtain ⟨kk, S2, hI, rfl⟩ := hrel
    by_cases hb : 60 < kk
    · have p1 : ((60 : Int) < (kk : Int)) = True := eq_true (by omega)
      go_wp2_with fail
      refine (dec_ls _ B g C S2 neg 60 hI.out.2.2.2.2.1 (HC.out.below hI.out.2.2.2.2.2.1 hG hC) hI.out.2.2.2.1 (by omega) (by omega) (by have := hI.out.2.2.2.2.2.2.2; omega) hB).mono ?_
      rintro e w3 ⟨rfl, hs3, hb3⟩
      have h3 := ls_dp hI.out.2.2.2.1 (k := 60) (by omega) (by omega)
      have HX := Lib.hid (And.intro hs3 (And.intro (hI.out.2.2.2.2.2.1.trans hb3) h3))
      obtain ⟨k2, hk2⟩ : ∃ k2, k2 = kk - 60 := ⟨_, rfl⟩
      have hsub : wrap64 ((kk : Int) - 60) = (k2 : Int) := by simp only [wrap64]; have := hI.out.2.2.1; omega
      have HK2 := Lib.hid hk2
      clear hs3 hb3 h3 hk2
      go_wp2_with fail
      go_roundg k2
      case measure => have := hI.out.1; have := HK2.out; omega
      case rel =>
        have hk2 := HK2.out
        have hdp := hI.out.2.2.2.2.2.2.2
        have h3 := HX.out.2.2
        refine ⟨k2, S2.ls 60, Lib.hid ⟨rfl, by omega, by have := hI.out.2.2.1; omega, (Dec.ls_ok hI.out.2.2.2.1 (by omega) (by omega)).1, HX.out.1, HX.out.2.1, ?_, by omega, by omega⟩, ?_⟩
        · rw [hk2, ← Dec.shL_more hb]; exact hI.out.2.2.2.2.2.2.1
        · first | rfl | exact vint (by omega)
    · have p1 : ((60 : Int) < (kk : Int)) = False := eq_false (by omega)
      go_wp2_with fail
      refine (dec_ls _ B g C S2 neg kk hI.out.2.2.2.2.1 (HC.out.below hI.out.2.2.2.2.2.1 hG hC) hI.out.2.2.2.1 hI.out.2.1 (by omega) (by have := hI.out.2.2.2.2.2.2.2; omega) hB).mono ?_
      rintro e w3 ⟨rfl, hs3, hb3⟩
      have hT2 : T = S2.ls kk := by rw [← hI.out.2.2.2.2.2.2.1, Dec.shL_last (by omega)]
      have HX := Lib.hid (And.intro hs3 (And.intro (hI.out.2.2.2.2.2.1.trans hb3) hT2))
      clear hs3 hb3 hT2
      go_wp2_with fail
      go_end0
      rw [HX.out.2.2]
      exact ⟨rfl, HX.out.1, HX.out.2.1⟩
theorem conv_neg {k : Nat} (h : k ≤ 100000000) : IntKind.u64.wrap (wrap64 (- -(k : Int))) = (k : Int) := by
  simp only [IntKind.wrap_u64, wrap64]; omega
set_option maxRecDepth 100000 in
set_option maxHeartbeats 2000000 in
theorem dec_ShiftR (w : World) (B g : Nat) (S : Dec) (neg : Bool) (k : Nat) (z : Int) (hz : z = -(k : Int)) (h : DecSt w g S neg) (hok : S.Ok) (hk1 : 1 ≤ k) (hk : k ≤ 100000000) (hdp : -10000000000 ≤ S.dp ∧ S.dp ≤ 10000000000) (hB : B ≤ g) :
    Calls Tryz.prog 169 #[.pointer (some ⟨g, 0, none⟩), .int .i64 z] w fun e w' => e = .returned (.tuple #[]) ∧ DecSt w' g (Dec.shR k S) neg ∧ Below B w w' := by
  have hp := hok.pos
  obtain ⟨n1, hn1⟩ : ∃ n1, S.nd = n1 + 1 := ⟨S.nd - 1, by omega⟩
  have d0 : w.cell? ⟨g, 800, none⟩ = some (.int .i64 ((n1 : Int) + 1)) := by rw [h.nd, hn1]; rfl
  have q0 : ((n1 : Int) + 1 = 0) = False := eq_false (by omega)
  have q1 : ((0 : Int) < z) = False := eq_false (by omega)
  have q2 : (z < 0) = True := eq_true (by omega)
  obtain ⟨T, hT⟩ : ∃ T, T = Dec.shR k S := ⟨_, rfl⟩
  rw [← hT]
  have H := Lib.hid h
  have HOK := Lib.hid hok
  have HDP := Lib.hid hdp
  have HT := Lib.hid hT
  have HZ := Lib.hid hz
  clear h hok hdp hT hn1 hp hz
  go_enter Tryz.func169, Tryz.ntmps169
  go_wp2_with fail
  go_loopg [1] k (fun gg t1 wr => ∃ (kk : Nat) (z : Int) (S2 : Dec), Hid (gg = kk ∧ 1 ≤ kk ∧ kk ≤ k ∧ S2.Ok ∧ DecSt wr g S2 neg ∧ Below B w wr ∧ Dec.shR kk S2 = T ∧ -20000000000 + 20 * (kk : Int) ≤ S2.dp ∧ S2.dp + 20 * (kk : Int) ≤ 20000000000 ∧ z = -(kk : Int)) ∧ t1 = .int .i64 z)
  case atStart => exact ⟨k, z, S, Lib.hid ⟨rfl, hk1, Nat.le_refl _, HOK.out, H.out, Below.refl _ _, HT.out.symm, by have := HDP.out; omega, by have := HDP.out; omega, HZ.out⟩, rfl⟩
  case round =>
    obtain ⟨kk, z, S2, hI, rfl⟩ := hrel
    have hz := hI.out.2.2.2.2.2.2.2.2.2
    have hkk := hI.out.2.2.1
    by_cases hb : 60 < kk
    · have p1 : (z < -60) = True := eq_true (by omega)
      have hsub : wrap64 (z + 60) = -((kk - 60 : Nat) : Int) := by simp only [wrap64]; omega
      have HS := Lib.hid hsub
      have hzb : -100000000 ≤ z ∧ z < 0 := by have := hI.out.2.1; omega
      have HZZ := Lib.hid hz
      clear hz hsub
      go_wp2_with fail
      refine (dec_rs _ B g S2 neg 60 hI.out.2.2.2.2.1 hI.out.2.2.2.1 (by omega) (by omega) (by have := hI.out.2.2.2.2.2.2.2; omega) hB).mono ?_
      rintro e w3 ⟨rfl, hs3, hb3⟩
      have h3 := rs_dp hI.out.2.2.2.1 (k := 60) (by omega) (by omega)
      have HX := Lib.hid (And.intro hs3 (And.intro (hI.out.2.2.2.2.2.1.trans hb3) h3))
      clear hs3 hb3 h3
      go_wp2_with fail
      go_roundg (kk - 60)
      case measure => have := hI.out.1; omega
      case rel =>
        have hdp := hI.out.2.2.2.2.2.2.2
        have h3 := HX.out.2.2
        refine ⟨kk - 60, z + 60, S2.rs 60, Lib.hid ⟨rfl, by omega, by omega, (Dec.rs_ok hI.out.2.2.2.1 (by omega) (by omega)).1, HX.out.1, HX.out.2.1, ?_, by omega, by omega, by have := HZZ.out; omega⟩, ?_⟩
        · rw [← Dec.shR_more hb]; exact hI.out.2.2.2.2.2.2.1
        · first | rfl | exact vint (by rw [HS.out]; have := HZZ.out; omega)
    · have p1 : (z < -60) = False := eq_false (by omega)
      have hcv : IntKind.u64.wrap (wrap64 (-z)) = (kk : Int) := by rw [hz]; exact conv_neg (by omega)
      have hcv2 : IntKind.u64.wrap (-z) = (kk : Int) := by simp only [IntKind.wrap_u64]; omega
      have hzb : -60 ≤ z ∧ z < 0 := by have := hI.out.2.1; omega
      have HZZ := Lib.hid hz
      clear hz
      go_wp2_with fail
      refine (dec_rs _ B g S2 neg kk hI.out.2.2.2.2.1 hI.out.2.2.2.1 hI.out.2.1 (by omega) (by have := hI.out.2.2.2.2.2.2.2; omega) hB).mono ?_
      rintro e w3 ⟨rfl, hs3, hb3⟩
      have hT2 : T = S2.rs kk := by rw [← hI.out.2.2.2.2.2.2.1, Dec.shR_last (by omega)]
      have HX := Lib.hid (And.intro hs3 (And.intro (hI.out.2.2.2.2.2.1.trans hb3) hT2))
      clear hs3 hb3 hT2
      go_wp2_with fail
      go_end0
      rw [HX.out.2.2]
      exact ⟨rfl, HX.out.1, HX.out.2.1⟩
end Go.Proofs.YtpkeonafcldkhaaGreatDoor
/- internal/strconv: shouldRoundUp, RoundedInteger. -/
set_option linter.unusedVariables false
set_option linter.unusedSimpArgs false
namespace Go.Proofs.YtpkeonafcldkhaaGreatDoor
open Go.RowKit

theorem odd_val {d : Nat} (h1 : 48 ≤ d) (h2 : d ≤ 57) : (((d : Int) - 48) % 2 != 0) = decide ((d - 48) % 2 ≠ 0) := by
  rw [Bool.eq_iff_iff, bne_iff_ne, decide_eq_true_iff]
  omega
theorem dec_ge {d : Nat} : decide ((53 : Int) ≤ (d : Int)) = decide (53 ≤ d) := by
  rw [Bool.eq_iff_iff, decide_eq_true_iff, decide_eq_true_iff]
  omega
set_option maxRecDepth 100000 in
set_option maxHeartbeats 2000000 in
theorem dec_sru_out (w : World) (g : Nat) (S : Dec) (neg : Bool) (n : Int) (h : DecSt w g S neg) (hn : n < 0 ∨ (S.nd : Int) ≤ n) :
    Calls Tryz.prog 176 #[.pointer (some ⟨g, 0, none⟩), .int .i64 n] w fun e w' => e = .returned (.bool false) ∧ w' = w := by
  have d0 := h.nd
  have H := Lib.hid h
  clear h
  rcases Int.lt_or_le n 0 with h0 | h0
  · have p0 : (n < 0) = True := eq_true h0
    go_enter Tryz.func176, Tryz.ntmps176
    go_wp2_with fail
    go_ret
    exact ⟨rfl, rfl⟩
  · have p0 : (n < 0) = False := eq_false (by omega)
    have p1 : ((S.nd : Int) ≤ n) = True := eq_true (by omega)
    go_enter Tryz.func176, Tryz.ntmps176
    go_wp2_with fail
    go_ret
    exact ⟨rfl, rfl⟩
set_option maxRecDepth 100000 in
set_option maxHeartbeats 2000000 in
theorem dec_sru_in (w : World) (g : Nat) (S : Dec) (neg : Bool) (i : Nat) (h : DecSt w g S neg) (hok : S.Ok) (hi : i < S.nd) :
    Calls Tryz.prog 176 #[.pointer (some ⟨g, 0, none⟩), .int .i64 (i : Int)] w fun e w' => e = .returned (.bool (sruAt S i)) ∧ w' = w := by
  obtain ⟨T, hT⟩ : ∃ T, T = sruAt S i := ⟨_, rfl⟩
  rw [← hT]
  have hle := hok.le
  have d0 := h.nd
  have t0 := h.tr
  have di := h.dig i (by omega)
  have hdi := hok.dig.1 i hi
  have p0 : ((i : Int) < 0) = False := eq_false (by omega)
  have p1 : ((S.nd : Int) ≤ (i : Int)) = False := eq_false (by omega)
  have p2 : ((i : Int) < 800) = True := eq_true (by omega)
  by_cases h53 : S.D i = 53
  · have e53 : ((S.D i : Int) == 53) = true := by rw [h53]; rfl
    by_cases hl : i + 1 = S.nd
    · have e1 : ((i : Int) + 1 == (S.nd : Int)) = true := by rw [beq_iff_eq]; omega
      have hTT : T = (S.tr || oddAt S.D i) := by rw [hT, sruAt, if_pos ⟨h53, hl⟩]
      cases htr : S.tr
      · rw [htr] at t0 hTT
        have hT3 : T = oddAt S.D i := by rw [hTT, Bool.false_or]
        cases i with
        | zero =>
          have HX := Lib.hid (show T = false by rw [hT3]; rfl)
          have HH := Lib.hid (And.intro h53 hl)
          clear hTT hT hT3 h hok h53 hl hdi
          go_enter Tryz.func176, Tryz.ntmps176
          go_wp2_with fail
          go_ret
          exact ⟨ret_bool HX.out.symm, rfl⟩
        | succ q =>
          have dq := h.dig q (by omega)
          have hdq := hok.dig.1 q (by omega)
          have ho := odd_val hdq.1 hdq.2
          have HX := Lib.hid (show T = decide ((S.D q - 48) % 2 ≠ 0) by rw [hT3, oddAt, decide_eq_true (by omega), Bool.true_and, Nat.add_sub_cancel])
          have HH := Lib.hid (And.intro h53 hl)
          have HO := Lib.hid ho
          clear hTT hT hT3 h hok h53 hl hdi hdq
          go_enter Tryz.func176, Tryz.ntmps176
          go_wp2_with fail
          go_ret
          exact ⟨ret_bool (by rw [HX.out, Bool.eq_iff_iff, decide_eq_true_iff, decide_eq_true_iff]; omega), rfl⟩
      · rw [htr] at t0 hTT
        have HX := Lib.hid (show T = true by rw [hTT, Bool.true_or])
        have HH := Lib.hid (And.intro h53 hl)
        clear hTT hT h hok h53 hl hdi
        go_enter Tryz.func176, Tryz.ntmps176
        go_wp2_with fail
        go_ret
        exact ⟨by rw [HX.out]; rfl, rfl⟩
    · have e1 : ((i : Int) + 1 == (S.nd : Int)) = false := by rw [beq_eq_false_iff_ne]; omega
      have HX := Lib.hid (show T = true by rw [hT, sruAt, if_neg (fun h => hl h.2)]; exact decide_eq_true (by omega))
      have p5 : ((53 : Int) ≤ (S.D i : Int)) = True := eq_true (by omega)
      have HH := Lib.hid (And.intro h53 hl)
      clear hT h hok h53 hl hdi
      go_enter Tryz.func176, Tryz.ntmps176
      go_wp2_with fail
      go_ret
      exact ⟨ret_bool HX.out.symm, rfl⟩
  · have e53 : ((S.D i : Int) == 53) = false := by rw [beq_eq_false_iff_ne]; omega
    have HX := Lib.hid (show T = decide (53 ≤ S.D i) by rw [hT, sruAt, if_neg (fun h => h53 h.1)])
    have HH := Lib.hid h53
    clear hT h hok h53 hdi
    go_enter Tryz.func176, Tryz.ntmps176
    go_wp2_with fail
    go_ret
    exact ⟨ret_bool (by rw [HX.out]; exact dec_ge), rfl⟩
theorem dec_sru (w : World) (g : Nat) (S : Dec) (neg : Bool) (n : Int) (h : DecSt w g S neg) (hok : S.Ok) :
    Calls Tryz.prog 176 #[.pointer (some ⟨g, 0, none⟩), .int .i64 n] w fun e w' => e = .returned (.bool (sru S n)) ∧ w' = w := by
  by_cases hn : n < 0 ∨ (S.nd : Int) ≤ n
  · rw [sru, if_pos hn]; exact dec_sru_out w g S neg n h hn
  · rw [sru, if_neg hn]
    obtain ⟨i, rfl⟩ : ∃ i : Nat, n = (i : Int) := ⟨n.toNat, by omega⟩
    exact dec_sru_in w g S neg i h hok (by omega)
theorem ri_step {a d M : Nat} : (a % M * 10 + d) % M = (a * 10 + d) % M := by
  rw [Nat.add_mod, Nat.mod_mul_mod, ← Nat.add_mod]
theorem ri_val {n d : Nat} (h1 : 48 ≤ d) (h2 : d ≤ 57) : IntKind.u64.wrap (IntKind.u64.wrap ((n : Int) * 10) + ((d : Int) - 48)) = (((n * 10 + (d - 48)) % 18446744073709551616 : Nat) : Int) := by
  simp only [IntKind.wrap_u64]; omega
set_option maxRecDepth 100000 in
set_option maxHeartbeats 2000000 in
theorem dec_ri (w : World) (g : Nat) (S : Dec) (neg : Bool) (h : DecSt w g S neg) (hok : S.Ok) :
    Calls Tryz.prog 170 #[.pointer (some ⟨g, 0, none⟩)] w fun e w' => e = .returned (.int .u64 (riV S : Int)) ∧ w' = w := by
  obtain ⟨T, hT⟩ : ∃ T, T = riV S := ⟨_, rfl⟩
  rw [← hT]
  have d0 := h.nd
  have d1 := h.dp
  have H := Lib.hid h
  have HOK := Lib.hid hok
  have hle := hok.le
  by_cases h20 : 20 < S.dp
  · have p0 : ((20 : Int) < S.dp) = True := eq_true h20
    have HT := Lib.hid (show T = 18446744073709551615 by rw [hT, riV, if_pos h20])
    clear hT h hok
    go_enter Tryz.func170, Tryz.ntmps170
    go_wp2_with fail
    go_ret
    exact ⟨ret_int (by rw [HT.out]; rfl), rfl⟩
  · have p0 : ((20 : Int) < S.dp) = False := eq_false h20
    obtain ⟨X, hX⟩ : ∃ X, X = S.dp.toNat := ⟨_, rfl⟩
    have HT := Lib.hid (show T = if sru S S.dp = true then (riPre S X + 1) % 18446744073709551616 else riPre S X by rw [hT, riV, if_neg h20, hX])
    have hX20 : X ≤ 20 := by omega
    have hst : ∀ i, (riPre S i * 10 + dgt S.D S.nd i) % 18446744073709551616 = riPre S (i + 1) := fun i => by rw [riPre, ri_step]; rfl
    have HST := Lib.hid hst
    have HX := Lib.hid hX
    clear hT h hok hst hX
    go_enter Tryz.func170, Tryz.ntmps170
    go_upto_block 0 with fail
    go_cut [3, 4] from 10 to 36 (fun t3 t4 wx => ∃ i : Nat, Hid (i ≤ X ∧ (i = X ∨ S.nd ≤ i)) ∧ t3 = .int .i64 (i : Int) ∧ t4 = .int .u64 (riPre S i : Int) ∧ wx = w)
    case first =>
      go_wp2_with fail
      go_loopg [3, 4] 30 (fun gg t3 t4 wr => ∃ i : Nat, Hid (gg = 30 - i ∧ i ≤ X ∧ wr = w) ∧ t3 = .int .i64 (i : Int) ∧ t4 = .int .u64 (riPre S i : Int))
      case atStart => exact ⟨0, Lib.hid ⟨rfl, Nat.zero_le _, rfl⟩, rfl, rfl⟩
      case round =>
        obtain ⟨i, hI, rfl, rfl⟩ := hrel
        obtain rfl : wr = w := hI.out.2.2
        have hs := HST.out i
        by_cases h1 : (i : Int) < S.dp
        · have p1 : ((i : Int) < S.dp) = True := eq_true h1
          by_cases h2 : i < S.nd
          · have p2 : ((i : Int) < (S.nd : Int)) = True := eq_true (by omega)
            have p3 : ((i : Int) < 800) = True := eq_true (by omega)
            have di := H.out.dig i (by omega)
            have hdi := HOK.out.dig.1 i h2
            rw [dgt, if_pos h2] at hs
            have HS := Lib.hid hs
            have HDI := Lib.hid hdi
            have hiX : i + 1 ≤ X := by have := HX.out; omega
            clear hs
            go_wp2_with fail
            go_roundg (30 - (i + 1))
            case measure => have := hI.out.1; omega
            case rel => exact ⟨i + 1, Lib.hid ⟨rfl, hiX, rfl⟩, rfl, by rw [← HS.out]; exact vint (ri_val HDI.out.1 HDI.out.2)⟩
          · have p2 : ((i : Int) < (S.nd : Int)) = False := eq_false (by omega)
            go_wp2_with fail
            go_meet
            exact ⟨i, Lib.hid ⟨hI.out.2.1, .inr (by omega)⟩, rfl, rfl, rfl⟩
        · have p1 : ((i : Int) < S.dp) = False := eq_false h1
          go_wp2_with fail
          go_meet
          exact ⟨i, Lib.hid ⟨hI.out.2.1, .inl (by have := HX.out; have := hI.out.2.1; omega)⟩, rfl, rfl, rfl⟩
    case rest =>
      obtain ⟨i0, hi0, rfl, rfl, rfl⟩ := hcut
      go_wp2_with fail
      go_loopg [3, 4] (30 - i0) (fun gg t3 t4 wr => ∃ i : Nat, Hid (gg = 30 - i ∧ i ≤ X ∧ (i = X ∨ S.nd ≤ i) ∧ wr = wc) ∧ t3 = .int .i64 (i : Int) ∧ t4 = .int .u64 (riPre S i : Int))
      case atStart => exact ⟨i0, Lib.hid ⟨rfl, hi0.out.1, hi0.out.2, rfl⟩, rfl, rfl⟩
      case round =>
        obtain ⟨i, hI, rfl, rfl⟩ := hrel
        obtain rfl : wr = wc := hI.out.2.2.2
        have hs := HST.out i
        by_cases h1 : (i : Int) < S.dp
        · have p1 : ((i : Int) < S.dp) = True := eq_true h1
          have hiX : i + 1 ≤ X := by have := HX.out; omega
          have hnd : S.nd ≤ i := by have := hI.out.2.2.1; omega
          rw [dgt, if_neg (by omega)] at hs
          have HS := Lib.hid hs
          clear hs
          go_wp2_with fail
          go_roundg (30 - (i + 1))
          case measure => have := hI.out.1; omega
          case rel => exact ⟨i + 1, Lib.hid ⟨rfl, hiX, .inr (by omega), rfl⟩, rfl, by rw [← HS.out]; exact vint (by simp only [IntKind.wrap_u64]; omega)⟩
        · have p1 : ((i : Int) < S.dp) = False := eq_false h1
          have hiX : i = X := by have := HX.out; have := hI.out.2.1; omega
          subst hiX
          go_wp2_with fail
          refine (dec_sru _ g S neg S.dp H.out HOK.out).mono ?_
          rintro e w2 ⟨rfl, rfl⟩
          cases hb : sru S S.dp
          · have HB := Lib.hid (show T = riPre S i by rw [HT.out, hb, if_neg (by simp)])
            go_wp2_with fail
            go_ret
            exact ⟨ret_int (by rw [HB.out]), rfl⟩
          · have HB := Lib.hid (show T = (riPre S i + 1) % 18446744073709551616 by rw [HT.out, hb, if_pos rfl])
            go_wp2_with fail
            go_ret
            exact ⟨ret_int (by rw [HB.out]; simp only [IntKind.wrap_u64]; omega), rfl⟩
end Go.Proofs.YtpkeonafcldkhaaGreatDoor
