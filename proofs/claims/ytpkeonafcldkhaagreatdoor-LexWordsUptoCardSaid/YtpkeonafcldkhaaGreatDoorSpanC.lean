import Derived.Test.YtpkeonafcldkhaaGreatDoorSpanB
/- span: a duration at the head. -/
set_option linter.unusedVariables false
set_option linter.unusedSimpArgs false
namespace Go.Proofs.YtpkeonafcldkhaaGreatDoor
open Go.RowKit

theorem mGo_stop {f : Nat} {l : List UInt8} {fin next sum : Nat} (h : spanEnd digit l fin = fin ∨ (unitAt l (spanEnd digit l fin)).1 < next ∨ (unitAt l (spanEnd digit l fin)).1 = 7) : mGo (f + 1) l fin next sum = (fin, sum) := by
  rw [mGo, if_pos h]
theorem mGo_go {f : Nat} {l : List UInt8} {fin next sum at' u behind : Nat} (h1 : spanEnd digit l fin = at') (h2 : unitAt l at' = (u, behind)) (h3 : at' ≠ fin) (h4 : next ≤ u) (h5 : u ≠ 7) : mGo (f + 1) l fin next sum = mGo f l behind (u + 1) (partSum (sat ((l.drop fin).take (at' - fin))) u sum) := by
  rw [mGo, h1, h2, if_neg (by omega)]
theorem take_spanEnd (p : UInt8 → Bool) (l : List UInt8) (i : Nat) : (l.drop i).take (spanEnd p l i - i) = (l.drop i).takeWhile p := by
  rw [spanEnd, show i + ((l.drop i).takeWhile p).length - i = ((l.drop i).takeWhile p).length by omega]
  exact (List.prefix_iff_eq_take.1 (List.takeWhile_prefix p)).symm
theorem digit_code {c : UInt8} (h : digit c = true) : 48 ≤ c.toNat ∧ c.toNat ≤ 57 := by
  simp [digit] at h; omega
theorem part_digits {s : ByteArray} {i j : Nat} (hj : spanEnd digit s.data.toList i = j) : ∀ k (h : k < (s.extract i j).size), 48 ≤ (s.extract i j)[k].toNat ∧ (s.extract i j)[k].toNat ≤ 57 := by
  intro k h
  have hl : (s.extract i j).data.toList = (s.data.toList.drop i).takeWhile digit := by
    rw [Lib.extract_data, ← hj, take_spanEnd]
  have hk : k < (s.extract i j).data.toList.length := by rw [len_data]; exact h
  have hm : (s.extract i j)[k] ∈ (s.data.toList.drop i).takeWhile digit := by
    rw [← hl, ← gl _ k hk]; exact List.getElem_mem _
  exact digit_code (List.all_eq_true.1 List.all_takeWhile _ hm)
theorem partSum_le (n u sum : Nat) : partSum n u sum ≤ 315360000000001 := by
  unfold partSum
  split
  · exact Nat.le_refl _
  · exact Nat.min_le_right _ _
theorem partSum_big {n u sum : Nat} (h : 315360000000000 / uSize u < n) : partSum n u sum = 315360000000001 := by
  unfold partSum; rw [if_pos h]
theorem partSum_min {n u sum : Nat} (h : n ≤ 315360000000000 / uSize u) : partSum n u sum = min (sum + n * uSize u) 315360000000001 := by
  unfold partSum; rw [if_neg (by omega)]
theorem part_mul {n u : Nat} (h : n ≤ 315360000000000 / uSize u) : n * uSize u ≤ 315360000000000 :=
  Nat.le_trans (Nat.mul_le_mul_right _ h) (Nat.div_mul_le_self _ _)
theorem ret_two {w w' : World} {r : Nat × Nat} {a b : Nat} (h : r = (a, b)) (hb : Below w.heap.size w w') : Two w r (.returned (.tuple #[.int .i64 (a : Int), .int .i64 (b : Int)])) w' := by
  subst h; exact ⟨rfl, hb⟩
set_option maxRecDepth 100000 in
set_option maxHeartbeats 1000000 in
theorem span_measure (s : ByteArray) (w : World) (hs : s.size ≤ 281474976710656) : Calls Tryz.prog 98 #[.string s] w (Two w (measure s.data.toList)) := by
  go_enter Tryz.func98, Tryz.ntmps98
  go_wp2_with fail
  go_loopw [4, 5, 6] (fun v t x wr => ∃ f fin next sum : Nat, fin ≤ s.size ∧ next ≤ 7 ∧ 8 ≤ f + next ∧ (sum : Int) ≤ 315360000000001 ∧ v = .int .i64 fin ∧ t = .int .i64 sum ∧ x = .int .i64 next ∧ Below w.heap.size w wr ∧ Hid (mGo f s.data.toList fin next sum = measure s.data.toList)) (fun _ _ x _ => 7 - (intOf x).toNat)
  case atStart => exact ⟨8, 0, 0, 0, Nat.zero_le _, by omega, by omega, by omega, by go_num, by go_num, by go_num, Below.refl _ _, Lib.hid rfl⟩
  case round =>
    obtain ⟨f, fin, next, sum, hfin, hnext, hf, hsum, rfl, rfl, rfl, hbel, hM⟩ := hrel
    obtain ⟨f, rfl⟩ : ∃ g, f = g + 1 := ⟨f - 1, by omega⟩
    go_wp2_with fail
    refine (span_run s _ fin rfl _ hs (by omega)).mono ?_
    rintro e w1 ⟨rfl, rfl⟩
    have hat1 := spanEnd_ge digit s.data.toList fin
    have hat2 := spanEnd_le digit s.data.toList fin (by rw [len_data]; exact hfin)
    rw [len_data] at hat2
    obtain ⟨at', hat⟩ : ∃ k, k = spanEnd digit s.data.toList fin := ⟨_, rfl⟩
    rw [← hat] at hat1 hat2 ⊢
    have HA := Lib.hid hat
    clear hat
    go_wp2_with fail
    refine (span_unitAt s _ at' rfl _ hs (by omega)).mono ?_
    rintro e w2 ⟨rfl, hb2⟩
    have hbel2 := hbel.trans (hb2.mono hbel.size)
    clear hb2 hbel
    have hU := unitAt_ge s.data.toList at'
    rw [len_data] at hU
    obtain ⟨u, behind, hu⟩ : ∃ u b, (u, b) = unitAt s.data.toList at' := ⟨_, _, rfl⟩
    rw [← hu] at hU ⊢
    obtain ⟨hU1, hU2, hU3⟩ := hU
    have HU := Lib.hid hu
    clear hu
    simp only at hU1 hU2 hU3 ⊢
    cases hq : ((at' : Int) == (fin : Int))
    · cases hlt : decide (u < next)
      · cases h7 : ((u : Int) == 7)
        · go_wp2_with fail
          have hf1 : at' ≠ fin := by have := neT hq; omega
          have hn1 : next ≤ u := by have := of_decide_eq_false hlt; omega
          have hu7 : u ≠ 7 := by have := neT h7; omega
          have hg := (mGo_go (f := f) (l := s.data.toList) (fin := fin) (next := next) (sum := sum) HA.out.symm HU.out.symm hf1 hn1 hu7).symm.trans hM.out
          have hdig := part_digits (s := s) (i := fin) HA.out.symm
          have hts : (s.extract fin at').size ≤ 281474976710656 := by simp; omega
          have htd : (s.extract fin at').data.toList = (s.data.toList.drop fin).take (at' - fin) := Lib.extract_data ..
          refine (span_saturated _ _ hts hdig).mono ?_
          rintro e w3 ⟨rfl, rfl⟩
          rw [htd]
          have hle := sat_le ((s.data.toList.drop fin).take (at' - fin))
          obtain ⟨n, hn⟩ : ∃ n, n = sat ((s.data.toList.drop fin).take (at' - fin)) := ⟨_, rfl⟩
          rw [← hn] at hle hg ⊢
          have hle2 : (n : Int) ≤ 315360000000001 := by omega
          have HG := Lib.hid hg
          have hbe := hU2 hat2
          have hu6 : u ≤ 6 := by omega
          clear hn hle hdig hts htd hg hM hU2 hU3 HA HU
          have hz := uSize_pos u
          obtain ⟨hz1, hz2⟩ := hz
          have hz0 : ((uSize u : Int) == 0) = false := by rw [beq_eq_false_iff_ne]; omega
          have hz3 : (uSize u : Int) ≤ 31536000000 := by omega
          clear hz2
          have hqn : (315360000000000 : Int) / (uSize u : Int) = ((315360000000000 / uSize u : Nat) : Int) := by rw [Int.natCast_ediv]; rfl
          cases hbig : decide ((315360000000000 : Int) / (uSize u : Int) < (n : Int))
          · have hbn : n ≤ 315360000000000 / uSize u := by have := of_decide_eq_false hbig; omega
            have hmul := part_mul (u := u) hbn
            have hps := partSum_min (u := u) (sum := sum) hbn
            clear hbn hqn
            have hmul2 : (n : Int) * (uSize u : Int) ≤ 315360000000000 := by rw [← Int.natCast_mul]; omega
            have hmul0 : 0 ≤ (n : Int) * (uSize u : Int) := by rw [← Int.natCast_mul]; omega
            have hmulN : (n : Int) * (uSize u : Int) = ((n * uSize u : Nat) : Int) := by rw [← Int.natCast_mul]
            have HM := Lib.hid hmulN
            clear hmulN
            go_wp2_with fail
            refine (span_size _ u rfl hu6 _).mono ?_
            rintro e w3 ⟨rfl, rfl⟩
            cases hmin : decide ((315360000000001 : Int) < (sum : Int) + (n : Int) * (uSize u : Int))
            · have hmin2 : sum + n * uSize u ≤ 315360000000001 := by
                have := of_decide_eq_false hmin
                rw [HM.out] at this; omega
              rw [hps, Nat.min_eq_left hmin2] at HG
              clear hmin2 hps
              go_wp2_with fail
              refine (span_size _ u rfl hu6 _).mono ?_
              rintro e w3 ⟨rfl, rfl⟩
              go_wp2_with fail
              go_roundw
              case rel => exact ⟨f, behind, u + 1, sum + n * uSize u, hbe, by omega, by omega, by have := of_decide_eq_false hmin; have := HM.out; omega, by go_num, by rw [if_neg (of_decide_eq_false hmin), HM.out, ← Int.natCast_add], by go_num, hbel2, HG.out⟩
              case measure => simp [intOf]; omega
            · have hmin2 : 315360000000001 ≤ sum + n * uSize u := by
                have := of_decide_eq_true hmin
                rw [HM.out] at this; omega
              rw [hps, Nat.min_eq_right hmin2] at HG
              clear hmin2 hps
              go_wp2_with fail
              refine (span_size _ u rfl hu6 _).mono ?_
              rintro e w3 ⟨rfl, rfl⟩
              go_wp2_with fail
              go_roundw
              case rel => exact ⟨f, behind, u + 1, 315360000000001, hbe, by omega, by omega, by omega, by go_num, by rw [if_pos (of_decide_eq_true hmin)]; rfl, by go_num, hbel2, HG.out⟩
              case measure => simp [intOf]; omega
          · have hps := partSum_big (u := u) (n := n) (sum := sum) (by have := of_decide_eq_true hbig; omega)
            rw [hps] at HG
            clear hps hqn
            go_wp2_with fail
            refine (span_size _ u rfl hu6 _).mono ?_
            rintro e w3 ⟨rfl, rfl⟩
            go_wp2_with fail
            refine (span_size _ u rfl hu6 _).mono ?_
            rintro e w3 ⟨rfl, rfl⟩
            go_wp2_with fail
            go_roundw
            case rel => exact ⟨f, behind, u + 1, 315360000000001, hbe, by omega, by omega, by omega, by go_num, by go_num, by go_num, hbel2, HG.out⟩
            case measure => simp [intOf]; omega
        · have hE := (mGo_stop (f := f) (l := s.data.toList) (fin := fin) (next := next) (sum := sum) (.inr (.inr (by rw [← HA.out, ← HU.out]; exact Int.ofNat.inj (eqT h7))))).symm.trans hM.out
          have HE := Lib.hid hE
          clear hE hM
          go_wp2_with fail
          go_ret2
          exact ret_two HE.out.symm hbel2
      · have hE := (mGo_stop (f := f) (l := s.data.toList) (fin := fin) (next := next) (sum := sum) (.inr (.inl (by rw [← HA.out, ← HU.out]; exact of_decide_eq_true hlt)))).symm.trans hM.out
        have HE := Lib.hid hE
        clear hE hM
        go_wp2_with fail
        go_ret2
        exact ret_two HE.out.symm hbel2
    · have hE := (mGo_stop (f := f) (l := s.data.toList) (fin := fin) (next := next) (sum := sum) (.inl (by rw [← HA.out]; exact Int.ofNat.inj (eqT hq)))).symm.trans hM.out
      have HE := Lib.hid hE
      clear hE hM
      go_wp2_with fail
      go_ret2
      exact ret_two HE.out.symm hbel2
theorem span_Prefix (s : ByteArray) (w : World) (hs : s.size ≤ 281474976710656) : Calls Tryz.prog 74 #[.string s] w fun e w' => e = .returned (.int .i64 (spanPrefix s.data.toList : Nat)) ∧ Below w.heap.size w w' := by
  go_enter Tryz.func74, Tryz.ntmps74
  go_wp2_with fail
  refine (span_measure s _ hs).mono ?_
  rintro e w1 ⟨rfl, hb⟩
  go_wp2_with fail
  go_ret
  exact ⟨rfl, hb⟩
set_option maxRecDepth 100000 in
set_option maxHeartbeats 400000 in
theorem span_Parse (s : ByteArray) (w : World) : Calls Tryz.prog 75 #[.string s] w (Two w (spanParse s.data.toList)) := by
  by_cases hl : 64 < s.size
  · have hE : spanParse s.data.toList = (0, 1) := by rw [spanParse, if_pos (by rw [len_data]; exact hl)]
    go_enter Tryz.func75, Tryz.ntmps75
    go_wp2_with fail
    go_ret2
    exact ret_two hE (Below.refl _ _)
  · obtain ⟨r, hr⟩ : ∃ r, r = measure s.data.toList := ⟨_, rfl⟩
    obtain ⟨fin, sum⟩ := r
    have hE : spanParse s.data.toList = if fin = 0 ∨ fin < s.size then (0, 30) else if 315360000000000 < sum then (0, 31) else (sum, 0) := by
      rw [spanParse, if_neg (by rw [len_data]; exact hl), ← hr, len_data]
    have HE := Lib.hid hE
    have HR := Lib.hid hr
    clear hE hr
    go_enter Tryz.func75, Tryz.ntmps75
    go_wp2_with fail
    refine (span_measure s _ (by omega)).mono ?_
    rintro e w1 ⟨rfl, hb⟩
    rw [← HR.out]
    have HB := Lib.hid hb
    clear hb
    simp only
    cases h0 : ((fin : Int) == 0)
    · cases h1 : decide (fin < s.size)
      · cases h2 : decide ((315360000000000 : Int) < (sum : Int))
        · have hR : spanParse s.data.toList = (sum, 0) := by
            rw [HE.out, if_neg (by have := neT h0; have := of_decide_eq_false h1; omega), if_neg (by have := of_decide_eq_false h2; omega)]
          have HR2 := Lib.hid hR
          clear hR
          go_wp2_with fail
          go_ret2
          exact ret_two HR2.out HB.out
        · have hR : spanParse s.data.toList = (0, 31) := by
            rw [HE.out, if_neg (by have := neT h0; have := of_decide_eq_false h1; omega), if_pos (by have := of_decide_eq_true h2; omega)]
          have HR2 := Lib.hid hR
          clear hR
          go_wp2_with fail
          go_ret2
          exact ret_two HR2.out HB.out
      · have hR : spanParse s.data.toList = (0, 30) := by
          rw [HE.out, if_pos (.inr (of_decide_eq_true h1))]
        have HR2 := Lib.hid hR
        clear hR
        go_wp2_with fail
        go_ret2
        exact ret_two HR2.out HB.out
    · have hR : spanParse s.data.toList = (0, 30) := by
        rw [HE.out, if_pos (.inl (by have := eqT h0; omega))]
      have HR2 := Lib.hid hR
      clear hR
      go_wp2_with fail
      go_ret2
      exact ret_two HR2.out HB.out
end Go.Proofs.YtpkeonafcldkhaaGreatDoor
