import Derived.Test.YtpkeonafcldkhaaGreatDoorM02
/- span: a duration at the head. -/
set_option linter.unusedVariables false
set_option linter.unusedSimpArgs false
namespace Go.Proofs.YtpkeonafcldkhaaGreatDoor
open Go.RowKit

theorem mGo_stop {f : Nat} {l : List UInt8} {fin next sum : Nat} (h : spanEnd digit l fin = fin ∨ (unitAt l (spanEnd digit l fin)).1 < next ∨ (unitAt l (spanEnd digit l fin)).1 = 7) : mGo (f + 1) l fin next sum = (fin, sum) := by
  rw [mGo, if_pos h]
theorem mGo_go {f : Nat} {l : List UInt8} {fin next sum at' u behind : Nat} (h1 : spanEnd digit l fin = at') (h2 : unitAt l at' = (u, behind)) (h3 : at' ≠ fin) (h4 : next ≤ u) (h5 : u ≠ 7) : mGo (f + 1) l fin next sum = mGo f l behind (u + 1) (partSum (sat ((l.drop fin).take (at' - fin))) u sum) := by
  rw [mGo, h1, h2, if_neg (by omega)]
theorem take_spanEnd (p : UInt8 → Bool) (l : List UInt8) (i : Nat) : (l.drop i).take (spanEnd p l i - i) = (l.drop i).takeWhile p := by
  rw [spanEnd, show i + ((l.drop i).takeWhile p).length - i = ((l.drop i).takeWhile p).length by omega]
  exact (List.prefix_iff_eq_take.1 (List.takeWhile_prefix p)).symm
theorem digit_code {c : UInt8} (h : digit c = true) : 48 ≤ c.toNat ∧ c.toNat ≤ 57 := by
  simp [digit] at h; omega
theorem part_digits {s : ByteArray} {i j : Nat} (hj : spanEnd digit s.data.toList i = j) : ∀ k (h : k < (s.extract i j).size), 48 ≤ (s.extract i j)[k].toNat ∧ (s.extract i j)[k].toNat ≤ 57 := by
  intro k h
  have hl : (s.extract i j).data.toList = (s.data.toList.drop i).takeWhile digit := by
    rw [Lib.extract_data, ← hj, take_spanEnd]
  have hk : k < (s.extract i j).data.toList.length := by rw [len_data]; exact h
  have hm : (s.extract i j)[k] ∈ (s.data.toList.drop i).takeWhile digit := by
    rw [← hl, ← gl _ k hk]; exact List.getElem_mem _
  exact digit_code (List.all_eq_true.1 List.all_takeWhile _ hm)
theorem partSum_le (n u sum : Nat) : partSum n u sum ≤ 315360000000001 := by
  unfold partSum
  split
  · exact Nat.le_refl _
  · exact Nat.min_le_right _ _
theorem partSum_big {n u sum : Nat} (h : 315360000000000 / uSize u < n) : partSum n u sum = 315360000000001 := by
  unfold partSum; rw [if_pos h]
theorem partSum_min {n u sum : Nat} (h : n ≤ 315360000000000 / uSize u) : partSum n u sum = min (sum + n * uSize u) 315360000000001 := by
  unfold partSum; rw [if_neg (by omega)]
theorem part_mul {n u : Nat} (h : n ≤ 315360000000000 / uSize u) : n * uSize u ≤ 315360000000000 :=
  Nat.le_trans (Nat.mul_le_mul_right _ h) (Nat.div_mul_le_self _ _)
theorem ret_two {w w' : World} {r : Nat × Nat} {a b : Nat} (h : r = (a, b)) (hb : Below w.heap.size w w') : Two w r (.returned (.tuple #[.int .i64 (a : Int), .int .i64 (b : Int)])) w' := by
  subst h; exact ⟨rfl, hb⟩
set_option maxRecDepth 100000 in
set_option maxHeartbeats 1000000 in
theorem span_measure (s : ByteArray) (w : World) (hs : s.size ≤ 281474976710656) : Calls Tryz.prog 98 #[.string s] w (Two w (measure s.data.toList)) := by
  go_enter Tryz.func98, Tryz.ntmps98
  go_wp2_with fail
  go_loopw [4, 5, 6] (fun v t x wr => ∃ f fin next sum : Nat, fin ≤ s.size ∧ next ≤ 7 ∧ 8 ≤ f + next ∧ (sum : Int) ≤ 315360000000001 ∧ v = .int .i64 fin ∧ t = .int .i64 sum ∧ x = .int .i64 next ∧ Below w.heap.size w wr ∧ Hid (mGo f s.data.toList fin next sum = measure s.data.toList)) (fun _ _ x _ => 7 - (intOf x).toNat)
  case atStart => exact ⟨8, 0, 0, 0, Nat.zero_le _, by omega, by omega, by omega, by go_num, by go_num, by go_num, Below.refl _ _, Lib.hid rfl⟩
  case round =>
    obtain ⟨f, fin, next, sum, hfin, hnext, hf, hsum, rfl, rfl, rfl, hbel, hM⟩ := hrel
    obtain ⟨f, rfl⟩ : ∃ g, f = g + 1 := ⟨f - 1, by omega⟩
    go_wp2_with fail
    refine (span_run s _ fin rfl _ hs (by omega)).mono ?_
    rintro e w1 ⟨rfl, rfl⟩
    have hat1 := spanEnd_ge digit s.data.toList fin
    have hat2 := spanEnd_le digit s.data.toList fin (by rw [len_data]; exact hfin)
    rw [len_data] at hat2
    obtain ⟨at', hat⟩ : ∃ k, k = spanEnd digit s.data.toList fin := ⟨_, rfl⟩
    rw [← hat] at hat1 hat2 ⊢
    have HA := Lib.hid hat
    clear hat
    go_wp2_with fail
    refine (span_unitAt s _ at' rfl _ hs (by omega)).mono ?_
    rintro e w2 ⟨rfl, hb2⟩
    have hbel2 := hbel.trans (hb2.mono hbel.size)
    clear hb2 hbel
    have hU := unitAt_ge s.data.toList at'
    rw [len_data] at hU
    obtain ⟨u, behind, hu⟩ : ∃ u b, (u, b) = unitAt s.data.toList at' := ⟨_, _, rfl⟩
    rw [← hu] at hU ⊢
    obtain ⟨hU1, hU2, hU3⟩ := hU
    have HU := Lib.hid hu
    clear hu
    simp only at hU1 hU2 hU3 ⊢
    cases hq : ((at' : Int) == (fin : Int))
    · cases hlt : decide (u < next)
      · cases h7 : ((u : Int) == 7)
        · go_wp2_with fail
          have hf1 : at' ≠ fin := by have := neT hq; omega
          have hn1 : next ≤ u := by have := of_decide_eq_false hlt; omega
          have hu7 : u ≠ 7 := by have := neT h7; omega
          have hg := (mGo_go (f := f) (l := s.data.toList) (fin := fin) (next := next) (sum := sum) HA.out.symm HU.out.symm hf1 hn1 hu7).symm.trans hM.out
          have hdig := part_digits (s := s) (i := fin) HA.out.symm
          have hts : (s.extract fin at').size ≤ 281474976710656 := by simp; omega
          have htd : (s.extract fin at').data.toList = (s.data.toList.drop fin).take (at' - fin) := Lib.extract_data ..
          refine (span_saturated _ _ hts hdig).mono ?_
          rintro e w3 ⟨rfl, rfl⟩
          rw [htd]
          have hle := sat_le ((s.data.toList.drop fin).take (at' - fin))
          obtain ⟨n, hn⟩ : ∃ n, n = sat ((s.data.toList.drop fin).take (at' - fin)) := ⟨_, rfl⟩
          rw [← hn] at hle hg ⊢
          have hle2 : (n : Int) ≤ 315360000000001 := by omega
          have HG := Lib.hid hg
          have hbe := hU2 hat2
          have hu6 : u ≤ 6 := by omega
          clear hn hle hdig hts htd hg hM hU2 hU3 HA HU
          have hz := uSize_pos u
          obtain ⟨hz1, hz2⟩ := hz
          have hz0 : ((uSize u : Int) == 0) = false := by rw [beq_eq_false_iff_ne]; omega
          have hz3 : (uSize u : Int) ≤ 31536000000 := by omega
          clear hz2
          have hqn : (315360000000000 : Int) / (uSize u : Int) = ((315360000000000 / uSize u : Nat) : Int) := by rw [Int.natCast_ediv]; rfl
          cases hbig : decide ((315360000000000 : Int) / (uSize u : Int) < (n : Int))
          · have hbn : n ≤ 315360000000000 / uSize u := by have := of_decide_eq_false hbig; omega
            have hmul := part_mul (u := u) hbn
            have hps := partSum_min (u := u) (sum := sum) hbn
            clear hbn hqn
            have hmul2 : (n : Int) * (uSize u : Int) ≤ 315360000000000 := by rw [← Int.natCast_mul]; omega
            have hmul0 : 0 ≤ (n : Int) * (uSize u : Int) := by rw [← Int.natCast_mul]; omega
            have hmulN : (n : Int) * (uSize u : Int) = ((n * uSize u : Nat) : Int) := by rw [← Int.natCast_mul]
            have HM := Lib.hid hmulN
            clear hmulN
            go_wp2_with fail
            refine (span_size _ u rfl hu6 _).mono ?_
            rintro e w3 ⟨rfl, rfl⟩
            cases hmin : decide ((315360000000001 : Int) < (sum : Int) + (n : Int) * (uSize u : Int))
            · have hmin2 : sum + n * uSize u ≤ 315360000000001 := by
                have := of_decide_eq_false hmin
                rw [HM.out] at this; omega
              rw [hps, Nat.min_eq_left hmin2] at HG
              clear hmin2 hps
              go_wp2_with fail
              refine (span_size _ u rfl hu6 _).mono ?_
              rintro e w3 ⟨rfl, rfl⟩
              go_wp2_with fail
              go_roundw
              case rel => exact ⟨f, behind, u + 1, sum + n * uSize u, hbe, by omega, by omega, by have := of_decide_eq_false hmin; have := HM.out; omega, by go_num, by rw [if_neg (of_decide_eq_false hmin), HM.out, ← Int.natCast_add], by go_num, hbel2, HG.out⟩
              case measure => simp [intOf]; omega
            · have hmin2 : 315360000000001 ≤ sum + n * uSize u := by
                have := of_decide_eq_true hmin
                rw [HM.out] at this; omega
              rw [hps, Nat.min_eq_right hmin2] at HG
              clear hmin2 hps
              go_wp2_with fail
              refine (span_size _ u rfl hu6 _).mono ?_
              rintro e w3 ⟨rfl, rfl⟩
              go_wp2_with fail
              go_roundw
              case rel => exact ⟨f, behind, u + 1, 315360000000001, hbe, by omega, by omega, by omega, by go_num, by rw [if_pos (of_decide_eq_true hmin)]; rfl, by go_num, hbel2, HG.out⟩
              case measure => simp [intOf]; omega
          · have hps := partSum_big (u := u) (n := n) (sum := sum) (by have := of_decide_eq_true hbig; omega)
            rw [hps] at HG
            clear hps hqn
            go_wp2_with fail
            refine (span_size _ u rfl hu6 _).mono ?_
            rintro e w3 ⟨rfl, rfl⟩
            go_wp2_with fail
            refine (span_size _ u rfl hu6 _).mono ?_
            rintro e w3 ⟨rfl, rfl⟩
            go_wp2_with fail
            go_roundw
            case rel => exact ⟨f, behind, u + 1, 315360000000001, hbe, by omega, by omega, by omega, by go_num, by go_num, by go_num, hbel2, HG.out⟩
            case measure => simp [intOf]; omega
        · have hE := (mGo_stop (f := f) (l := s.data.toList) (fin := fin) (next := next) (sum := sum) (.inr (.inr (by rw [← HA.out, ← HU.out]; exact Int.ofNat.inj (eqT h7))))).symm.trans hM.out
          have HE := Lib.hid hE
          clear hE hM
          go_wp2_with fail
          go_ret2
          exact ret_two HE.out.symm hbel2
      · have hE := (mGo_stop (f := f) (l := s.data.toList) (fin := fin) (next := next) (sum := sum) (.inr (.inl (by rw [← HA.out, ← HU.out]; exact of_decide_eq_true hlt)))).symm.trans hM.out
        have HE := Lib.hid hE
        clear hE hM
        go_wp2_with fail
        go_ret2
        exact ret_two HE.out.symm hbel2
    · have hE := (mGo_stop (f := f) (l := s.data.toList) (fin := fin) (next := next) (sum := sum) (.inl (by rw [← HA.out]; exact Int.ofNat.inj (eqT hq)))).symm.trans hM.out
      have HE := Lib.hid hE
      clear hE hM
      go_wp2_with fail
      go_ret2
      exact ret_two HE.out.symm hbel2
theorem span_Prefix (s : ByteArray) (w : World) (hs : s.size ≤ 281474976710656) : Calls Tryz.prog 74 #[.string s] w fun e w' => e = .returned (.int .i64 (spanPrefix s.data.toList : Nat)) ∧ Below w.heap.size w w' := by
  go_enter Tryz.func74, Tryz.ntmps74
  go_wp2_with fail
  refine (span_measure s _ hs).mono ?_
  rintro e w1 ⟨rfl, hb⟩
  go_wp2_with fail
  go_ret
  exact ⟨rfl, hb⟩
set_option maxRecDepth 100000 in
set_option maxHeartbeats 400000 in
theorem span_Parse (s : ByteArray) (w : World) : Calls Tryz.prog 75 #[.string s] w (Two w (spanParse s.data.toList)) := by
  by_cases hl : 64 < s.size
  · have hE : spanParse s.data.toList = (0, 1) := by rw [spanParse, if_pos (by rw [len_data]; exact hl)]
    go_enter Tryz.func75, Tryz.ntmps75
    go_wp2_with fail
    go_ret2
    exact ret_two hE (Below.refl _ _)
  · obtain ⟨r, hr⟩ : ∃ r, r = measure s.data.toList := ⟨_, rfl⟩
    obtain ⟨fin, sum⟩ := r
    have hE : spanParse s.data.toList = if fin = 0 ∨ fin < s.size then (0, 30) else if 315360000000000 < sum then (0, 31) else (sum, 0) := by
      rw [spanParse, if_neg (by rw [len_data]; exact hl), ← hr, len_data]
    have HE := Lib.hid hE
    have HR := Lib.hid hr
    clear hE hr
    go_enter Tryz.func75, Tryz.ntmps75
    go_wp2_with fail
    refine (span_measure s _ (by omega)).mono ?_
    rintro e w1 ⟨rfl, hb⟩
    rw [← HR.out]
    have HB := Lib.hid hb
    clear hb
    simp only
    cases h0 : ((fin : Int) == 0)
    · cases h1 : decide (fin < s.size)
      · cases h2 : decide ((315360000000000 : Int) < (sum : Int))
        · have hR : spanParse s.data.toList = (sum, 0) := by
            rw [HE.out, if_neg (by have := neT h0; have := of_decide_eq_false h1; omega), if_neg (by have := of_decide_eq_false h2; omega)]
          have HR2 := Lib.hid hR
          clear hR
          go_wp2_with fail
          go_ret2
          exact ret_two HR2.out HB.out
        · have hR : spanParse s.data.toList = (0, 31) := by
            rw [HE.out, if_neg (by have := neT h0; have := of_decide_eq_false h1; omega), if_pos (by have := of_decide_eq_true h2; omega)]
          have HR2 := Lib.hid hR
          clear hR
          go_wp2_with fail
          go_ret2
          exact ret_two HR2.out HB.out
      · have hR : spanParse s.data.toList = (0, 30) := by
          rw [HE.out, if_pos (.inr (of_decide_eq_true h1))]
        have HR2 := Lib.hid hR
        clear hR
        go_wp2_with fail
        go_ret2
        exact ret_two HR2.out HB.out
    · have hR : spanParse s.data.toList = (0, 30) := by
        rw [HE.out, if_pos (.inl (by have := eqT h0; omega))]
      have HR2 := Lib.hid hR
      clear hR
      go_wp2_with fail
      go_ret2
      exact ret_two HR2.out HB.out
end Go.Proofs.YtpkeonafcldkhaaGreatDoor
/- Plain words of layer 2: numbers' lexemes. -/
set_option linter.unusedVariables false
set_option linter.unusedSimpArgs false
namespace Go.Proofs.YtpkeonafcldkhaaGreatDoor
open Go.RowKit

def hexd (c : UInt8) : Bool := digit c || (97 ≤ c.toNat && c.toNat ≤ 102) || (65 ≤ c.toNat && c.toNat ≤ 70)
def isE (c : UInt8) : Bool := c.toNat == 101 || c.toNat == 69
def isPM (c : UInt8) : Bool := c.toNat == 43 || c.toNat == 45
def isX (c : UInt8) : Bool := c.toNat == 120 || c.toNat == 88
/-- The place behind the sign of an exponent whose letter stands at i. -/
def expAt (l : List UInt8) (i : Nat) : Nat := if i + 1 < l.length ∧ isPM (atB l (i + 1)) = true then i + 2 else i + 1
/-- The place behind an exponent at i. -/
def expEnd (l : List UInt8) (i : Nat) : Nat :=
  if l.length ≤ i ∨ isE (atB l i) = false then i
  else if expAt l i < spanEnd digit l (expAt l i) then spanEnd digit l (expAt l i) else i
/-- Does a hexadecimal lexeme stand at the head? -/
def hexHead (l : List UInt8) : Bool := decide (2 < l.length) && (atB l 0).toNat == 48 && isX (atB l 1) && hexd (atB l 2)
/-- The place behind the digits and the point at the head; 0: none. -/
def decEnd (l : List UInt8) : Nat :=
  if spanEnd digit l 0 < l.length ∧ (atB l (spanEnd digit l 0)).toNat = 46 ∧ 0 < spanEnd digit l 0 then spanEnd digit l (spanEnd digit l 0 + 1)
  else if spanEnd digit l 0 = 0 ∧ 1 < l.length ∧ (atB l 0).toNat = 46 ∧ digit (atB l 1) = true then spanEnd digit l 1
  else spanEnd digit l 0
def numPrefix (l : List UInt8) : Nat :=
  if hexHead l = true then spanEnd hexd l 2 else if decEnd l = 0 then 0 else expEnd l (decEnd l)
theorem expAt_bound (l : List UInt8) (i : Nat) (h : i < l.length) : i + 1 ≤ expAt l i ∧ expAt l i ≤ l.length := by
  unfold expAt; split <;> omega
theorem expEnd_le (l : List UInt8) (i : Nat) (h : i ≤ l.length) : i ≤ expEnd l i ∧ expEnd l i ≤ l.length := by
  unfold expEnd
  split
  · omega
  · have h1 := expAt_bound l i (by omega)
    have h2 := spanEnd_le digit l (expAt l i) h1.2
    split <;> omega
theorem decEnd_le (l : List UInt8) : decEnd l ≤ l.length := by
  unfold decEnd
  have h0 := spanEnd_le digit l 0 (Nat.zero_le _)
  split
  · exact spanEnd_le digit l _ (by omega)
  · split
    · exact spanEnd_le digit l _ (by omega)
    · exact h0
theorem numPrefix_le (l : List UInt8) : numPrefix l ≤ l.length := by
  unfold numPrefix
  split
  · rename_i h
    simp [hexHead] at h
    exact spanEnd_le hexd l 2 (by omega)
  · split
    · omega
    · exact (expEnd_le l _ (decEnd_le l)).2
theorem dec_A {s : ByteArray} {k : Nat} (h : hexHead s.data.toList = false) (hk : spanEnd digit s.data.toList 0 = k) (h1 : k < s.size) (h2 : ((s[k].toNat : Int) == 46) = true) (h3 : 0 < k) : numPrefix s.data.toList = expEnd s.data.toList (spanEnd digit s.data.toList (k + 1)) := by
  have h4 : s[k].toNat = 46 := by have : (s[k].toNat : Int) = 46 := beq_iff_eq.1 h2; omega
  have h5 : decEnd s.data.toList = spanEnd digit s.data.toList (k + 1) := by
    rw [decEnd, hk, if_pos ⟨by rw [len_data]; exact h1, by rw [atB_lt h1]; exact h4, h3⟩]
  have := spanEnd_ge digit s.data.toList (k + 1)
  rw [numPrefix, h, h5, if_neg (by simp), if_neg (by omega)]
theorem dec_C {s : ByteArray} (h : hexHead s.data.toList = false) (hk : spanEnd digit s.data.toList 0 = 0) (h1 : 1 < s.size) (h2 : ((s[0].toNat : Int) == 46) = true) (h3 : digit s[1] = true) : numPrefix s.data.toList = expEnd s.data.toList (spanEnd digit s.data.toList 1) := by
  have h4 : s[0].toNat = 46 := by have : (s[0].toNat : Int) = 46 := beq_iff_eq.1 h2; omega
  have h5 : decEnd s.data.toList = spanEnd digit s.data.toList 1 := by
    rw [decEnd, hk, if_neg (by omega), if_pos ⟨rfl, by rw [len_data]; exact h1, by rw [atB_lt (by omega)]; exact h4, by rw [atB_lt h1]; exact h3⟩]
  have := spanEnd_ge digit s.data.toList 1
  rw [numPrefix, h, h5, if_neg (by simp), if_neg (by omega)]
theorem dec_N {s : ByteArray} {k : Nat} (h : hexHead s.data.toList = false) (hk : spanEnd digit s.data.toList 0 = k) (h0 : k ≠ 0) (h1 : ∀ h : k < s.size, ((s[k].toNat : Int) == 46) = false) : numPrefix s.data.toList = expEnd s.data.toList k := by
  have h5 : decEnd s.data.toList = k := by
    rw [decEnd, hk, if_neg, if_neg (by omega)]
    rintro ⟨ha, hb, _⟩
    rw [len_data] at ha
    rw [atB_lt ha] at hb
    have := beq_eq_false_iff_ne.1 (h1 ha)
    omega
  rw [numPrefix, h, h5, if_neg (by simp), if_neg h0]
theorem dec_0 {s : ByteArray} (h : hexHead s.data.toList = false) (hk : spanEnd digit s.data.toList 0 = 0) (h1 : ∀ h : 1 < s.size, ((s[0].toNat : Int) == 46) = true → digit s[1] = false) : numPrefix s.data.toList = 0 := by
  have h5 : decEnd s.data.toList = 0 := by
    rw [decEnd, hk, if_neg (by omega), if_neg]
    rintro ⟨_, ha, hb, hc⟩
    rw [len_data] at ha
    rw [atB_lt (by omega)] at hb
    rw [atB_lt ha, h1 ha (by rw [beq_iff_eq]; omega)] at hc
    simp at hc
  rw [numPrefix, h, h5, if_neg (by simp), if_pos rfl]
theorem hex_yes {s : ByteArray} (h : hexHead s.data.toList = true) : ∃ h : 2 < s.size, ((s[0].toNat : Int) == 48) = true ∧ hexd s[2] = true ∧ ((((s[1].toNat : Int) == 120) = true) ∨ (((s[1].toNat : Int) == 120) = false ∧ ((s[1].toNat : Int) == 88) = true)) := by
  simp only [hexHead, Bool.and_eq_true, decide_eq_true_eq, len_data] at h
  obtain ⟨⟨⟨h1, h2⟩, h3⟩, h4⟩ := h
  rw [atB_lt (by omega)] at h2 h3
  rw [atB_lt h1] at h4
  refine ⟨h1, by simp at h2 ⊢; omega, h4, ?_⟩
  simp [isX] at h3 ⊢
  omega
theorem hex_no {s : ByteArray} (h : hexHead s.data.toList = false) : ¬ 2 < s.size ∨ ∃ h : 2 < s.size, ((s[0].toNat : Int) == 48) = false ∨ ((s[0].toNat : Int) == 48) = true ∧ ((((s[1].toNat : Int) == 120) = false ∧ ((s[1].toNat : Int) == 88) = false) ∨ ((s[1].toNat : Int) == 120) = true ∧ hexd s[2] = false ∨ ((s[1].toNat : Int) == 120) = false ∧ ((s[1].toNat : Int) == 88) = true ∧ hexd s[2] = false) := by
  by_cases h1 : 2 < s.size
  · refine .inr ⟨h1, ?_⟩
    simp only [hexHead, len_data, decide_eq_true h1, Bool.true_and] at h
    rw [atB_lt (by omega), atB_lt (by omega), atB_lt h1] at h
    cases h2 : ((s[0].toNat : Int) == 48)
    · exact .inl rfl
    · refine .inr ⟨rfl, ?_⟩
      have h2' : (s[0].toNat == 48) = true := by simp at h2 ⊢; omega
      rw [h2', Bool.true_and] at h
      cases h3 : ((s[1].toNat : Int) == 120)
      · cases h4 : ((s[1].toNat : Int) == 88)
        · exact .inl ⟨rfl, rfl⟩
        · have : isX s[1] = true := by simp [isX] at h4 ⊢; omega
          rw [this, Bool.true_and] at h
          exact .inr (.inr ⟨rfl, rfl, h⟩)
      · have : isX s[1] = true := by simp [isX] at h3 ⊢; omega
        rw [this, Bool.true_and] at h
        exact .inr (.inl ⟨rfl, h⟩)
  · exact .inl h1
theorem expEnd_out {s : ByteArray} {i : Nat} (h : (i : Int) = (s.size : Int)) : expEnd s.data.toList i = i := by
  rw [expEnd, if_pos (.inl (by rw [len_data]; omega))]
theorem expEnd_no {s : ByteArray} {i : Nat} (h : i < s.size) (h1 : (s[i].toNat : Int) ≠ 101) (h2 : (s[i].toNat : Int) ≠ 69) : expEnd s.data.toList i = i := by
  rw [expEnd, if_pos (.inr (by rw [atB_lt h, isE]; simp; omega))]
theorem expAt_sg {s : ByteArray} {i : Nat} (h : i + 1 < s.size) (h2 : (s[i+1].toNat : Int) = 43 ∨ (s[i+1].toNat : Int) = 45) : expAt s.data.toList i = i + 2 := by
  rw [expAt, if_pos ⟨by rw [len_data]; exact h, by rw [atB_lt h, isPM]; simp; omega⟩]
theorem expAt_ns {s : ByteArray} {i : Nat} (h2 : ∀ h : i + 1 < s.size, (s[i+1].toNat : Int) ≠ 43 ∧ (s[i+1].toNat : Int) ≠ 45) : expAt s.data.toList i = i + 1 := by
  rw [expAt, if_neg]
  rintro ⟨ha, hb⟩
  rw [len_data] at ha
  rw [atB_lt ha, isPM] at hb
  have := h2 ha
  simp at hb; omega
theorem expEnd_yes {s : ByteArray} {i j k : Nat} (h : i < s.size) (h1 : (s[i].toNat : Int) = 101 ∨ (s[i].toNat : Int) = 69) (hj : expAt s.data.toList i = j) (hk : spanEnd digit s.data.toList j = k) (hlt : j < k) : expEnd s.data.toList i = k := by
  rw [expEnd, hj, hk, if_neg, if_pos hlt]
  rw [len_data, atB_lt h, isE]
  simp; omega
theorem expEnd_sole {s : ByteArray} {i j k : Nat} (hj : expAt s.data.toList i = j) (hk : spanEnd digit s.data.toList j = k) (hlt : ¬ j < k) : expEnd s.data.toList i = i := by
  rw [expEnd, hj, hk, if_neg hlt, ite_self]
end Go.Proofs.YtpkeonafcldkhaaGreatDoor
/- num: lexemes. -/
set_option linter.unusedVariables false
set_option linter.unusedSimpArgs false
namespace Go.Proofs.YtpkeonafcldkhaaGreatDoor
open Go.RowKit

theorem num_digit (c : UInt8) (w : World) :
    Calls Tryz.prog 96 #[.int .u8 (c.toNat : Int)] w fun e w' => e = .returned (.bool (digit c)) ∧ w = w' := by
  go_enter Tryz.func96, Tryz.ntmps96
  go_wp2
  all_goals (go_ret; exact ⟨ret_bool (by rw [Bool.eq_iff_iff]; simp [digit]; omega), rfl⟩)
theorem num_hex (c : UInt8) (w : World) :
    Calls Tryz.prog 94 #[.int .u8 (c.toNat : Int)] w fun e w' => e = .returned (.bool (hexd c)) ∧ w = w' := by
  go_enter Tryz.func94, Tryz.ntmps94
  cases hd : digit c
  all_goals
    go_wp2_with fail
    refine (num_digit _ _).mono ?_
    rintro e w' ⟨rfl, rfl⟩
    rw [hd]
    go_wp2_with fail
  all_goals (go_ret; exact ⟨ret_bool (by rw [Bool.eq_iff_iff]; simp [hexd, hd]; try omega), rfl⟩)
set_option maxRecDepth 100000 in
theorem num_digits (s : ByteArray) (x : Int) (i : Nat) (hx : x = (i : Int)) (w : World) (hs : s.size ≤ 281474976710656) (hi : i ≤ 281474976710656) :
    Calls Tryz.prog 95 #[.string s, .int .i64 x, .func (.func 96) #[] #[]] w fun e w' => e = .returned (.int .i64 (spanEnd digit s.data.toList i : Nat)) ∧ w = w' := by
  subst hx
  go_enter Tryz.func95, Tryz.ntmps95
  go_wp2_with fail
  go_loop [1] (fun t => ∃ k : Nat, k ≤ 562949953421312 ∧ t = .int .i64 k ∧ Hid (spanEnd digit s.data.toList k = spanEnd digit s.data.toList i)) (fun t => s.size - (intOf t).toNat)
  case atStart => exact ⟨i, by omega, rfl, rfl⟩
  case round =>
    obtain ⟨k, hk, rfl, hsp⟩ := hrel
    by_cases hlt : k < s.size
    · cases hd : digit s[k]
      all_goals
        go_wp2_with (go_at_call 96; refine (num_digit _ _).mono ?_; rintro e w' ⟨rfl, rfl⟩)
      · go_ret
        exact ⟨ret_int (by rw [← hsp.out, spanEnd_stopB hlt hd]), rfl⟩
      · go_round
        case rel => exact ⟨k + 1, by omega, by go_num, (spanEnd_stepB hlt hd).trans hsp.out⟩
        case measure => simp [intOf]; omega
    · go_wp2_with fail
      go_ret
      exact ⟨ret_int (by rw [← hsp.out, spanEnd_end (by simpa using hlt)]), rfl⟩
set_option maxRecDepth 100000 in
theorem num_digitsx (s : ByteArray) (x : Int) (i : Nat) (hx : x = (i : Int)) (w : World) (hs : s.size ≤ 281474976710656) (hi : i ≤ 281474976710656) :
    Calls Tryz.prog 95 #[.string s, .int .i64 x, .func (.func 94) #[] #[]] w fun e w' => e = .returned (.int .i64 (spanEnd hexd s.data.toList i : Nat)) ∧ w = w' := by
  subst hx
  go_enter Tryz.func95, Tryz.ntmps95
  go_wp2_with fail
  go_loop [1] (fun t => ∃ k : Nat, k ≤ 562949953421312 ∧ t = .int .i64 k ∧ Hid (spanEnd hexd s.data.toList k = spanEnd hexd s.data.toList i)) (fun t => s.size - (intOf t).toNat)
  case atStart => exact ⟨i, by omega, rfl, rfl⟩
  case round =>
    obtain ⟨k, hk, rfl, hsp⟩ := hrel
    by_cases hlt : k < s.size
    · cases hd : hexd s[k]
      all_goals
        go_wp2_with (go_at_call 94; refine (num_hex _ _).mono ?_; rintro e w' ⟨rfl, rfl⟩)
      · go_ret
        exact ⟨ret_int (by rw [← hsp.out, spanEnd_stopB hlt hd]), rfl⟩
      · go_round
        case rel => exact ⟨k + 1, by omega, by go_num, (spanEnd_stepB hlt hd).trans hsp.out⟩
        case measure => simp [intOf]; omega
    · go_wp2_with fail
      go_ret
      exact ⟨ret_int (by rw [← hsp.out, spanEnd_end (by simpa using hlt)]), rfl⟩
set_option maxRecDepth 100000 in
set_option maxHeartbeats 1000000 in
theorem num_exponent (s : ByteArray) (x : Int) (i : Nat) (hx : x = (i : Int)) (w : World) (hs : s.size ≤ 281474976710656) (hi : i ≤ s.size) :
    Calls Tryz.prog 97 #[.string s, .int .i64 x] w fun e w' => e = .returned (.int .i64 (expEnd s.data.toList i : Nat)) ∧ w = w' := by
  subst hx
  by_cases ho : i = s.size
  · have hE := expEnd_out (s := s) (i := i) (by omega)
    subst ho
    go_enter Tryz.func97, Tryz.ntmps97
    go_wp2_with fail
    go_ret
    exact ⟨ret_int (by rw [hE]), rfl⟩
  · have hlt : i < s.size := by omega
    have hne : ((i : Int) == (s.size : Int)) = false := by rw [beq_eq_false_iff_ne]; omega
    by_cases hEE : (s[i].toNat : Int) = 101 ∨ (s[i].toNat : Int) = 69
    · have hj : ∃ j, expAt s.data.toList i = j ∧ Hid ((∃ h : i + 1 < s.size, j = i + 2 ∧ ((((s[i+1].toNat : Int) == 43) = true) ∨ (((s[i+1].toNat : Int) == 43) = false ∧ ((s[i+1].toNat : Int) == 45) = true))) ∨ (∃ h : i + 1 < s.size, j = i + 1 ∧ ((s[i+1].toNat : Int) == 43) = false ∧ ((s[i+1].toNat : Int) == 45) = false) ∨ (¬ i + 1 < s.size ∧ j = i + 1)) := by
        refine ⟨_, rfl, Lib.hid ?_⟩
        by_cases h : i + 1 < s.size
        · cases h1 : ((s[i+1].toNat : Int) == 43)
          · cases h2 : ((s[i+1].toNat : Int) == 45)
            · exact .inr (.inl ⟨h, expAt_ns (fun _ => ⟨neT h1, neT h2⟩), by first | rfl | assumption, by first | rfl | assumption⟩)
            · exact .inl ⟨h, expAt_sg h (.inr (eqT h2)), .inr ⟨by first | rfl | assumption, by first | rfl | assumption⟩⟩
          · exact .inl ⟨h, expAt_sg h (.inl (eqT h1)), .inl (by first | rfl | assumption)⟩
        · exact .inr (.inr ⟨h, expAt_ns (fun h' => absurd h' h)⟩)
      obtain ⟨j, hj, hJ⟩ := hj
      obtain ⟨k, hk⟩ : ∃ k, k = spanEnd digit s.data.toList j := ⟨_, rfl⟩
      have hjb := expAt_bound s.data.toList i (by rw [len_data]; exact hlt)
      rw [hj, len_data] at hjb
      obtain ⟨hj1, hj2⟩ := hjb
      have hY := fun h => expEnd_yes hlt hEE hj hk.symm h
      have hS := fun h => expEnd_sole hj hk.symm h
      have HK := Lib.hid hk
      have HY := Lib.hid hY
      have HS := Lib.hid hS
      clear hk hY hS hj
      have hE1 : (((s[i].toNat : Int) != 101) = false) ∨ (((s[i].toNat : Int) != 101) = true ∧ ((s[i].toNat : Int) != 69) = false) := by
        rcases hEE with h | h <;> rw [h] <;> simp
      clear hEE
      rcases hE1 with hE1 | ⟨hE1, hE2⟩
      all_goals
        rcases hJ.out with ⟨h, rfl, hp | ⟨hp, hp2⟩⟩ | ⟨h, rfl, hp, hp2⟩ | ⟨h, rfl⟩
        all_goals
          clear hJ
          go_enter Tryz.func97, Tryz.ntmps97
          go_wp2_with fail
          first
            | refine (num_digits s _ (i + 1) (by omega) _ hs (by omega)).mono ?_
            | refine (num_digits s _ (i + 2) (by omega) _ hs (by omega)).mono ?_
          rintro e w1 ⟨rfl, rfl⟩
          rw [← HK.out]
          go_wp2_with fail
          all_goals
            go_ret
            first
              | exact ⟨ret_int (by rw [HY.out (by omega)]), rfl⟩
              | exact ⟨ret_int (by rw [HS.out (by omega)]), rfl⟩
    · have h1 : ((s[i].toNat : Int) != 101) = true := by rw [bne_iff_ne]; omega
      have h2 : ((s[i].toNat : Int) != 69) = true := by rw [bne_iff_ne]; omega
      have hE := expEnd_no hlt (by omega) (by omega)
      clear hEE
      go_enter Tryz.func97, Tryz.ntmps97
      go_wp2_with fail
      go_ret
      exact ⟨ret_int (by rw [hE]), rfl⟩
end Go.Proofs.YtpkeonafcldkhaaGreatDoor
