/- EngineCounts: engine.Steps answers the number of steps and the error that the document's answer gives, for every start, end and step (int64). No condition. -/
import Derived.Test.YtagiiadcjpbpdaaRows
import Derived.WalkKit
import Derived.ProofKit
import Derived.OpenShut
import Derived.Lib.Hide
namespace Go.Proofs.Ytagiiadcjpbpdaa.engineCounts
open Go.ChangeShapes Go.WideShapes Go.ChangeAt Go.RowKit
set_option linter.unusedVariables false      -- a walk need not use every 'w<i>' (that an integer argument fits its kind)

theorem own : ownKnob Try.prog.godebug = none := by kernel_rfl


/-- What both texts answer: the number of steps and the error. -/
def isT (t : Int) : Bool := decide (-62167219200000 ≤ t) && decide (t ≤ 253402300799999)
def errOf (a b c : Int) : Int := if !isT a || !isT b then 33 else if c ≤ 0 ∨ b < a then 2 else if 11000 ≤ (b - a) / c then 241 else 0
def numOf (a b c : Int) : Int := if errOf a b c = 0 then (b - a) / c + 1 else 0
theorem ret_bool {a b : Bool} (h : a = b) : Ending.returned (.bool a) = .returned (.bool b) := by rw [h]
theorem ret_2 {a b c d : Int} (h : a = c) (h' : b = d) : Ending.returned (.tuple #[.int .i64 a, .int .i64 b]) = .returned (.tuple #[.int .i64 c, .int .i64 d]) := by rw [h, h']

theorem isTime_e (t : Int) (w : World) : Calls Try.prog 6 #[.int .i64 t] w fun e w' => e = .returned (.bool (isT t)) ∧ w = w' := by
  go_enter Try.func6, Try.ntmps6
  go_wp2
  all_goals (go_ret; exact ⟨ret_bool (by rw [Bool.eq_iff_iff]; simp [isT]; omega), rfl⟩)
theorem isTime_r (t : Int) (w : World) : Calls Try.prog 7 #[.int .i64 t] w fun e w' => e = .returned (.bool (isT t)) ∧ w = w' := by
  go_enter Try.func7, Try.ntmps7
  go_wp2
  all_goals (go_ret; exact ⟨ret_bool (by rw [Bool.eq_iff_iff]; simp [isT]; omega), rfl⟩)

theorem steps_e (a b c : Int) (hc : c ≤ 9223372036854775807) (w : World) :
    Calls Try.prog 4 #[.int .i64 a, .int .i64 b, .int .i64 c] w fun e w' => e = .returned (.tuple #[.int .i64 (numOf a b c), .int .i64 (errOf a b c)]) ∧ w = w' := by
  have hA : isT a = decide (-62167219200000 ≤ a ∧ a ≤ 253402300799999) := by simp [isT]
  have hB : isT b = decide (-62167219200000 ≤ b ∧ b ≤ 253402300799999) := by simp [isT]
  by_cases ha : -62167219200000 ≤ a ∧ a ≤ 253402300799999
  · have ha' : isT a = true := by rw [hA]; simpa using ha
    by_cases hb : -62167219200000 ≤ b ∧ b ≤ 253402300799999
    · have hb' : isT b = true := by rw [hB]; simpa using hb
      obtain ⟨ha1, ha2⟩ := ha
      obtain ⟨hb1, hb2⟩ := hb
      by_cases h1 : c ≤ 0
      · have hfin : errOf a b c = 2 ∧ numOf a b c = 0 := by simp [numOf, errOf, ha', hb', h1]
        have HF := Lib.hid hfin
        clear hfin hA hB
        go_enter Try.func4, Try.ntmps4
        go_wp2_with (go_at_call 6; refine (isTime_e _ _).mono ?_; rintro e w' ⟨rfl, rfl⟩)
        go_ret2
        exact ⟨ret_2 HF.out.2.symm HF.out.1.symm, rfl⟩
      · by_cases h2 : b < a
        · have hfin : errOf a b c = 2 ∧ numOf a b c = 0 := by simp [numOf, errOf, ha', hb', h2]
          have HF := Lib.hid hfin
          clear hfin hA hB
          go_enter Try.func4, Try.ntmps4
          go_wp2_with (go_at_call 6; refine (isTime_e _ _).mono ?_; rintro e w' ⟨rfl, rfl⟩)
          go_ret2
          exact ⟨ret_2 HF.out.2.symm HF.out.1.symm, rfl⟩
        · have hc1 : 1 ≤ c := by omega
          have hd0 : 0 ≤ b - a := by omega
          have hq0 : 0 ≤ (b - a) / c := Int.ediv_nonneg hd0 (by omega)
          have hq1 : (b - a) / c ≤ b - a := Int.ediv_le_self _ hd0
          have hq2 : (b - a) / c ≤ 315569520000000 := by omega
          by_cases h3 : (b - a) / c < 11000
          · have hfin : errOf a b c = 0 ∧ numOf a b c = (b - a) / c + 1 := by
              have h3' : ¬ 11000 ≤ (b - a) / c := by omega
              simp [numOf, errOf, ha', hb', h1, h2, h3']
            have HF := Lib.hid hfin
            clear hfin hA hB hq1
            go_enter Try.func4, Try.ntmps4
            go_wp2_with (go_at_call 6; refine (isTime_e _ _).mono ?_; rintro e w' ⟨rfl, rfl⟩)
            go_ret2
            exact ⟨ret_2 HF.out.2.symm HF.out.1.symm, rfl⟩
          · have hfin : errOf a b c = 241 ∧ numOf a b c = 0 := by
              have h3' : 11000 ≤ (b - a) / c := by omega
              simp [numOf, errOf, ha', hb', h1, h2, h3']
            have HF := Lib.hid hfin
            clear hfin hA hB hq1
            go_enter Try.func4, Try.ntmps4
            go_wp2_with (go_at_call 6; refine (isTime_e _ _).mono ?_; rintro e w' ⟨rfl, rfl⟩)
            go_ret2
            exact ⟨ret_2 HF.out.2.symm HF.out.1.symm, rfl⟩
    · have hb' : isT b = false := by rw [hB]; simpa using hb
      have hfin : errOf a b c = 33 ∧ numOf a b c = 0 := by simp [numOf, errOf, hb']
      have HF := Lib.hid hfin
      clear hfin hA hB
      go_enter Try.func4, Try.ntmps4
      go_wp2_with (go_at_call 6; refine (isTime_e _ _).mono ?_; rintro e w' ⟨rfl, rfl⟩)
      go_ret2
      exact ⟨ret_2 HF.out.2.symm HF.out.1.symm, rfl⟩
  · have ha' : isT a = false := by rw [hA]; simpa using ha
    have hfin : errOf a b c = 33 ∧ numOf a b c = 0 := by simp [numOf, errOf, ha']
    have HF := Lib.hid hfin
    clear hfin hA hB
    go_enter Try.func4, Try.ntmps4
    go_wp2_with (go_at_call 6; refine (isTime_e _ _).mono ?_; rintro e w' ⟨rfl, rfl⟩)
    go_ret2
    exact ⟨ret_2 HF.out.2.symm HF.out.1.symm, rfl⟩

theorem steps_r (a b c : Int) (hc : c ≤ 9223372036854775807) (w : World) :
    Calls Try.prog 5 #[.int .i64 a, .int .i64 b, .int .i64 c] w fun e w' => e = .returned (.tuple #[.int .i64 (numOf a b c), .int .i64 (errOf a b c)]) ∧ w = w' := by
  have hA : isT a = decide (-62167219200000 ≤ a ∧ a ≤ 253402300799999) := by simp [isT]
  have hB : isT b = decide (-62167219200000 ≤ b ∧ b ≤ 253402300799999) := by simp [isT]
  by_cases ha : -62167219200000 ≤ a ∧ a ≤ 253402300799999
  · have ha' : isT a = true := by rw [hA]; simpa using ha
    by_cases hb : -62167219200000 ≤ b ∧ b ≤ 253402300799999
    · have hb' : isT b = true := by rw [hB]; simpa using hb
      obtain ⟨ha1, ha2⟩ := ha
      obtain ⟨hb1, hb2⟩ := hb
      by_cases h1 : c ≤ 0
      · have hfin : errOf a b c = 2 ∧ numOf a b c = 0 := by simp [numOf, errOf, ha', hb', h1]
        have HF := Lib.hid hfin
        clear hfin hA hB
        go_enter Try.func5, Try.ntmps5
        go_wp2_with (go_at_call 7; refine (isTime_r _ _).mono ?_; rintro e w' ⟨rfl, rfl⟩)
        go_ret2
        exact ⟨ret_2 HF.out.2.symm HF.out.1.symm, rfl⟩
      · by_cases h2 : b < a
        · have hfin : errOf a b c = 2 ∧ numOf a b c = 0 := by simp [numOf, errOf, ha', hb', h2]
          have HF := Lib.hid hfin
          clear hfin hA hB
          go_enter Try.func5, Try.ntmps5
          go_wp2_with (go_at_call 7; refine (isTime_r _ _).mono ?_; rintro e w' ⟨rfl, rfl⟩)
          go_ret2
          exact ⟨ret_2 HF.out.2.symm HF.out.1.symm, rfl⟩
        · have hc1 : 1 ≤ c := by omega
          have hd0 : 0 ≤ b - a := by omega
          have hq0 : 0 ≤ (b - a) / c := Int.ediv_nonneg hd0 (by omega)
          have hq1 : (b - a) / c ≤ b - a := Int.ediv_le_self _ hd0
          have hq2 : (b - a) / c ≤ 315569520000000 := by omega
          by_cases h3 : (b - a) / c < 11000
          · have hfin : errOf a b c = 0 ∧ numOf a b c = (b - a) / c + 1 := by
              have h3' : ¬ 11000 ≤ (b - a) / c := by omega
              simp [numOf, errOf, ha', hb', h1, h2, h3']
            have HF := Lib.hid hfin
            clear hfin hA hB hq1
            go_enter Try.func5, Try.ntmps5
            go_wp2_with (go_at_call 7; refine (isTime_r _ _).mono ?_; rintro e w' ⟨rfl, rfl⟩)
            go_ret2
            exact ⟨ret_2 HF.out.2.symm HF.out.1.symm, rfl⟩
          · have hfin : errOf a b c = 241 ∧ numOf a b c = 0 := by
              have h3' : 11000 ≤ (b - a) / c := by omega
              simp [numOf, errOf, ha', hb', h1, h2, h3']
            have HF := Lib.hid hfin
            clear hfin hA hB hq1
            go_enter Try.func5, Try.ntmps5
            go_wp2_with (go_at_call 7; refine (isTime_r _ _).mono ?_; rintro e w' ⟨rfl, rfl⟩)
            go_ret2
            exact ⟨ret_2 HF.out.2.symm HF.out.1.symm, rfl⟩
    · have hb' : isT b = false := by rw [hB]; simpa using hb
      have hfin : errOf a b c = 33 ∧ numOf a b c = 0 := by simp [numOf, errOf, hb']
      have HF := Lib.hid hfin
      clear hfin hA hB
      go_enter Try.func5, Try.ntmps5
      go_wp2_with (go_at_call 7; refine (isTime_r _ _).mono ?_; rintro e w' ⟨rfl, rfl⟩)
      go_ret2
      exact ⟨ret_2 HF.out.2.symm HF.out.1.symm, rfl⟩
  · have ha' : isT a = false := by rw [hA]; simpa using ha
    have hfin : errOf a b c = 33 ∧ numOf a b c = 0 := by simp [numOf, errOf, ha']
    have HF := Lib.hid hfin
    clear hfin hA hB
    go_enter Try.func5, Try.ntmps5
    go_wp2_with (go_at_call 7; refine (isTime_r _ _).mono ?_; rintro e w' ⟨rfl, rfl⟩)
    go_ret2
    exact ⟨ret_2 HF.out.2.symm HF.out.1.symm, rfl⟩
/- The law's walk. -/
theorem walk (a0 : Int) (a1 : Int) (a2 : Int) (w0 : (Lit.int .i64 a0).wf = true) (w1 : (Lit.int .i64 a1).wf = true) (w2 : (Lit.int .i64 a2).wf = true) (w : World) :
    Calls Try.prog 3 #[.int .i64 a0, .int .i64 a1, .int .i64 a2] w fun e w' => e = .returned (.bool true) ∧ Grown w w' := by
  have hc2 : a2 ≤ 9223372036854775807 := (bounds_i64 w2).2
  have hk : numOf 0 10 5 = 3 ∧ errOf 0 10 5 = 0 := by decide
  go_enter Try.func3, Try.ntmps3
  go_wp2_with fail
  refine (steps_e _ _ _ (by omega) _).mono ?_
  rintro e w' ⟨rfl, rfl⟩
  rw [hk.1, hk.2]
  clear hk
  go_wp2_with fail
  refine (steps_e _ _ _ hc2 _).mono ?_
  rintro e w' ⟨rfl, rfl⟩
  go_wp2_with fail
  refine (steps_r _ _ _ hc2 _).mono ?_
  rintro e w' ⟨rfl, rfl⟩
  go_wp2_with fail
  all_goals go_ret
  all_goals exact ⟨by simp, Grown.refl _⟩

/- The row's step. -/
set_option maxRecDepth 100000 in
theorem lifted (os : Os) (started : os.Started) (H : Type) (enc : TypeId × Value → H) :
    ReturnsInHanded {} Try.checked os 3 .any (Rows.engineCountsSpec.pre6 enc Try.prog Try.f3 Rows.engineCountsRow.domain false) (Rows.engineCountsSpec.post enc Try.prog Try.f3 false true false false) := by
  refine returnsInHanded_of_change (C := Try.checked) own started (by kernel_rfl) Try.func3
    (ChangeSpec.witness6 (enc := enc) (C := Try.checked) false ⟨#[], #[.int .i64 0, .int .i64 0, .int .i64 0], []⟩ 8 (by kernel_rfl) (by kernel_rfl) (by kernel_rfl) (by kernel_rfl)) ?_
  intro W base args ds gs before hval0 hW hcnd _
  have hval : ∀ (j : Nat) t v, Try.f3.params[j]? = some t → args[j]? = some v → Value.okWide Try.prog W .any base t v := hval0
  have hW' := hW
  obtain ⟨p, q, hA0, hV, rfl, hfz, hnd⟩ := hW
  have hA : DataW.TrodAll enc Try.prog W 0 (fun _ => true) true Try.f3.params.toList args.toList ds p := hA0
  rw [Try.params3] at hA hval
  obtain ⟨v0, vs0, d0, ds0, p0, q0, hargs, rfl, rfl, h0, r0⟩ := trodAll_cons hA
  obtain ⟨v1, vs1, d1, ds1, p1, q1, rfl, rfl, rfl, h1, r1⟩ := trodAll_cons r0
  obtain ⟨v2, vs2, d2, ds2, p2, q2, rfl, rfl, rfl, h2, r2⟩ := trodAll_cons r1
  obtain ⟨rfl, rfl, rfl⟩ := trodAll_nil r2
  obtain rfl : args = #[v0, v1, v2] := by cases args; simp_all
  obtain ⟨rfl, rfl⟩ := trodVars_none hV
  obtain ⟨a0, rfl, rfl, rfl, w0⟩ := open_int Try.underlying2 (hval 0 2 v0 rfl rfl) h0
  obtain ⟨a1, rfl, rfl, rfl, w1⟩ := open_int Try.underlying2 (hval 1 2 v1 rfl rfl) h1
  obtain ⟨a2, rfl, rfl, rfl, w2⟩ := open_int Try.underlying2 (hval 2 2 v2 rfl rfl) h2
  clear hA0 hval0
  simp only [List.append_nil] at hW'
  refine (walk a0 a1 a2 w0 w1 w2 W).mono fun e W' ⟨he, hg⟩ => ?_
  subst he
  exact ⟨_, rfl, post_of_same (pa := []) (pv := []) hW' (fun _ _ _ => (trodAll_cons_mk (shut_bool Try.underlying4 _) trodAll_mk0)) (fun sp _ => (trodAll_cons_mk (shut_int Try.underlying2 w0) (trodAll_cons_mk (shut_int Try.underlying2 w1) (trodAll_cons_mk (shut_int Try.underlying2 w2) trodAll_mk0)))) (fun _ _ => rfl) rfl
    (hg.frame _) hg.2.1 (ok_one (by kernel_rfl) rfl (okWide_bool_mk Try.underlying4 _))⟩

theorem over : Rows.engineCountsRow.holds Try.pinned (OpenSpec.ofChange Rows.engineCountsSpec) :=
  OpenClaim.holds_of_wide 3 Try.f3 rfl rfl rfl rfl rfl rfl rfl ⟨rfl, rfl, rfl, rfl, rfl⟩ rfl rfl rfl rfl rfl (by kernel_rfl) Try.func3 (by kernel_rfl)
    (of_decide_eq_true (by kernel_rfl)) (by unfold Func.isWrapper; first | (rw [if_pos (by decide +kernel)]; kernel_rfl) | (rw [if_neg (by decide +kernel)]; exact ⟨rfl, rfl⟩))
    (fun os started H enc _ => lifted os started H enc)

/-- ████ THE STATEMENT ████ -/
theorem proved : Rows.EngineCountsSaid :=
  over
#print axioms proved
end Go.Proofs.Ytagiiadcjpbpdaa.engineCounts
