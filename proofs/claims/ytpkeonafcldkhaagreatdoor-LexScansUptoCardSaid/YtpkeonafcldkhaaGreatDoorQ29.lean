import Derived.Test.YtpkeonafcldkhaaGreatDoorQ27
/- Part of the proof of YtpkeonafcldkhaaGreatDoorCardS CardV: RbI. -/
set_option linter.unusedVariables false
set_option linter.unusedSimpArgs false
namespace Go.Proofs.YtpkeonafcldkhaaGreatDoor
open Go.RowKit
theorem r02_digit (c : UInt8) (w : World) :
  Calls Tryz.prog 110 #[.int .u8 (c.toNat : Int)] w fun e w' => e = .returned (.bool (digit c)) ∧ w = w' := by
 go_enter Tryz.func110, Tryz.ntmps110
 go_wp2
 all_goals (go_ret; exact ⟨ret_bool (by rw [Bool.eq_iff_iff]; simp [digit]; omega), rfl⟩)
def hexI (c : UInt8) : Int := if hexd c then (hexV c : Int) else -1
theorem hexI_all (c : UInt8) : (digit c = true → hexI c = (c.toNat : Int) - 48) ∧ (97 ≤ c.toNat → c.toNat ≤ 102 → hexI c = (c.toNat : Int) - 87) ∧ (65 ≤ c.toNat → c.toNat ≤ 70 → hexI c = (c.toNat : Int) - 55) ∧ (hexd c = false → hexI c = -1) ∧ (hexd c = true → 0 ≤ hexI c ∧ hexI c ≤ 15 ∧ hexI c = (hexV c : Int)) := by
 revert c
 exact all_bytes (by decide +kernel)
theorem hexd_no {c : UInt8} (hd : digit c = false) (h1 : ¬ (97 ≤ c.toNat ∧ c.toNat ≤ 102)) (h2 : ¬ (65 ≤ c.toNat ∧ c.toNat ≤ 70)) : hexd c = false := by
 unfold hexd
 rw [hd, Bool.false_or, Bool.or_eq_false_iff]
 constructor
 ·rw [← Bool.not_eq_true, Bool.and_eq_true, decide_eq_true_eq, decide_eq_true_eq]; exact h1
 ·rw [← Bool.not_eq_true, Bool.and_eq_true, decide_eq_true_eq, decide_eq_true_eq]; exact h2
theorem r02_hex (c : UInt8) (w : World) :
  Calls Tryz.prog 82 #[.int .u8 (c.toNat : Int)] w fun e w' => e = .returned (.int .i64 (hexI c)) ∧ w = w' := by
 go_enter Tryz.func82, Tryz.ntmps82
 cases hd : digit c
 all_goals
  go_wp2_with fail
  refine (r02_digit _ _).mono ?_
  rintro e w' ⟨rfl, rfl⟩
  rw [hd]
  go_wp2_with fail
 all_goals
  go_ret
  refine ⟨ret_int ?_, rfl⟩
  first
   |(rw [(hexI_all c).1 hd]; have := digit_fits hd; omega)
   |(rw [(hexI_all c).2.1 (by omega) (by omega)]; omega)
   |(rw [(hexI_all c).2.2.1 (by omega) (by omega)]; omega)
   |(rw [(hexI_all c).2.2.2.1 (hexd_no hd (by omega) (by omega))])
def stepI (a : Nat) (c : UInt8) : Int :=
 if a = 8 ∧ isX c = true then 9
 else if a = 9 ∨ a = 10 then (if hexd c = true then 10 else -1)
 else if digit c = true then (if a = 0 then (if c.toNat = 48 then 8 else 1) else if a = 1 ∨ a = 8 then 1 else if a = 2 ∨ a = 3 ∨ a = 4 then 4 else 7)
 else if c.toNat = 46 then (if a = 0 then 3 else if a = 1 ∨ a = 8 then 2 else -1)
 else if isE c = true then (if a = 1 ∨ a = 8 ∨ a = 2 ∨ a = 4 then 5 else -1)
 else if isPM c = true then (if a = 5 then 6 else -1)
 else -1
set_option maxRecDepth 100000 in
set_option maxHeartbeats 2000000 in
theorem r02_step (a : Nat) (ha : a ≤ 10) (c : UInt8) (w : World) :
  Calls Tryz.prog 79 #[.int .i64 (a : Int), .int .u8 (c.toNat : Int)] w fun e w' => e = .returned (.int .i64 (stepI a c)) ∧ w = w' := by
 have hcases : a = 0 ∨ a = 1 ∨ a = 2 ∨ a = 3 ∨ a = 4 ∨ a = 5 ∨ a = 6 ∨ a = 7 ∨ a = 8 ∨ a = 9 ∨ a = 10 := by omega
 have hV : stepI a c = stepI a c := rfl
 generalize hv : stepI a c = V at hV
 clear hV
 rcases hcases with rfl | rfl | rfl | rfl | rfl | rfl | rfl | rfl | rfl | rfl | rfl
 all_goals
  clear ha
  have hv' := Lib.hid hv
  clear hv
  go_enter Tryz.func79, Tryz.ntmps79
  cases hd : digit c
  all_goals
   cases hx : hexd c
   all_goals
    have hi := (hexI_all c).2.2.2
    simp only [hx, Bool.false_eq_true, reduceCtorEq, true_implies, false_implies, and_true, true_and] at hi
    go_wp2_with (first | (go_at_call 110; refine (r02_digit _ _).mono ?_; rintro e w' ⟨rfl, rfl⟩; rw [hd]) | (go_at_call 82; refine (r02_hex _ _).mono ?_; rintro e w' ⟨rfl, rfl⟩))
 all_goals
  go_ret
  refine ⟨ret_int ?_, rfl⟩
  rw [← hv'.out]
  simp only [stepI, isX, isE, isPM, hd, hx, Bool.or_eq_true, beq_iff_eq, Nat.reduceEqDiff, false_and, and_false, true_and, and_true, or_true, true_or, or_false, false_or, if_true, if_false, Bool.false_eq_true, or_self, reduceCtorEq]
  first
   |done
   |rfl
   |(repeat' split) <;> first | rfl | omega | (simp only [beq_iff_eq, beq_eq_false_iff_ne, ne_eq] at *; omega) | (have := digit_fits hd; simp only [beq_iff_eq, beq_eq_false_iff_ne, ne_eq] at *; omega)
set_option maxRecDepth 100000 in
theorem r02_whole (a : Nat) (w : World) :
  Calls Tryz.prog 80 #[.int .i64 (a : Int)] w fun e w' => e = .returned (.bool (wholeB a)) ∧ w = w' := by
 go_enter Tryz.func80, Tryz.ntmps80
 go_wp2
 all_goals (go_ret; exact ⟨ret_bool (by rw [Bool.eq_iff_iff]; simp [wholeB]; try omega), rfl⟩)
end Go.Proofs.YtpkeonafcldkhaaGreatDoor
