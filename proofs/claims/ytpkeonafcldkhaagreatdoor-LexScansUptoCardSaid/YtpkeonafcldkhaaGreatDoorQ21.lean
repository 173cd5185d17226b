import Derived.Test.YtpkeonafcldkhaaGreatDoorQ20
/- Part of the proof of YtpkeonafcldkhaaGreatDoorCardS CardV: LawC. -/
set_option linter.unusedVariables false
set_option linter.unusedSimpArgs false
namespace Go.Proofs.YtpkeonafcldkhaaGreatDoor
open Go.RowKit
theorem TokAt.drewN {w : World} {v : Value} {xs : List (Int × ByteArray × Int)} (h : TokAt w v xs) (n : Nat) : TokAt (w.drewN n) v xs := h
set_option maxRecDepth 100000 in
set_option maxHeartbeats 2000000 in
theorem law_same (w : World) (ao bo : Option Addr) (na nb ca cb : Nat) (ts : List Tok) (ha : TokAt w (.slice ao na ca) (ts.map tokV)) (hb : TokAt w (.slice bo nb cb) (ts.map tokV)) (hn : ts.length ≤ 1099511627776) :
  Calls Tryz.prog 13 #[.slice ao na ca, .slice bo nb cb] w fun e w' => e = .returned (.bool true) ∧ ∃ d, w' = w.drewN d := by
 obtain ⟨rfl, ha0⟩ := ha.tok
 obtain ⟨rfl, hb0⟩ := hb.tok
 have HA := Lib.hid ha0
 have HB := Lib.hid hb0
 clear ha hb ha0 hb0
 go_enter Tryz.func13, Tryz.ntmps13
 go_wp2_with fail
 go_loopw [5] (fun t5 wr => ∃ (j d : Nat), Hid (j ≤ ts.length ∧ wr = w.drewN d) ∧ t5 = .int .i64 (j : Int)) (fun t5 _ => ts.length - (intOf t5).toNat)
 case atStart => exact ⟨0, 0, Lib.hid ⟨Nat.zero_le _, rfl⟩, rfl⟩
 case round =>
  obtain ⟨j, d, hI, rfl⟩ := hrel
  have hw := hI.out.2
  subst hw
  by_cases hj : j < ts.length
  ·have p2 : ((j : Int) < (ts.length : Int)) = True := eq_true (by omega)
   obtain ⟨g, o, rfl, hg, c0, c1, c2⟩ := HA.out j hj
   obtain ⟨g', o', rfl, hg', d0, d1, d2⟩ := HB.out j hj
   generalize (ts[j].kind : Int) = K at c0 d0
   generalize (⟨ts[j].text.toArray⟩ : ByteArray) = X at c1 d1
   generalize (ts[j].pos : Int) = P at c2 d2
   go_wp2_with fail
   go_quiet (fail)
   go_wp2_with fail
   exact ⟨⟨j + 1, d + nq, Lib.hid ⟨hj, rfl⟩, rfl⟩, meas_j hj⟩
  ·have p2 : ((j : Int) < (ts.length : Int)) = False := eq_false (by omega)
   go_wp2_with fail
   go_ret
   exact ⟨rfl, d, rfl⟩
end Go.Proofs.YtpkeonafcldkhaaGreatDoor
