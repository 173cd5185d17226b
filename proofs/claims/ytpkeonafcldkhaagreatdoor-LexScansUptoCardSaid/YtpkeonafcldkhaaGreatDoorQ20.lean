import Derived.Test.YtpkeonafcldkhaaGreatDoorQ19
import Derived.Deep.CutBlock
/- Part of the proof of YtpkeonafcldkhaaGreatDoorCardS CardV: LawB. -/
set_option linter.unusedVariables false
set_option linter.unusedSimpArgs false
namespace Go.Proofs.YtpkeonafcldkhaaGreatDoor
open Go.RowKit
def TokAt (w : World) (v : Value) (xs : List (Int × ByteArray × Int)) : Prop :=
 ∃ ao c, v = .slice ao xs.length c ∧ ∀ j (h : j < xs.length), ∃ g o, ao = some ⟨g, o, none⟩ ∧ g < w.heap.size ∧ w.cell? ⟨g, o + j * 3, none⟩ = some (.int .i64 xs[j].1) ∧ w.cell? ⟨g, o + j * 3 + 1, none⟩ = some (.string xs[j].2.1) ∧ w.cell? ⟨g, o + j * 3 + 2, none⟩ = some (.int .i64 xs[j].2.2)
theorem TokRow.at {w : World} {g o c : Nat} {xs : List (Int × ByteArray × Int)} (h : TokRow w g o xs) : TokAt w (.slice (some ⟨g, o, none⟩) xs.length c) xs :=
 ⟨_, c, rfl, fun j hj => ⟨g, o, rfl, h.1, h.2 j hj⟩⟩
theorem TokSl.at {w : World} {v : Value} {xs : List (Int × ByteArray × Int)} (h : TokSl w v xs) : TokAt w v xs := by
 rcases h with ⟨rfl, rfl⟩ | ⟨g, o, c, rfl, h⟩
 ·exact ⟨none, 0, rfl, fun j hj => absurd hj (by simp)⟩
 ·exact h.at
theorem TokAt.below {w w' : World} {v : Value} {xs : List (Int × ByteArray × Int)} (h : TokAt w v xs) (hb : Below w.heap.size w w') : TokAt w' v xs := by
 obtain ⟨ao, c, rfl, hc⟩ := h
 refine ⟨ao, c, rfl, fun j hj => ?_⟩
 obtain ⟨g, o, rfl, hg, h1, h2, h3⟩ := hc j hj
 exact ⟨g, o, rfl, Nat.lt_of_lt_of_le hg hb.size, (hb.cell (p := ⟨g, _, none⟩) hg).trans h1, (hb.cell (p := ⟨g, _, none⟩) hg).trans h2, (hb.cell (p := ⟨g, _, none⟩) hg).trans h3⟩
theorem TokAt.tok {w : World} {ao : Option Addr} {n c : Nat} {ts : List Tok} (h : TokAt w (.slice ao n c) (ts.map tokV)) : n = ts.length ∧ ∀ j (h : j < ts.length), ∃ g o, ao = some ⟨g, o, none⟩ ∧ g < w.heap.size ∧ w.cell? ⟨g, o + j * 3, none⟩ = some (.int .i64 (ts[j].kind : Int)) ∧ w.cell? ⟨g, o + j * 3 + 1, none⟩ = some (.string ⟨ts[j].text.toArray⟩) ∧ w.cell? ⟨g, o + j * 3 + 2, none⟩ = some (.int .i64 (ts[j].pos : Int)) := by
 obtain ⟨ao', c', he, hc⟩ := h
 injection he with h1 h2 h3
 subst h1
 refine ⟨by simpa using h2, fun j hj => ?_⟩
 obtain ⟨g, o, h1, h2, h3, h4, h5⟩ := hc j (by simpa using hj)
 have e : (ts.map tokV)[j]'(by simpa using hj) = tokV ts[j] := by simp
 rw [e] at h3 h4 h5
 exact ⟨g, o, h1, h2, h3, h4, h5⟩
theorem meas_j {F r : Nat} (h : r < F) : F - (intOf (.int .i64 ((r : Int) + 1))).toNat < F - (intOf (.int .i64 (r : Int))).toNat := by
 have h1 : (intOf (.int .i64 ((r : Int) + 1))).toNat = r + 1 := rfl
 have h2 : (intOf (.int .i64 (r : Int))).toNat = r := rfl
 rw [h1, h2]
 exact Nat.sub_lt_sub_left h (Nat.lt_succ_self r)
end Go.Proofs.YtpkeonafcldkhaaGreatDoor
