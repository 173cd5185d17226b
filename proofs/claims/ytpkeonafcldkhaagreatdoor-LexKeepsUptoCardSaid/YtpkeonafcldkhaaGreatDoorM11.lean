import Derived.Test.YtpkeonafcldkhaaGreatDoorM08
import Derived.Test.YtpkeonafcldkhaaGreatDoorM10
import Derived.Test.YtpkeonafcldkhaaGreatDoorM05
/- lex: token. -/
set_option linter.unusedVariables false
set_option linter.unusedSimpArgs false
namespace Go.Proofs.YtpkeonafcldkhaaGreatDoor
open Go.RowKit

theorem TokPost.from {base p : Nat} {s : ByteArray} {at' : Nat} {br sq : Bool} {ts : List Tok} {w w1 w' : World} {r : TokR} {e : Ending} (h : TokPost base p s at' br sq ts w1 r e w') (hb : Below base w w1) : TokPost base p s at' br sq ts w r e w' := by
  cases r with
  | bad k =>
    obtain ⟨h1, v, h2, h3, h4⟩ := h
    exact ⟨h1, v, h2, h3, hb.trans h4⟩
  | tok k n b q => exact PutPost.from h hb
theorem TokPost.ret {base p : Nat} {s : ByteArray} {at' : Nat} {br sq : Bool} {ts : List Tok} {w w' : World} {r : TokR} {e : Ending} (h : TokPost base p s at' br sq ts w r e w') : ∃ k : Nat, e = .returned (.int .i64 (k : Int)) := by
  cases r with
  | bad k => exact ⟨k, h.1⟩
  | tok k n b q => exact ⟨0, h.1⟩
theorem quoteF {c : UInt8} (h1 : ((c.toNat : Int) == 34) = false) (h2 : ((c.toNat : Int) == 39) = false) (h3 : ((c.toNat : Int) == 96) = false) : ¬ isQuote c = true := by
  have n1 := litF (n := 34) (by omega) rfl h1
  have n2 := litF (n := 39) (by omega) rfl h2
  have n3 := litF (n := 96) (by omega) rfl h3
  intro h
  simp only [isQuote, Bool.or_eq_true, beq_iff_eq] at h
  rcases h with (h | h) | h
  · exact n1 h
  · exact n2 h
  · exact n3 h
theorem quoteT {c : UInt8} (h : (c.toNat : Int) = 34 ∨ (c.toNat : Int) = 39 ∨ (c.toNat : Int) = 96) : isQuote c = true := by
  simp only [isQuote, Bool.or_eq_true, beq_iff_eq]
  rcases h with h | h | h
  · exact .inl (.inl (u8_lit (n := 34) (by omega) (by omega)))
  · exact .inl (.inr (u8_lit (n := 39) (by omega) (by omega)))
  · exact .inr (u8_lit (n := 96) (by omega) (by omega))
end Go.Proofs.YtpkeonafcldkhaaGreatDoor
