import Derived.Test.YtpkeonafcldkhaaGreatDoorPlE
/- Plain words of lex: tokens. -/
set_option linter.unusedVariables false
set_option linter.unusedSimpArgs false
namespace Go.Proofs.YtpkeonafcldkhaaGreatDoor
open Go.RowKit

def infnan (t : List UInt8) : Bool := (t.take 4).map low == [105, 110, 102] || (t.take 4).map low == [110, 97, 110]
/-- A name's kind: metric, number, name. -/
def nameTok (br : Bool) (t : List UInt8) : Nat := if t.contains 58 then 2 else if !br && infnan t then 3 else 1
/-- A number's digits as a whole number, how many of them stand behind the point, and its exponent. -/
def headPart (l : List UInt8) : List UInt8 := l.takeWhile fun c => !isE c
def decVal (l : List UInt8) : Nat := l.foldl (fun n c => n * 10 + (c.toNat - 48)) 0
def mant (l : List UInt8) : Nat := decVal ((headPart l).filter digit)
def behind (l : List UInt8) : Nat := ((headPart l).dropWhile fun c => c.toNat != 46).length - 1
def expPart (l : List UInt8) : List UInt8 := (l.dropWhile fun c => !isE c).drop 1
def expo (l : List UInt8) : Int := if (expPart l).head? = some 45 then -(decVal ((expPart l).filter digit) : Int) else (decVal ((expPart l).filter digit) : Int)
def hexOf (c : UInt8) : Nat := if digit c then c.toNat - 48 else if 97 ≤ c.toNat then c.toNat - 87 else c.toNat - 55
def hexVal (l : List UInt8) : Nat := l.foldl (fun n c => n * 16 + hexOf c) 0
/-- Is d * 10^e above every finite number, when it is rounded? -/
def over (d : Nat) (e : Int) : Bool := decide ((2 ^ 1024 - 2 ^ 970) * 10 ^ (-e).toNat ≤ d * 10 ^ e.toNat)
def huge (l : List UInt8) : Bool := if isX (atB l 1) = true then over (hexVal (l.drop 2)) 0 else over (mant l) (expo l - (behind l : Int))
def isWord3 (l : List UInt8) (a b c : Nat) : Bool := l.length == 3 && ((atB l 0).toNat ||| 32) == a && ((atB l 1).toNat ||| 32) == b && ((atB l 2).toNat ||| 32) == c
/-- The error of num.Read. -/
def numErr (l : List UInt8) : Nat :=
  if 512 < l.length then 1
  else if isWord3 l 105 110 102 || isWord3 l 110 97 110 then 0
  else if l = [] ∨ numPrefix l ≠ l.length then 20
  else if huge l then 21 else 0
/-- What token finds: an error, or a token with the flags behind it. -/
inductive TokR where
  | bad (e : Nat)
  | tok (kind n : Nat) (br sq : Bool)
/-- A number's or a duration's token at the head. -/
def numKind (l : List UInt8) : Nat := if numPrefix l < spanPrefix l then 4 else 3
def numLen (l : List UInt8) : Nat := if numPrefix l < spanPrefix l then spanPrefix l else numPrefix l
def numFault (l : List UInt8) : Bool := decide (numLen l < l.length) && (letter (atB l (numLen l)) || digit (atB l (numLen l)) || (atB l (numLen l)).toNat == 46)
def numBad (l : List UInt8) : Nat := if numPrefix l < spanPrefix l then (spanParse (l.take (numLen l))).2 else numErr (l.take (numLen l))
def numberR (l : List UInt8) (br sq : Bool) : TokR := if numFault l = true then .bad 112 else if numBad l ≠ 0 then .bad 112 else .tok (numKind l) (numLen l) br sq
theorem numLen_le (l : List UInt8) : numLen l ≤ l.length := by
  unfold numLen
  split
  · exact spanPrefix_le l
  · exact numPrefix_le l
theorem bneF {n : Nat} (h : ((n : Int) != 0) = false) : n = 0 := by
  have : (n : Int) = 0 := by simpa using h
  omega
theorem bneT {n : Nat} (h : ((n : Int) != 0) = true) : n ≠ 0 := by
  have : ¬ (n : Int) = 0 := by simpa using h
  omega
theorem numFault_in {t : ByteArray} {n : Nat} (hn : numLen t.data.toList = n) (h : n < t.size) : numFault t.data.toList = (letter t[n] || digit t[n] || (t[n].toNat == 46)) := by
  rw [numFault, hn, len_data, decide_eq_true h, Bool.true_and, atB_lt h]
theorem numFault_out {t : ByteArray} {n : Nat} (hn : numLen t.data.toList = n) (h : ¬ n < t.size) : numFault t.data.toList = false := by
  rw [numFault, hn, len_data, decide_eq_false h, Bool.false_and]
theorem numberR_fault {l : List UInt8} {br sq : Bool} (h : numFault l = true) : numberR l br sq = .bad 112 := by rw [numberR, if_pos h]
theorem numberR_bad {l : List UInt8} {br sq : Bool} (h : numFault l = false) (h2 : numBad l ≠ 0) : numberR l br sq = .bad 112 := by
  rw [numberR, h, if_neg (by simp), if_pos h2]
theorem numberR_ok {l : List UInt8} {br sq : Bool} {k n : Nat} (hk : numKind l = k) (hn : numLen l = n) (h : numFault l = false) (h2 : numBad l = 0) : numberR l br sq = .tok k n br sq := by
  rw [numberR, h, if_neg (by simp), if_neg (by omega), hk, hn]
theorem num_span {l : List UInt8} {sp : Nat} (hs : spanPrefix l = sp) (h : numPrefix l < sp) : numKind l = 4 ∧ numLen l = sp ∧ numBad l = (spanParse (l.take sp)).2 := by
  subst hs; refine ⟨?_, ?_, ?_⟩
  · rw [numKind, if_pos h]
  · rw [numLen, if_pos h]
  · rw [numBad, if_pos h, numLen, if_pos h]
theorem num_num {l : List UInt8} {np : Nat} (hn : numPrefix l = np) (h : ¬ np < spanPrefix l) : numKind l = 3 ∧ numLen l = np ∧ numBad l = numErr (l.take np) := by
  subst hn; refine ⟨?_, ?_, ?_⟩
  · rw [numKind, if_neg h]
  · rw [numLen, if_neg h]
  · rw [numBad, if_neg h, numLen, if_neg h]
/-- The operators of two bytes; of one. -/
def ops2 : List (List UInt8) := [[61, 61], [33, 61], [61, 126], [33, 126], [60, 61], [62, 61]]
def op2 (l : List UInt8) : Bool := decide (1 < l.length) && ops2.contains (l.take 2)
def ops1 : List Nat := [40, 41, 44, 58, 61, 60, 62, 43, 45, 42, 47, 37, 94, 64]
/-- An operator's token at the head of l. -/
def opR (l : List UInt8) (br sq : Bool) : TokR :=
  if op2 l = true then .tok 6 2 br sq
  else if (atB l 0).toNat = 123 then .tok 6 1 true sq
  else if (atB l 0).toNat = 125 then .tok 6 1 false sq
  else if (atB l 0).toNat = 91 then .tok 6 1 br true
  else if (atB l 0).toNat = 93 then .tok 6 1 br false
  else if ops1.contains (atB l 0).toNat = true then .tok 6 1 br sq
  else .bad 110
theorem opR_two {l : List UInt8} {br sq : Bool} (h : op2 l = true) : opR l br sq = .tok 6 2 br sq := by rw [opR, if_pos h]
theorem opR_one {l : List UInt8} {br sq : Bool} (h : op2 l = false) {c : Nat} (hc : (atB l 0).toNat = c) : opR l br sq =
    if c = 123 then .tok 6 1 true sq else if c = 125 then .tok 6 1 false sq else if c = 91 then .tok 6 1 br true else if c = 93 then .tok 6 1 br false
    else if ops1.contains c = true then .tok 6 1 br sq else .bad 110 := by
  rw [opR, h, hc, if_neg (by simp)]
end Go.Proofs.YtpkeonafcldkhaaGreatDoor
