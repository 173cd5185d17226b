import Derived.WalkKit
import Derived.WalkSpells
import Derived.WalkLawsBesides
import Derived.Lib.Hide
import GoSem.PinnedTables
import Ieee.Arith
import Derived.Shelf.Strings.Builder1
import Derived.Shelf.Small.Strs
import Derived.Shelf.Strings.Search1
import Derived.Shelf.Strings.Search2
import Derived.Shelf.Strings.Search3
import Derived.Test.YtpkeonafcldkhaaGreatDoorProg
/- Part of the proof of YtpkeonafcldkhaaGreatDoorCardS CardV: PlM Shelf. -/
set_option linter.unusedVariables false
set_option linter.unusedSimpArgs false
namespace Go.Proofs.YtpkeonafcldkhaaGreatDoor
open Go.RowKit
def roundU (u : Nat) : Nat := (u + 1 + (u / 4 &&& 1)) / 4
def packRng (m : Nat) (e : Int) : Bool := decide (m &&& 4503599627370496 ≠ 0) && decide (972 ≤ e)
def packB (m : Nat) (e : Int) : Nat :=
 if m &&& 4503599627370496 = 0 then m else if 972 ≤ e then 9218868437227405312 else (m &&& 18442240474082181119) ||| ((1075 + e).toNat * 4503599627370496 % 18446744073709551616)
def log2P (p : Int) : Int := p * 108853 / 32768
def powHi (p : Int) : Nat := (Pinned.pow10Rows.getD (p + 348).toNat (0, 0)).1
def powLo (p : Int) : Nat := (Pinned.pow10Rows.getD (p + 348).toNat (0, 0)).2
def uscaleN (x hi lo s : Nat) : Nat :=
 if x * hi / 18446744073709551616 / 2 ^ s * 2 ^ s ≠ x * hi / 18446744073709551616 then x * hi / 18446744073709551616 / 2 ^ s ||| 1
 else (x * hi / 18446744073709551616 - (if x * hi % 18446744073709551616 < x * lo / 18446744073709551616 then 1 else 0)) / 2 ^ s |||
  (if 1 < (x * hi % 18446744073709551616 + 18446744073709551616 - x * lo / 18446744073709551616) % 18446744073709551616 then 1 else 0)
def pfE (d : Nat) (p : Int) : Int := min 1074 (53 - ((d.log2 + 1 : Nat) : Int) - log2P p)
def pfS (d : Nat) (p : Int) : Int := -(pfE d p - (64 - ((d.log2 + 1 : Nat) : Int)) + log2P p + 3)
def pfU (d : Nat) (p : Int) : Nat := uscaleN (d * 2 ^ (63 - d.log2)) (powHi p) (powLo p) (pfS d p).toNat
def pfT (u : Nat) : Nat := if 36028797018963966 ≤ u then 1 else 0
def pfM (u : Nat) : Nat := roundU (u / 2 ^ pfT u ||| (u &&& 1))
def pf64 (d : Nat) (p : Int) : Nat := if 64 ≤ pfS d p then 0 else packB (pfM (pfU d p)) (-(pfE d p - (pfT (pfU d p) : Int)))
def pf64R (d : Nat) (p : Int) : Bool := if 64 ≤ pfS d p then false else packRng (pfM (pfU d p)) (-(pfE d p - (pfT (pfU d p) : Int)))
end Go.Proofs.YtpkeonafcldkhaaGreatDoor
set_option linter.unusedVariables false
set_option linter.unusedSimpArgs false
namespace Go.Proofs
open Go.Shelf
open Go.Shelf
def Tryz.lays169_ren : Go.Shelf.Ren := ⟨fun | 169 => 42 | n => n, fun | 70 => 66 | 9 => 9 | 0 => 0 | 72 => 68 | 37 => 40 | 127 => 101 | 3 => 3 | 5 => 5 | n => n, fun | n => n⟩
theorem Tryz.lays169 : Go.Proofs.Lays.n169 Tryz.prog Tryz.lays169_ren := {
 mixed := by kernel_rfl
 f169 := Tryz.func42.trans (congrArg some (by kernel_rfl))
 t0 := Tryz.underlying0
 a0 := Tryz.isAgg0
 z0 := Tryz.sizeOf0
 v0 := Tryz.zeroValue0
 t3 := Tryz.underlying3
 a3 := Tryz.isAgg3
 z3 := Tryz.sizeOf3
 v3 := Tryz.zeroValue3
 t9 := Tryz.underlying9
 a9 := Tryz.isAgg9
 z9 := Tryz.sizeOf9
 v9 := Tryz.zeroValue9
 t37 := Tryz.underlying40
 a37 := Tryz.isAgg40
 z37 := Tryz.sizeOf40
 v37 := Tryz.zeroValue40
 t70 := Tryz.underlying66
 a70 := Tryz.isAgg66
 z70 := Tryz.sizeOf66
 v70 := Tryz.zeroValue66
 t72 := Tryz.underlying68
 a72 := Tryz.isAgg68
 z72 := Tryz.sizeOf68
 v72 := Tryz.zeroValue68
 t127 := Tryz.underlying101
 a127 := Tryz.isAgg101
 z127 := Tryz.sizeOf101
 v127 := Tryz.zeroValue101 }
theorem Tryz.Builder_Extra_169 : Builder.Extra Tryz.prog Tryz.lays169_ren := {
 sizeBuilder := by kernel_rfl
 liesBuilder := by kernel_rfl
 t5 := Tryz.underlying5
 a5 := Tryz.isAgg5
 z5 := Tryz.sizeOf5
 v5 := Tryz.zeroValue5
 infoByte := by kernel_rfl
 cellsByte := by kernel_rfl
 sizeByte := by kernel_rfl
 neB5 := by decide }
open Go.RowKit in
theorem Tryz.Builder_String_any (B b : Nat) (l : List UInt8) (w : World) (h : Lib.IsBuilder 68 5 B b (Lib.byteCells l) w) (hBw : B ≤ w.heap.size) :
  Calls Tryz.prog 42 #[.pointer (some ⟨b, 0, none⟩)] w fun e w' => e = .returned (.string ⟨l.toArray⟩) ∧ Below B w w' := Any.Builder_String_any Tryz.lays169 Tryz.Builder_Extra_169 B b l w h hBw
def Tryz.lays137_ren : Go.Shelf.Ren := ⟨fun | 137 => 27 | 217 => 48 | 266 => 71 | n => n, fun | 9 => 9 | 5 => 5 | 3 => 3 | n => n, fun | n => n⟩
theorem Tryz.lays137 : Go.Proofs.Lays.n137 Tryz.prog Tryz.lays137_ren := {
 mixed := by kernel_rfl
 f137 := Tryz.func27.trans (congrArg some (by kernel_rfl))
 f217 := Tryz.func48.trans (congrArg some (by kernel_rfl))
 f266 := Tryz.func71.trans (congrArg some (by kernel_rfl))
 t3 := Tryz.underlying3
 a3 := Tryz.isAgg3
 z3 := Tryz.sizeOf3
 v3 := Tryz.zeroValue3
 t5 := Tryz.underlying5
 a5 := Tryz.isAgg5
 z5 := Tryz.sizeOf5
 v5 := Tryz.zeroValue5
 t9 := Tryz.underlying9
 a9 := Tryz.isAgg9
 z9 := Tryz.sizeOf9
 v9 := Tryz.zeroValue9 }
open Go.RowKit in
theorem Tryz.strings_IndexByte (s : ByteArray) (c : Int) (w : World) :
  Calls Tryz.prog 27 #[.string s, .int .u8 c] w fun e w' => e = .returned (.int .i64 (Lib.indexByte s.data.toList c.toNat.toUInt8)) ∧ w' = w := Any.strings_IndexByte Tryz.lays137 s c w
def Tryz.lays144_ren : Go.Shelf.Ren := ⟨fun | 144 => 72 | 143 => 93 | 219 => 115 | 217 => 48 | 225 => 125 | 224 => 126 | 267 => 127 | 266 => 71 | 314 => 136 | n => n, fun | 9 => 9 | 4 => 4 | 3 => 3 | 5 => 5 | 46 => 112 | 146 => 162 | 51 => 92 | n => n, fun | 1 => 1 | n => n⟩
theorem Tryz.lays144 : Go.Proofs.Lays.n144 Tryz.prog Tryz.lays144_ren := {
 mixed := by kernel_rfl
 f143 := Tryz.func93.trans (congrArg some (by kernel_rfl))
 f144 := Tryz.func72.trans (congrArg some (by kernel_rfl))
 f217 := Tryz.func48.trans (congrArg some (by kernel_rfl))
 f219 := Tryz.func115.trans (congrArg some (by kernel_rfl))
 f224 := Tryz.func126.trans (congrArg some (by kernel_rfl))
 f225 := Tryz.func125.trans (congrArg some (by kernel_rfl))
 f266 := Tryz.func71.trans (congrArg some (by kernel_rfl))
 f267 := Tryz.func127.trans (congrArg some (by kernel_rfl))
 f314 := Tryz.func136.trans (congrArg some (by kernel_rfl))
 t3 := Tryz.underlying3
 a3 := Tryz.isAgg3
 z3 := Tryz.sizeOf3
 v3 := Tryz.zeroValue3
 t4 := Tryz.underlying4
 a4 := Tryz.isAgg4
 z4 := Tryz.sizeOf4
 v4 := Tryz.zeroValue4
 t5 := Tryz.underlying5
 a5 := Tryz.isAgg5
 z5 := Tryz.sizeOf5
 v5 := Tryz.zeroValue5
 t9 := Tryz.underlying9
 a9 := Tryz.isAgg9
 z9 := Tryz.sizeOf9
 v9 := Tryz.zeroValue9
 t46 := Tryz.underlying112
 a46 := Tryz.isAgg112
 z46 := Tryz.sizeOf112
 v46 := Tryz.zeroValue112
 t51 := Tryz.underlying92
 a51 := Tryz.isAgg92
 z51 := Tryz.sizeOf92
 v51 := Tryz.zeroValue92
 t146 := Tryz.underlying162
 a146 := Tryz.isAgg162
 z146 := Tryz.sizeOf162
 v146 := Tryz.zeroValue162
 g1 := by kernel_rfl }
open Go.RowKit Go.Lib in
theorem Tryz.strings_Contains_one (s : ByteArray) (c : UInt8) (w : World) :
  Calls Tryz.prog 72 #[.string s, .string ⟨#[c]⟩] w fun e w' => e = .returned (.bool (decide (0 ≤ Lib.indexByte s.data.toList c))) ∧ w' = w := Any.strings_Contains_one Tryz.lays144 s c w
end Go.Proofs
