import Derived.WalkKit
import Derived.WalkSpells
import Derived.WalkLawsBesides
import Derived.Lib.Hide
import GoSem.PinnedTables
import Ieee.Arith
/- Part of the proof of YtibcjfjacielbaaGreatDoorCardP: PlM. -/
set_option maxRecDepth 100000
set_option maxHeartbeats 4000000
set_option linter.unusedVariables false
set_option linter.unusedSimpArgs false
namespace Go.Proofs.YtibcjfjacielbaaGreatDoor
open Go.RowKit
def roundU (u:Nat):Nat:=(u+1+(u/4&&&1))/4
def packRng (m:Nat) (e:Int):Bool:=decide (m&&&4503599627370496≠0)&&decide (972≤e)
def packB (m:Nat) (e:Int):Nat:=
 if m&&&4503599627370496=0 then m else if 972≤e then 9218868437227405312 else(m&&&18442240474082181119)|||((1075+e).toNat*4503599627370496%18446744073709551616)
def log2P (p:Int):Int:=p*108853/32768
def powHi (p:Int):Nat:=(Pinned.pow10Rows.getD (p+348).toNat (0,0)).1
def powLo (p:Int):Nat:=(Pinned.pow10Rows.getD (p+348).toNat (0,0)).2
def uscaleN (x hi lo s:Nat):Nat:=
 if x*hi/18446744073709551616/2^s*2^s≠x*hi/18446744073709551616 then x*hi/18446744073709551616/2^s|||1
 else(x*hi/18446744073709551616-(if x*hi%18446744073709551616<x*lo/18446744073709551616 then 1 else 0))/2^s|||
  (if 1<(x*hi%18446744073709551616+18446744073709551616-x*lo/18446744073709551616)%18446744073709551616 then 1 else 0)
def pfE (d:Nat) (p:Int):Int:=min 1074 (53-((d.log2+1:Nat):Int)-log2P p)
def pfS (d:Nat) (p:Int):Int:= -(pfE d p-(64-((d.log2+1:Nat):Int))+log2P p+3)
def pfU (d:Nat) (p:Int):Nat:=uscaleN (d*2^(63-d.log2)) (powHi p) (powLo p) (pfS d p).toNat
def pfT (u:Nat):Nat:=if 36028797018963966≤u then 1 else 0
def pfM (u:Nat):Nat:=roundU (u/2^pfT u|||(u&&&1))
def pf64 (d:Nat) (p:Int):Nat:=if 64≤pfS d p then 0 else packB (pfM (pfU d p)) (-(pfE d p-(pfT (pfU d p):Int)))
def pf64R (d:Nat) (p:Int):Bool:=if 64≤pfS d p then false else packRng (pfM (pfU d p)) (-(pfE d p-(pfT (pfU d p):Int)))
end Go.Proofs.YtibcjfjacielbaaGreatDoor
