import Derived.Test.YtcdoilkjmjbgmaaGreatDoorS00
import Derived.WalkKit
import Derived.WalkSpells
import Derived.WalkLawsBesides
import Derived.Lib.Hide
import GoSem.PinnedTables
import Ieee.Arith
/- Part of the proof of YtcdoilkjmjbgmaaGreatDoorCardY: PlM. -/
set_option maxRecDepth 100000
set_option maxHeartbeats 4000000
set_option linter.unusedVariables false
set_option linter.unusedSimpArgs false
namespace Go.Proofs.YtcdoilkjmjbgmaaGreatDoor
open Go.RowKit
def xw (u:Nat):Nat:=(u+1+(u/4&&&1))/4
def ky (m:Nat) (e:Int):Bool:=decide (m&&&4503599627370496≠0)&&decide (972≤e)
def lG (m:Nat) (e:Int):Nat:=
 if m&&&4503599627370496=0 then m else if 972≤e then 9218868437227405312 else(m&&&18442240474082181119)|||((1075+e).toNat*4503599627370496%18446744073709551616)
def kO (p:Int):Int:=p*108853/32768
def dW (p:Int):Nat:=(Pinned.pow10Rows.getD (p+348).toNat (0,0)).1
def kP (p:Int):Nat:=(Pinned.pow10Rows.getD (p+348).toNat (0,0)).2
def gH (x hi lo s:Nat):Nat:=
 if x*hi/18446744073709551616/2^s*2^s≠x*hi/18446744073709551616 then x*hi/18446744073709551616/2^s|||1
 else(x*hi/18446744073709551616-(if x*hi%18446744073709551616<x*lo/18446744073709551616 then 1 else 0))/2^s|||
  (if 1<(x*hi%18446744073709551616+18446744073709551616-x*lo/18446744073709551616)%18446744073709551616 then 1 else 0)
def Dh (d:Nat) (p:Int):Int:=min 1074 (53-((d.log2+1:Nat):Int)-kO p)
def uV (d:Nat) (p:Int):Int:= -(Dh d p-(64-((d.log2+1:Nat):Int))+kO p+3)
def Lo (d:Nat) (p:Int):Nat:=gH (d*2^(63-d.log2)) (dW p) (kP p) (uV d p).toNat
def r6 (u:Nat):Nat:=if 36028797018963966≤u then 1 else 0
def Po (u:Nat):Nat:=xw (u/2^r6 u|||(u&&&1))
def lp (d:Nat) (p:Int):Nat:=if 64≤uV d p then 0 else lG (Po (Lo d p)) (-(Dh d p-(r6 (Lo d p):Int)))
def IN (d:Nat) (p:Int):Bool:=if 64≤uV d p then false else ky (Po (Lo d p)) (-(Dh d p-(r6 (Lo d p):Int)))
