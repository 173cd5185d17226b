import Derived.Test.YtcdoilkjmjbgmaaGreatDoorS12
import Derived.Deep.RegionWith
import Derived.Outline
/- Part of the proof of YtcdoilkjmjbgmaaGreatDoorCardY: TrR. -/
set_option maxRecDepth 100000
set_option maxHeartbeats 4000000
set_option linter.unusedVariables false
set_option linter.unusedSimpArgs false
namespace Go.Proofs.YtcdoilkjmjbgmaaGreatDoor
open Go.RowKit
variable {w W':World} {Z:Array Value} {t:TypeId} {r:PR} {m o i l v:Value}
def gd (r:PR):PR:=
 let r:={r with kids:=0}
 if r.kind=1∨r.kind=2 then {r with text:=eS}
 else if r.kind=3 then {r with text:=eS,ms:=[],off:=eS,tim:=eS}
 else if r.kind=4 then {r with bU:=eS}
 else if r.kind=5 then {r with bU:=eS,step:=eS,off:=eS,tim:=eS}
 else if r.kind=6∨r.kind=8 then {r with op:=eS}
 else if r.kind=7 then {r with op:=eS,bool:=false,given:=false,on:=false,mls:=[],card:=0,inc:=[]}
 else if r.kind=9 then {r with op:=eS,without:=false,labels:=[]}
 else r
def qo (w:World) (r:PR) (e:Ending) (w':World):Prop:=
 ∃m o i l,e= .returned (jM r m o i l)∧bA 0 w' r m o i l∧Below w.heap.size w w'
theorem jc (b:Nat) (w:World):cO b w (.slice none 0 0) []:=⟨none,0,rfl,fun j h=>absurd h (by simp)⟩
theorem xL (b:Nat) (w:World):fV b w (.slice none 0 0) []:=⟨none,0,rfl,fun j h=>absurd h (by simp)⟩
theorem ft (w:World) (A:Obj) (Z:Array Value) (t:TypeId):aM ((w.alloc A).alloc (.cells Z t)) (w.heap.size+1) t Z:=by
 have:=aM.new (w.alloc A) t Z;simpa using this
theorem nU {A:Obj} (h:bA 0 w r m o i l) (hg:((w.alloc A).alloc (.cells Z t)).grownBy W' (some (w.heap.size+1))) (hv:v= .agg (et r m o i l)):
  qo w r (.returned v) W':=by
 subst hv;have aQ:Below w.heap.size w ((w.alloc A).alloc (.cells Z t)):=((aU _ w).alloc (aS _) _).alloc (by simp) _;have hb:=ef aQ hg (by simp;omega) (by omega);exact⟨m,o,i,l,rfl,h.below hb,hb⟩
