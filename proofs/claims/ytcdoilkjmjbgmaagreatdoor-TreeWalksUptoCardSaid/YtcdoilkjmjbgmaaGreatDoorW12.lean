import Derived.Test.YtcdoilkjmjbgmaaGreatDoorW11
import Derived.Deep.RegionWith
import Derived.Outline
/- Part of the proof of YtcdoilkjmjbgmaaGreatDoorCardX: TrR. -/
set_option maxRecDepth 100000
set_option maxHeartbeats 4000000
set_option linter.unusedVariables false
set_option linter.unusedSimpArgs false
namespace Go.Proofs.YtcdoilkjmjbgmaaGreatDoor
open Go.RowKit
variable {w W':World} {Z:Array Value} {t:TypeId} {r:PR} {m o i l v:Value}
def fZ (r:PR):PR:=
 let r:={r with kids:=0}
 if r.kind=1∨r.kind=2 then {r with text:=eS}
 else if r.kind=3 then {r with text:=eS,ms:=[],off:=eS,tim:=eS}
 else if r.kind=4 then {r with bQ:=eS}
 else if r.kind=5 then {r with bQ:=eS,step:=eS,off:=eS,tim:=eS}
 else if r.kind=6∨r.kind=8 then {r with op:=eS}
 else if r.kind=7 then {r with op:=eS,bool:=false,given:=false,on:=false,mls:=[],card:=0,inc:=[]}
 else if r.kind=9 then {r with op:=eS,without:=false,labels:=[]}
 else r
def qK (w:World) (r:PR) (e:Ending) (w':World):Prop:=
 ∃m o i l,e= .returned (jP r m o i l)∧bw 0 w' r m o i l∧Below w.heap.size w w'
theorem jk (b:Nat) (w:World):cL b w (.slice none 0 0) []:=⟨none,0,rfl,fun j h=>absurd h (by simp)⟩
theorem xU (b:Nat) (w:World):fU b w (.slice none 0 0) []:=⟨none,0,rfl,fun j h=>absurd h (by simp)⟩
theorem fp (w:World) (A:Obj) (Z:Array Value) (t:TypeId):aH ((w.alloc A).alloc (.cells Z t)) (w.heap.size+1) t Z:=by
 have:=aH.new (w.alloc A) t Z;simpa using this
theorem oj {A:Obj} (h:bw 0 w r m o i l) (hg:((w.alloc A).alloc (.cells Z t)).grownBy W' (some (w.heap.size+1))) (hv:v= .agg (dN r m o i l)):
  qK w r (.returned v) W':=by
 subst hv;have aM:Below w.heap.size w ((w.alloc A).alloc (.cells Z t)):=((aS _ w).alloc (aP _) _).alloc (by simp) _;have hb:=ic aM hg (by simp;omega) (by omega);exact⟨m,o,i,l,rfl,h.below hb,hb⟩
