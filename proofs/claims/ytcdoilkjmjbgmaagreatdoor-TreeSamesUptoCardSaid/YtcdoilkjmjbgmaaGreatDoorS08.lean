import Derived.Test.YtcdoilkjmjbgmaaGreatDoorS01
import Derived.Lib.DecodeN
import Derived.Lib.Strings
import Derived.Deep.QuietTactic
import Derived.BigQuiet
import Derived.Deep.RegionHeld3
import Derived.StillTailTactics
/- Part of the proof of YtcdoilkjmjbgmaaGreatDoorCardY: TrD. -/
set_option maxRecDepth 100000
set_option maxHeartbeats 4000000
set_option linter.unusedVariables false
set_option linter.unusedSimpArgs false
namespace Go.Proofs.YtcdoilkjmjbgmaaGreatDoor
open Go.RowKit
open Go.Proofs.Tryz
variable {P:Program} {t e:TypeId} {b:Nat} {w w' A B C w0 w00:World} {v:Value} {ks:List Value} {r:PR}
theorem dx (h:P.underlying t=some (.pointer e)) (hz: ∀w,(zeroValue t).run P w= .ok (.pointer none) w) (d:TypeId) (v:Value) (x:TypeId) (w:World):
  (Instr.typeAssert (.iface d v) x t true).run P w= .ok (.tuple #[if d=t then v else .pointer none,.bool (decide (d=t))]) w:=by
 unfold Instr.typeAssert;simp only[vy,run_underlying h,Result.andThen];by_cases hd:d=t
 ·simp[hd]
 ·simp[hd,hz,vy,Result.andThen]
abbrev Xl (t:TypeId):Prop:= ∀(d:TypeId) (v:Value) (x:TypeId) (w:World),(Instr.typeAssert (.iface d v) x t true).run prog w= .ok (.tuple #[if d=t then v else .pointer none,.bool (decide (d=t))]) w
theorem asNumber:Xl 105:=dx underlying105 fun _=>by kernel_rfl
theorem pF:Xl 108:=dx underlying108 fun _=>by kernel_rfl
theorem gY:Xl 84:=dx underlying84 fun _=>by kernel_rfl
theorem ny:Xl 98:=dx underlying98 fun _=>by kernel_rfl
theorem iT:Xl 112:=dx underlying112 fun _=>by kernel_rfl
theorem sj:Xl 115:=dx underlying115 fun _=>by kernel_rfl
theorem rB:Xl 118:=dx underlying118 fun _=>by kernel_rfl
theorem F5:Xl 122:=dx underlying122 fun _=>by kernel_rfl
theorem rO:Xl 125:=dx underlying125 fun _=>by kernel_rfl
def eS:ByteArray:=⟨#[]⟩
def zr (k n:Int):PR:=⟨k,n,eS,eS,[],eS,eS,eS,eS,false,false,false,[],0,[],false,[]⟩
def pw (b:Nat) (w:World) (v:Value) (ks:List Value):Prop:=
 ∃ao c,v= .slice ao ks.length c∧ ∀j (h:j<ks.length),∃g o,ao=some ⟨g,o,none⟩∧b≤g∧g<w.heap.size∧w.cell? ⟨g,o+j,none⟩=some ks[j]
theorem pw.below (h:pw b w v ks) (hb:Below w.heap.size w w'):pw b w' v ks:=by
 obtain⟨ao,c,h1,h2⟩:=h;refine⟨ao,c,h1,fun j hj=>?_⟩;obtain⟨g,o,a,l,u,x⟩:=h2 j hj;exact⟨g,o,a,l,iv u hb.size,(hb.cell (p:=⟨g,_,none⟩) u).trans x⟩
inductive ba (b:Nat) (w:World):Value→PR→List Value→Prop
 |number (g:Nat) (hb:b≤g) (hg:g<w.heap.size) (t:ByteArray) (c0:w.cell? ⟨g,0,none⟩=some (.string t)):ba b w (.iface 105 (.pointer (some ⟨g,0,none⟩))) {zr 1 0 with text:=t} []
 |text (g:Nat) (hb:b≤g) (hg:g<w.heap.size) (t:ByteArray) (c0:w.cell? ⟨g,0,none⟩=some (.string t)):ba b w (.iface 108 (.pointer (some ⟨g,0,none⟩))) {zr 2 0 with text:=t} []
 |selector (g:Nat) (hb:b≤g) (hg:g<w.heap.size) (t off tim:ByteArray) (vm:Value) (ms:List PM) (hm:fV b w vm ms) (c0:w.cell? ⟨g,0,none⟩=some (.string t)) (c1:w.cell? ⟨g,1,none⟩=some (vm)) (c2:w.cell? ⟨g,2,none⟩=some (.string off)) (c3:w.cell? ⟨g,3,none⟩=some (.string tim)):ba b w (.iface 84 (.pointer (some ⟨g,0,none⟩))) {zr 3 0 with text:=t,ms:=ms,off:=off,tim:=tim} []
 |range (g:Nat) (hb:b≤g) (hg:g<w.heap.size) (d:ByteArray) (p:Nat) (c0:w.cell? ⟨g,0,none⟩=some (.pointer (some ⟨p,0,none⟩))) (c1:w.cell? ⟨g,1,none⟩=some (.string d)):ba b w (.iface 98 (.pointer (some ⟨g,0,none⟩))) {zr 4 1 with bU:=d} [.iface 84 (.pointer (some ⟨p,0,none⟩))]
 |subquery (g:Nat) (hb:b≤g) (hg:g<w.heap.size) (d s off tim:ByteArray) (t:TypeId) (x:Value) (c0:w.cell? ⟨g,0,none⟩=some (.iface t x)) (c1:w.cell? ⟨g,1,none⟩=some (.string d)) (c2:w.cell? ⟨g,2,none⟩=some (.string s)) (c3:w.cell? ⟨g,3,none⟩=some (.string off)) (c4:w.cell? ⟨g,4,none⟩=some (.string tim)):ba b w (.iface 112 (.pointer (some ⟨g,0,none⟩))) {zr 5 1 with bU:=d,step:=s,off:=off,tim:=tim} [.iface t x]
 |unary (g:Nat) (hb:b≤g) (hg:g<w.heap.size) (o:ByteArray) (t:TypeId) (x:Value) (c0:w.cell? ⟨g,0,none⟩=some (.string o)) (c1:w.cell? ⟨g,1,none⟩=some (.iface t x)):ba b w (.iface 115 (.pointer (some ⟨g,0,none⟩))) {zr 6 1 with op:=o} [.iface t x]
 |binary (g:Nat) (hb:b≤g) (hg:g<w.heap.size) (o:ByteArray) (t u:TypeId) (x y:Value) (bo gi on:Bool) (vl vi:Value) (ls inc:List ByteArray) (card:Int) (hl:cO b w vl ls) (hi:cO b w vi inc) (c0:w.cell? ⟨g,0,none⟩=some (.string o)) (c1:w.cell? ⟨g,1,none⟩=some (.iface t x)) (c2:w.cell? ⟨g,2,none⟩=some (.iface u y)) (c3:w.cell? ⟨g,3,none⟩=some (.bool bo)) (c4:w.cell? ⟨g,4,none⟩=some (.bool gi)) (c5:w.cell? ⟨g,5,none⟩=some (.bool on)) (c6:w.cell? ⟨g,6,none⟩=some (vl)) (c7:w.cell? ⟨g,7,none⟩=some (.int .i64 card)) (c8:w.cell? ⟨g,8,none⟩=some (vi)):ba b w (.iface 118 (.pointer (some ⟨g,0,none⟩))) {zr 7 2 with op:=o,bool:=bo,given:=gi,on:=on,mls:=ls,card:=card,inc:=inc} [.iface t x,.iface u y]
 |call (g:Nat) (hb:b≤g) (hg:g<w.heap.size) (o:ByteArray) (va:Value) (ks:List Value) (hk:pw b w va ks) (c0:w.cell? ⟨g,0,none⟩=some (.string o)) (c1:w.cell? ⟨g,1,none⟩=some (va)):ba b w (.iface 122 (.pointer (some ⟨g,0,none⟩))) {zr 8 (ks.length:Nat)with op:=o} ks
 |aggr (g:Nat) (hb:b≤g) (hg:g<w.heap.size) (o:ByteArray) (t:TypeId) (x:Value) (wo:Bool) (vl:Value) (ls:List ByteArray) (hl:cO b w vl ls) (c0:w.cell? ⟨g,0,none⟩=some (.string o)) (c1:w.cell? ⟨g,1,none⟩=some (.nilIface)) (c2:w.cell? ⟨g,2,none⟩=some (.iface t x)) (c3:w.cell? ⟨g,3,none⟩=some (.bool wo)) (c4:w.cell? ⟨g,4,none⟩=some (vl)):ba b w (.iface 125 (.pointer (some ⟨g,0,none⟩))) {zr 9 1 with op:=o,without:=wo,labels:=ls} [.iface t x]
 |aggr2 (g:Nat) (hb:b≤g) (hg:g<w.heap.size) (o:ByteArray) (t u:TypeId) (x y:Value) (wo:Bool) (vl:Value) (ls:List ByteArray) (hl:cO b w vl ls) (c0:w.cell? ⟨g,0,none⟩=some (.string o)) (c1:w.cell? ⟨g,1,none⟩=some (.iface u y)) (c2:w.cell? ⟨g,2,none⟩=some (.iface t x)) (c3:w.cell? ⟨g,3,none⟩=some (.bool wo)) (c4:w.cell? ⟨g,4,none⟩=some (vl)):ba b w (.iface 125 (.pointer (some ⟨g,0,none⟩))) {zr 9 2 with op:=o,without:=wo,labels:=ls} [.iface u y,.iface t x]
theorem ba.below {b:Nat} {w w':World} {v:Value} {r:PR} {ks:List Value} (h:ba b w v r ks) (hB:Below w.heap.size w w'):ba b w' v r ks:=by
 cases h<;>constructor<;>first|assumption|exact iv (by assumption) hB.size|exact cO.below (by assumption) hB|exact fV.below (by assumption) hB|exact pw.below (by assumption) hB|exact(hB.cell (p:=⟨_,_,none⟩) (by assumption)).trans (by assumption)
theorem ba.args (h:ba b w v r ks) (h8:r.kind=8): ∃g va,v= .iface 122 (.pointer (some ⟨g,0,none⟩))∧w.cell? ⟨g,1,none⟩=some va∧pw b w va ks∧g<w.heap.size:=by
 cases h with
 |call g hb hg o va ks hk c0 c1=>exact⟨g,va,rfl,c1,hk,hg⟩
 |_=>simp[zr]at h8
def lI (t:TypeId) (A B:World):Prop:= ∀g cs,aM A g t cs→aM B g t cs
theorem lI.refl (t:TypeId) (A:World):lI t A A:=fun _ _ h=>h
theorem lI.trans (h:lI t A B) (k:lI t B C):lI t A C:=fun g cs x=>k g cs (h g cs x)
theorem lI.kT (h:Below A.heap.size A B):lI t A B:=fun _ _ x=>x.below h x.lt
def fK (w0 w:World) (ks:List Value) (e:Ending) (w':World):Prop:=
 ∃s,e= .returned s∧pw 0 w' s ks∧Below w.heap.size w w'∧ ∀g o n c,0<ks.length→s= .slice (some ⟨g,o,none⟩) n c→g<w0.heap.size∨ ∃cs,aM w' g 27 cs
theorem Qw:fK w0 w [] (.returned (.slice none 0 0)) w:=⟨_,rfl,⟨none,0,rfl,fun j h=>absurd h (by simp)⟩,aU _ _,fun g o n c h=>absurd h (by simp)⟩
theorem Jp (a:Array Value) (hl:a.toList=ks) (w0:World) (hb:Below w0.heap.size w0 w):fK w00 w0 ks (.returned (.slice (some ⟨w.heap.size,0,none⟩) ks.length ks.length)) (w.alloc (.cells a 27)):=by
 subst hl;refine⟨_,rfl,⟨some ⟨w.heap.size,0,none⟩,_,rfl,fun j h=>⟨w.heap.size,0,rfl,aV _,by simp,?_⟩⟩,hb.alloc hb.size _,fun g o n c _ h=>?_⟩
 ·rw[xf _ _ _ _ rfl];simp at h ⊢
 ·injection h with h1 _ _
  injection h1 with h1
  injection h1 with h1 _ _
  subst h1;exact .inr ⟨a,aM.new _ _ _⟩
theorem dR (h : ba b w0 v r ks) (hB : Below w0.heap.size w0 w) : Calls prog 62 #[v] w (fK w0 w ks) := by
  have a1:=ny
  have a2:=iT
  have a3:=sj
  have a4:=rB
  have a5:=F5
  have a6:=rO
  have h':=h.below hB
  have HH:=ae h
  have HB:=ae hB
  clear h hB
  cases h' with
  | call g hb hg o va ks hk c0 c1 =>
    obtain⟨ao,c,rfl,zE⟩:=hk
    have HK : Hid (∀ (j : Nat) (_ : j < ks.length), ∃ g o, ao = some ⟨g, o, none⟩ ∧ g < w0.heap.size) := ae fun j hj => by
      obtain⟨g',va',e,c1',hk',Sq⟩:=HH.out.args rfl
      injection e with _ e
      injection e with e
      injection e with e
      injection e with e _ _
      subst e
      rw[←HB.out.cell (p:=⟨g,1,none⟩) Sq,c1]at c1'
      injection c1' with e
      subst e
      obtain⟨_,_,e,h2⟩:=hk'
      injection e with e
      subst e
      obtain⟨g,o,a,_,l,_⟩:=h2 j hj
      exact⟨g,o,a,l⟩
    have HE : Hid (pw 0 w (.slice ao ks.length c) ks) := ae ⟨ao, c, rfl, fun j hj => by
      obtain⟨g,o,a,_,l⟩:=zE j hj
      exact⟨g,o,a,aV _,l⟩⟩
    clear zE
    go_enter func62,ntmps62
    go_wp2_with fail
    go_ret
    refine⟨_,rfl,HE.out,aU _ _,fun g o n c' h1 h2=>?_⟩
    obtain⟨g',o',a,l⟩:=HK.out 0 h1
    subst a
    injection h2 with h2 _ _
    injection h2 with h2
    injection h2 with h2 _ _
    subst h2
    exact .inl l
  | _ =>
    go_enter func62,ntmps62
    go_wp2_with fail
    try(go_still_tail 8,(by kernel_rfl);go_wp2_with fail)
    go_ret
    first
    | exact Qw
    | exact Jp _ rfl _ (aU _ _)
    | exact Jp _ rfl _ (bZ (aU _ _) _)
