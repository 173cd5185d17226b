import Derived.Test.YtcdoilkjmjbgmaaGreatDoorW01
import Derived.Lib.DecodeN
import Derived.Lib.Strings
import Derived.Deep.QuietTactic
import Derived.BigQuiet
import Derived.Deep.RegionHeld3
import Derived.StillTailTactics
/- Part of the proof of YtcdoilkjmjbgmaaGreatDoorCardX: TrD TkA. -/
set_option maxRecDepth 100000
set_option maxHeartbeats 4000000
set_option linter.unusedVariables false
set_option linter.unusedSimpArgs false
namespace Go.Proofs.YtcdoilkjmjbgmaaGreatDoor
open Go.RowKit
open Go.Proofs.Tryz
variable {P:Program} {t e:TypeId} {b n:Nat} {w w' A B C w0 w00:World} {v:Value} {ks:List Value} {r:PR}
theorem dv (h:P.underlying t=some (.pointer e)) (hz: ∀w,(zeroValue t).run P w= .ok (.pointer none) w) (d:TypeId) (v:Value) (x:TypeId) (w:World):
  (Instr.typeAssert (.iface d v) x t true).run P w= .ok (.tuple #[if d=t then v else .pointer none,.bool (decide (d=t))]) w:=by
 unfold Instr.typeAssert;simp only[vA,run_underlying h,Result.andThen];by_cases hd:d=t
 ·simp[hd]
 ·simp[hd,hz,vA,Result.andThen]
abbrev Xu (t:TypeId):Prop:= ∀(d:TypeId) (v:Value) (x:TypeId) (w:World),(Instr.typeAssert (.iface d v) x t true).run prog w= .ok (.tuple #[if d=t then v else .pointer none,.bool (decide (d=t))]) w
theorem asNumber:Xu 105:=dv underlying105 fun _=>by kernel_rfl
theorem qc:Xu 108:=dv underlying108 fun _=>by kernel_rfl
theorem ij:Xu 84:=dv underlying84 fun _=>by kernel_rfl
theorem nG:Xu 98:=dv underlying98 fun _=>by kernel_rfl
theorem jc:Xu 112:=dv underlying112 fun _=>by kernel_rfl
theorem sx:Xu 115:=dv underlying115 fun _=>by kernel_rfl
theorem rM:Xu 118:=dv underlying118 fun _=>by kernel_rfl
theorem Gg:Xu 122:=dv underlying122 fun _=>by kernel_rfl
theorem rY:Xu 125:=dv underlying125 fun _=>by kernel_rfl
def eS:ByteArray:=⟨#[]⟩
def zr (k n:Int):PR:=⟨k,n,eS,eS,[],eS,eS,eS,eS,false,false,false,[],0,[],false,[]⟩
def pU (b:Nat) (w:World) (v:Value) (ks:List Value):Prop:=
 ∃ao c,v= .slice ao ks.length c∧ ∀j (h:j<ks.length),∃g o,ao=some ⟨g,o,none⟩∧b≤g∧g<w.heap.size∧w.cell? ⟨g,o+j,none⟩=some ks[j]
theorem pU.below (h:pU b w v ks) (hb:Below w.heap.size w w'):pU b w' v ks:=by
 obtain⟨ao,c,h1,h2⟩:=h;refine⟨ao,c,h1,fun j hj=>?_⟩;obtain⟨g,o,a,l,u,x⟩:=h2 j hj;exact⟨g,o,a,l,gO u hb.size,(hb.cell (p:=⟨g,_,none⟩) u).trans x⟩
inductive aY (b:Nat) (w:World):Value→PR→List Value→Prop
 |number (g:Nat) (hb:b≤g) (hg:g<w.heap.size) (t:ByteArray) (c0:w.cell? ⟨g,0,none⟩=some (.string t)):aY b w (.iface 105 (.pointer (some ⟨g,0,none⟩))) {zr 1 0 with text:=t} []
 |text (g:Nat) (hb:b≤g) (hg:g<w.heap.size) (t:ByteArray) (c0:w.cell? ⟨g,0,none⟩=some (.string t)):aY b w (.iface 108 (.pointer (some ⟨g,0,none⟩))) {zr 2 0 with text:=t} []
 |selector (g:Nat) (hb:b≤g) (hg:g<w.heap.size) (t off tim:ByteArray) (vm:Value) (ms:List PM) (hm:fU b w vm ms) (c0:w.cell? ⟨g,0,none⟩=some (.string t)) (c1:w.cell? ⟨g,1,none⟩=some (vm)) (c2:w.cell? ⟨g,2,none⟩=some (.string off)) (c3:w.cell? ⟨g,3,none⟩=some (.string tim)):aY b w (.iface 84 (.pointer (some ⟨g,0,none⟩))) {zr 3 0 with text:=t,ms:=ms,off:=off,tim:=tim} []
 |range (g:Nat) (hb:b≤g) (hg:g<w.heap.size) (d:ByteArray) (p:Nat) (c0:w.cell? ⟨g,0,none⟩=some (.pointer (some ⟨p,0,none⟩))) (c1:w.cell? ⟨g,1,none⟩=some (.string d)):aY b w (.iface 98 (.pointer (some ⟨g,0,none⟩))) {zr 4 1 with bQ:=d} [.iface 84 (.pointer (some ⟨p,0,none⟩))]
 |subquery (g:Nat) (hb:b≤g) (hg:g<w.heap.size) (d s off tim:ByteArray) (t:TypeId) (x:Value) (c0:w.cell? ⟨g,0,none⟩=some (.iface t x)) (c1:w.cell? ⟨g,1,none⟩=some (.string d)) (c2:w.cell? ⟨g,2,none⟩=some (.string s)) (c3:w.cell? ⟨g,3,none⟩=some (.string off)) (c4:w.cell? ⟨g,4,none⟩=some (.string tim)):aY b w (.iface 112 (.pointer (some ⟨g,0,none⟩))) {zr 5 1 with bQ:=d,step:=s,off:=off,tim:=tim} [.iface t x]
 |unary (g:Nat) (hb:b≤g) (hg:g<w.heap.size) (o:ByteArray) (t:TypeId) (x:Value) (c0:w.cell? ⟨g,0,none⟩=some (.string o)) (c1:w.cell? ⟨g,1,none⟩=some (.iface t x)):aY b w (.iface 115 (.pointer (some ⟨g,0,none⟩))) {zr 6 1 with op:=o} [.iface t x]
 |binary (g:Nat) (hb:b≤g) (hg:g<w.heap.size) (o:ByteArray) (t u:TypeId) (x y:Value) (bo gi on:Bool) (vl vi:Value) (ls inc:List ByteArray) (card:Int) (hl:cL b w vl ls) (hi:cL b w vi inc) (c0:w.cell? ⟨g,0,none⟩=some (.string o)) (c1:w.cell? ⟨g,1,none⟩=some (.iface t x)) (c2:w.cell? ⟨g,2,none⟩=some (.iface u y)) (c3:w.cell? ⟨g,3,none⟩=some (.bool bo)) (c4:w.cell? ⟨g,4,none⟩=some (.bool gi)) (c5:w.cell? ⟨g,5,none⟩=some (.bool on)) (c6:w.cell? ⟨g,6,none⟩=some (vl)) (c7:w.cell? ⟨g,7,none⟩=some (.int .i64 card)) (c8:w.cell? ⟨g,8,none⟩=some (vi)):aY b w (.iface 118 (.pointer (some ⟨g,0,none⟩))) {zr 7 2 with op:=o,bool:=bo,given:=gi,on:=on,mls:=ls,card:=card,inc:=inc} [.iface t x,.iface u y]
 |call (g:Nat) (hb:b≤g) (hg:g<w.heap.size) (o:ByteArray) (va:Value) (ks:List Value) (hk:pU b w va ks) (c0:w.cell? ⟨g,0,none⟩=some (.string o)) (c1:w.cell? ⟨g,1,none⟩=some (va)):aY b w (.iface 122 (.pointer (some ⟨g,0,none⟩))) {zr 8 (ks.length:Nat)with op:=o} ks
 |aggr (g:Nat) (hb:b≤g) (hg:g<w.heap.size) (o:ByteArray) (t:TypeId) (x:Value) (wo:Bool) (vl:Value) (ls:List ByteArray) (hl:cL b w vl ls) (c0:w.cell? ⟨g,0,none⟩=some (.string o)) (c1:w.cell? ⟨g,1,none⟩=some (.nilIface)) (c2:w.cell? ⟨g,2,none⟩=some (.iface t x)) (c3:w.cell? ⟨g,3,none⟩=some (.bool wo)) (c4:w.cell? ⟨g,4,none⟩=some (vl)):aY b w (.iface 125 (.pointer (some ⟨g,0,none⟩))) {zr 9 1 with op:=o,without:=wo,labels:=ls} [.iface t x]
 |aggr2 (g:Nat) (hb:b≤g) (hg:g<w.heap.size) (o:ByteArray) (t u:TypeId) (x y:Value) (wo:Bool) (vl:Value) (ls:List ByteArray) (hl:cL b w vl ls) (c0:w.cell? ⟨g,0,none⟩=some (.string o)) (c1:w.cell? ⟨g,1,none⟩=some (.iface u y)) (c2:w.cell? ⟨g,2,none⟩=some (.iface t x)) (c3:w.cell? ⟨g,3,none⟩=some (.bool wo)) (c4:w.cell? ⟨g,4,none⟩=some (vl)):aY b w (.iface 125 (.pointer (some ⟨g,0,none⟩))) {zr 9 2 with op:=o,without:=wo,labels:=ls} [.iface u y,.iface t x]
theorem aY.below {b:Nat} {w w':World} {v:Value} {r:PR} {ks:List Value} (h:aY b w v r ks) (hB:Below w.heap.size w w'):aY b w' v r ks:=by
 cases h<;>constructor<;>first|assumption|exact gO (by assumption) hB.size|exact cL.below (by assumption) hB|exact fU.below (by assumption) hB|exact pU.below (by assumption) hB|exact(hB.cell (p:=⟨_,_,none⟩) (by assumption)).trans (by assumption)
theorem aY.args (h:aY b w v r ks) (h8:r.kind=8): ∃g va,v= .iface 122 (.pointer (some ⟨g,0,none⟩))∧w.cell? ⟨g,1,none⟩=some va∧pU b w va ks∧g<w.heap.size:=by
 cases h with
 |call g hb hg o va ks hk c0 c1=>exact⟨g,va,rfl,c1,hk,hg⟩
 |_=>simp[zr]at h8
def gU (t:TypeId) (A B:World):Prop:= ∀g cs,aH A g t cs→aH B g t cs
theorem gU.refl (t:TypeId) (A:World):gU t A A:=fun _ _ h=>h
theorem gU.trans (h:gU t A B) (k:gU t B C):gU t A C:=fun g cs x=>k g cs (h g cs x)
theorem gU.ia (h:Below A.heap.size A B):gU t A B:=fun _ _ x=>x.below h x.lt
def fI (w0 w:World) (ks:List Value) (e:Ending) (w':World):Prop:=
 ∃s,e= .returned s∧pU 0 w' s ks∧Below w.heap.size w w'∧ ∀g o n c,0<ks.length→s= .slice (some ⟨g,o,none⟩) n c→g<w0.heap.size∨ ∃cs,aH w' g 27 cs
theorem QH:fI w0 w [] (.returned (.slice none 0 0)) w:=⟨_,rfl,⟨none,0,rfl,fun j h=>absurd h (by simp)⟩,aS _ _,fun g o n c h=>absurd h (by simp)⟩
theorem JB (a:Array Value) (hl:a.toList=ks) (w0:World) (hb:Below w0.heap.size w0 w):fI w00 w0 ks (.returned (.slice (some ⟨w.heap.size,0,none⟩) ks.length ks.length)) (w.alloc (.cells a 27)):=by
 subst hl;refine⟨_,rfl,⟨some ⟨w.heap.size,0,none⟩,_,rfl,fun j h=>⟨w.heap.size,0,rfl,aT _,by simp,?_⟩⟩,hb.alloc hb.size _,fun g o n c _ h=>?_⟩
 ·rw[zS _ _ _ _ rfl];simp at h ⊢
 ·injection h with h1 _ _
  injection h1 with h1
  injection h1 with h1 _ _
  subst h1;exact .inr ⟨a,aH.new _ _ _⟩
theorem dT (h : aY b w0 v r ks) (hB : Below w0.heap.size w0 w) : Calls prog 62 #[v] w (fI w0 w ks) := by
  have a1:=nG
  have a2:=jc
  have a3:=sx
  have a4:=rM
  have a5:=Gg
  have a6:=rY
  have h':=h.below hB
  have HH:=aa h
  have HB:=aa hB
  clear h hB
  cases h' with
  | call g hb hg o va ks hk c0 c1 =>
    obtain⟨ao,c,rfl,zM⟩:=hk
    have HK : Hid (∀ (j : Nat) (_ : j < ks.length), ∃ g o, ao = some ⟨g, o, none⟩ ∧ g < w0.heap.size) := aa fun j hj => by
      obtain⟨g',va',e,c1',hk',hg'⟩:=HH.out.args rfl
      injection e with _ e
      injection e with e
      injection e with e
      injection e with e _ _
      subst e
      rw[←HB.out.cell (p:=⟨g,1,none⟩) hg',c1]at c1'
      injection c1' with e
      subst e
      obtain⟨_,_,e,h2⟩:=hk'
      injection e with e
      subst e
      obtain⟨g,o,a,_,l,_⟩:=h2 j hj
      exact⟨g,o,a,l⟩
    have HE : Hid (pU 0 w (.slice ao ks.length c) ks) := aa ⟨ao, c, rfl, fun j hj => by
      obtain⟨g,o,a,_,l⟩:=zM j hj
      exact⟨g,o,a,aT _,l⟩⟩
    clear zM
    go_enter func62,ntmps62
    go_wp2_with fail
    go_ret
    refine⟨_,rfl,HE.out,aS _ _,fun g o n c' h1 h2=>?_⟩
    obtain⟨g',o',a,l⟩:=HK.out 0 h1
    subst a
    injection h2 with h2 _ _
    injection h2 with h2
    injection h2 with h2 _ _
    subst h2
    exact .inl l
  | _ =>
    go_enter func62,ntmps62
    go_wp2_with fail
    try(go_still_tail 8,(by kernel_rfl);go_wp2_with fail)
    go_ret
    first
    | exact QH
    | exact JB _ rfl _ (aS _ _)
    | exact JB _ rfl _ (bS (aS _ _) _)
def lr:Nat→Nat→List UInt8→List UInt8
 |0,_,s=>s
 |f+1,n,s=>if n=0 then s else lr f (n/2) (s++[UInt8.ofNat (97+n%2)])
def iF (n:Nat):ByteArray:=⟨(lr 64 n [109]).toArray⟩
theorem zd (f:Nat): ∀(g n:Nat) (s:List UInt8),n<2^f→f≤g→lr f n s=lr g n s:=by
 induction f with
 |zero=>
  intro g n s h _;have:n=0:=by omega
  subst this;cases g<;>simp[lr]
 |succ f ih=>
  intro g n s h hg;obtain⟨g,rfl⟩: ∃k,g=k+1:=⟨g-1,by omega⟩;unfold lr;by_cases h0:n=0
  ·simp[h0]
  ·rw[af h0,af h0];exact ih g (n/2) _ (by rw[ef]at h;omega) (by omega)
theorem Kf (s : List UInt8) (h0 : n ≠ 0) (h : n < 1099511627776) : lr 64 n s = lr 64 (n / 2) (s ++ [UInt8.ofNat (97 + n % 2)]) := by
  rw[←zd 40 64 n s (by simpa using h) (by omega)]
  unfold lr
  rw[af h0]
  have h39 : (2 : Nat) ^ 39 = 549755813888 := by decide
  exact zd 39 64 _ _ (by omega) (by omega)
theorem OZ (n:Nat) (w:World) (hn:n<1099511627776):Calls prog 66 #[.int .i64 (n:Int)] w fun e w'=>e= .returned (.string (iF n))∧Below w.heap.size w w':=by
 go_enter func66,ntmps66;go_wp2_with fail;go_loopw [0,3] (fun t0 t3 W=> ∃(k:Nat) (s:List UInt8),t0= .int .i64 (k:Int)∧t3= .string ⟨s.toArray⟩∧Hid (lr 64 k s=lr 64 n [109])∧Hid (k<1099511627776∧s.length+k≤1099511627777)∧Hid (Below w.heap.size w W)) (fun t0 _ _=>(intOf t0).toNat)
 case atStart=>exact⟨n,[109],rfl,rfl,aa rfl,aa ⟨hn,by simp only[dI,oB];omega⟩,aa (aS _ _)⟩
 case round=>
  obtain⟨k,s,rfl,rfl,hs,hk,hb⟩:=hrel;by_cases h0:k=0
  ·subst h0;have HP:Hid ((⟨s.toArray⟩:ByteArray)=iF n):=aa (by have:=hs.out;rw[show lr 64 0 s=s from rfl]at this;rw[this];rfl);go_wp2_with fail;go_ret;exact⟨Yo HP.out,hb.out⟩
  ·have p1:((0:Int)<(k:Int))=True:=az (by omega);obtain⟨hk',Xv⟩:=hk.out;have Ar:s.length≤1099511627776:=by omega
   have hc:(convert 147 9 (.slice (some ⟨wr.heap.size,0,none⟩) 1 1)).run prog (wr.alloc (.cells #[.int .u8 (97+(k:Int)%2)] 5))= .ok (.string ⟨#[UInt8.ofNat (97+k%2)]⟩) (wr.alloc (.cells #[.int .u8 (97+(k:Int)%2)] 5)):=by
    refine ku (l:=[UInt8.ofNat (97+k%2)]) (fun j hj=>?_) _ _ 5 1 1 rfl underlying147 underlying5 underlying9;have hj0:j=0:=by simpa using hj
    subst hj0;have hz:=aH.new wr 5 #[.int .u8 (97+(k:Int)%2)];refine⟨(hz.cell 0).trans ?_,hz.frozen 0⟩;have h2:k%2<2:=lE _ (by omega);have h3:(UInt8.ofNat (97+k%2)).toNat=97+k%2:=by rw[UInt8.toNat_ofNat'];omega
    show some (Value.int .u8 (97+(k:Int)%2))=some (Value.int .u8 ((UInt8.ofNat (97+k%2)).toNat:Int));rw[h3]
    congr 2
   go_wp2_with fail;go_roundw
   case rel=>
    refine⟨k/2,s++[UInt8.ofNat (97+k%2)],by go_num,?_,aa ((Kf s h0 hk').symm.trans hs.out),aa ⟨by omega,by simp only[fT,dI,oB];omega⟩,aa (hb.out.alloc hb.out.size _)⟩;refine bT Value.string (ByteArray.ext ?_);simp[ByteArray.data_append,UInt8.ofNat_add]
   case measure=>simp[intOf];omega
