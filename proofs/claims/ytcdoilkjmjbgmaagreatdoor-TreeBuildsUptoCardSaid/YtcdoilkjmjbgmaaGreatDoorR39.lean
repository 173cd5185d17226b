import Derived.Test.YtcdoilkjmjbgmaaGreatDoorR09
import Derived.OwnWalkIn
import Derived.TacticsInMore
import Derived.RegionIn
import Derived.LoopIn
import Derived.RangeFuncNested
import Derived.RangeFuncBound
import Derived.RangeFuncCalls
import Derived.RangeFuncLeaves
/- Part of the proof of YtcdoilkjmjbgmaaGreatDoorCardR: TrL TrM. -/
set_option maxRecDepth 100000
set_option maxHeartbeats 4000000
set_option linter.unusedVariables false
set_option linter.unusedSimpArgs false
namespace Go.Proofs.YtcdoilkjmjbgmaaGreatDoor
open Go.RowKit
open Tryz
variable {b d B i n p fv:Nat} {w W W' w0:World} {v:Value} {L pre q:List (Nat×PR)} {x:Nat×PR} {t:TypeId} {cs args:Array Value} {R:Ending→World→Prop} {a:Int}
def Kept (B:Nat) (W W':World):Prop:=Below B W W'∧kZ 27 W W'
theorem Kept.refl (B:Nat) (W:World):Kept B W W:=⟨aV _ _,kZ.refl _ _⟩
theorem Kept.trans {B:Nat} {U V W:World} (h:Kept B U V) (k:Kept B V W):Kept B U W:=⟨h.1.trans k.1,h.2.trans k.2⟩
theorem Kept.jI {B:Nat} {W W':World} (hb:B≤W.heap.size) (h:Below W.heap.size W W'):Kept B W W':=⟨h.mono hb,kZ.jI h⟩
def sP (B:Nat) (J Jx:List (Nat×PR)→World→Prop) (pre:List (Nat×PR)) (x:Nat×PR) (W:World) (e:Ending) (W':World):Prop:=
 (e= .returned (.bool true)∧J (pre++[x]) W'∧Kept B W W')∨(e= .returned (.bool false)∧Jx (pre++[x]) W')
def wV (B:Nat) (J Jx:List (Nat×PR)→World→Prop) (pre L:List (Nat×PR)) (W:World) (e:Ending) (W':World):Prop:=
 (e= .returned (.bool true)∧J (pre++L) W'∧Kept B W W')∨(e= .returned (.bool false)∧(∃q,q<+:L∧q≠[]∧Jx (pre++q) W'))
def uK (b:Nat) (w0:World) (fv:Nat) (lb:Array Value) (J Jx:List (Nat×PR)→World→Prop) (Ok:List (Nat×PR)→Prop) (R:PR→Prop):Prop:=
 ∀(n d:Nat) (pre:List (Nat×PR)) (v:Value) (r:PR) (ks:List Value) (W:World),R r→ba b W v r ks→J pre W→Below w0.heap.size w0 W→Ok (pre++[(d,r)])→d≤1099511627776→
  CallsIn Fence.wide n prog fv (#[.int .i64 (d:Int),v]++lb) W (sP w0.heap.size J Jx pre (d,r) W)
theorem Eg {α:Type} (cV:Nat→List α) {i n:Nat} (h:i<n):((List.range i).flatMap cV).length+(cV i).length≤((List.range n).flatMap cV).length:=by
 induction n with
 |zero=>omega
 |succ n ih=>
  rw[ru,yI,iJ,vS,List.flatMap_nil,mz];by_cases e:i=n
  ·subst e;omega
  ·have:=ih (by omega);omega
theorem Eh {α:Type} (cV:Nat→List α) {n:Nat} (h: ∀i,i<n→1≤(cV i).length):n≤((List.range n).flatMap cV).length:=by
 induction n with
 |zero=>exact dQ _
 |succ n ih=>
  rw[ru,yI,iJ,vS,List.flatMap_nil,mz];have h1:=ih fun i hi=>h i (by omega)
  have h2:=h n (by omega);omega
theorem dK.one (h:dK b w d v L):1≤L.length:=by
 cases h with
 |mk=>simp
theorem fh {α:Type} (cV:Nat→List α) (i:Nat):(List.range (i+1)).flatMap cV=(List.range i).flatMap cV++cV i:=by
 rw[ru,yI,vS,List.flatMap_nil,mz]
theorem Dy {α:Type} (cV:Nat→List α) {i n:Nat} (h:i≤n):(List.range i).flatMap cV<+:(List.range n).flatMap cV:=by
 induction n with
 |zero=>
  have:i=0:=by omega
  subst this;exact List.prefix_refl _
 |succ n ih=>
  by_cases e:i=n+1
  ·subst e;exact List.prefix_refl _
  ·rw[fh];exact(ih (by omega)).trans (List.prefix_append _ _)
theorem sD {α:Type} (cV:Nat→List α) {i n:Nat} {q:List α} (hi:i<n) (hq:q<+:cV i):(List.range i).flatMap cV++q<+:(List.range n).flatMap cV:=by
 refine List.IsPrefix.trans ?_ (Dy cV (show i+1≤n from hi));rw[fh];exact(List.prefix_append_right_inj _).2 hq
theorem VN {J Jx:List (Nat×PR)→World→Prop} {cV:Nat→List (Nat×PR)} (hi:i<n) (hq:q<+:cV i) (hn:q≠[]) (hx:Jx ((pre++[x]++(List.range i).flatMap cV)++q) W'):
  wV B J Jx pre (x::(List.range n).flatMap cV) W (.returned (.bool false)) W':=by
 refine .inr ⟨rfl,⟨x::((List.range i).flatMap cV++q),?_,by simp,by simpa [tx]using hx⟩⟩;exact OD.2 ⟨rfl,sD cV hi hq⟩
theorem FG (fv:Nat) (lb:Array Value) (eg: ∀args w,(callFunc fv args).run prog w= .ok (.enter fv args) w) (Ok:List (Nat×PR)→Prop) (J Jx:List (Nat×PR)→World→Prop)
  (hJ: ∀s A B,J s A→Below A.heap.size A B→J s B) {R:PR→Prop} (hV:uK b w0 fv lb J Jx Ok R) {d:Nat} {v:Value} {L:List (Nat×PR)} (ht:dK b w0 d v L):
  (∀x∈L,R x.2)→ ∀(n:Nat) (pre:List (Nat×PR)) (W:World),Below w0.heap.size w0 W→J pre W→(∀q,q<+:L→q≠[]→Ok (pre++q))→d+L.length≤1099511627776→
   CallsIn Fence.wide n prog 34 #[v,.int .i64 (d:Int),.func (.func fv) #[] lb] W (wV w0.heap.size J Jx pre L W):=by
 induction ht with
 |mk d v r ks cV h0 hk ih=>
  intro hR n pre W hW hj hN Zu;have hRr:=hR (d,r) (by simp);replace ih:=fun i (hi:i<ks.length)=>ih i hi (fun x hx=>hR x (yH _ (I8.2 ⟨i,qy.2 hi,hx⟩)))
  obtain⟨tt,g,hv⟩:=h0.iface;have om:ks.length≤1099511627776:=by
   have:=Eh cV fun i hi=>(hk i hi).one
   simp only[dZ]at Zu;omega
  have H0:=aa h0;have HV:=aa hV;have HJ:=aa hJ;have IH:=aa ih;have HW:=aa hW;have Hj:=aa hj;subst hv;clear h0 hV hJ ih hW hj hk hR;refine callsIn_of_wp func34 rfl trivial ?_ rfl;simp only[ntmps34,List.size_toArray,dZ,nW,Nat.reduceAdd,Nat.reduceSub,OE,OF,List.push_toArray,OH,ry,py]
  gi_wp2_with fail
  refine⟨trivial,fun h=>(by cases h),?_⟩;refine(HV.out (n-1) d pre _ r ks W hRr (H0.out.below HW.out) Hj.out HW.out ?_ ?_).mono ?_
  ·exact hN [(d,r)] (OD.2 ⟨rfl,List.nil_prefix⟩) (by simp)
  ·simp only[dZ]at Zu;omega
  rintro e W1 (⟨rfl,hj1,aW⟩|⟨rfl,lC⟩)
  ·have HJ1:=aa hj1;have cn:=aa aW;clear hj1 aW Hj
   gi_wp2_with fail
   refine⟨trivial,fun h=>(by cases h),?_⟩;refine(Bn.2 (dV H0.out (HW.out.trans cn.out.1))).mono ?_;rintro e W2 ⟨s,rfl,hs,aN,hkp⟩;obtain⟨ao,c,rfl,Ue⟩:=hs;have HS:=aa Ue;have bC:Hid (Kept w0.heap.size W W2):=aa (cn.out.trans (.jI (bP HW.out.size cn.out.1.size) aN));have HKP:=aa hkp;have HJ2:=aa (HJ.out _ _ _ HJ1.out aN);have HL:Hid ((∀q,q<+:(List.range ks.length).flatMap cV→Ok (pre++[(d,r)]++q))∧d+1+((List.range ks.length).flatMap cV).length≤1099511627776):=aa ⟨fun q hq=>by
    have:=hN ((d,r)::q) (OD.2 ⟨rfl,hq⟩) (by simp);simpa using this,by simp only[dZ]at Zu;omega⟩
   have Xd:(0:Int)≤d:=Int.natCast_nonneg d;have hdu:(d:Int)≤1099511627776:=by simp only[dZ]at Zu;omega
   clear Ue aN hkp HJ1 cn H0 HV hN Zu
   gi_wp2_with fail
   gi_loopw [19] (fun t19 W3=> ∃i:Nat,Hid (i≤ks.length)∧t19= .int .i64 (i:Int)∧Hid (J (pre++[(d,r)]++(List.range i).flatMap cV) W3)∧Hid (Kept w0.heap.size W W3)∧Hid (Kept w0.heap.size W2 W3)) (fun t19 _=>ks.length-(intOf t19).toNat)
   case atStart=>exact⟨0,aa (dQ _),rfl,by simpa using HJ2,bC,aa (Kept.refl _ _)⟩
   case round=>
    obtain⟨i,hi,rfl,hj,hb,bW⟩:=hrel;by_cases ax:i<ks.length
    ·have p1:((i:Int)<(ks.length:Int))=True:=aA (by omega);obtain⟨gk,ok,rfl,_,vy,hck⟩:=HS.out i ax;have arV:wr.cell? ⟨gk,ok+i,none⟩=some ks[i]:=by
      rcases HKP.out gk ok _ c (by omega) rfl with h|⟨cs,h⟩
      ·exact(bW.out.1.cell (p:=⟨gk,ok+i,none⟩) h).trans hck
      ·rw[h.cell]at hck;rw[(bW.out.2 gk cs h).cell,hck]
     clear hck
     gi_wp2_with fail
     refine⟨trivial,fun h=>(by cases h),?_⟩;have hle:=Eg cV ax;have hIH:=IH.out i ax (n-1) (pre++[(d,r)]++(List.range i).flatMap cV) wr (HW.out.trans hb.out.1) hj.out (fun q hq _=>by have:=HL.out.1 _ (sD cV ax hq);simpa [tx]using this) (by have:=HL.out.2;omega);rw[show (((d+1:Nat)):Int)=(d:Int)+1 by omega]at hIH;refine hIH.mono ?_;clear hIH hle;rintro e W4 (⟨rfl,hj4,fg⟩|⟨rfl,⟨q,hq,Wm,hx4⟩⟩)
     ·have HJ4:Hid (J (pre++[(d,r)]++(List.range (i+1)).flatMap cV) W4):=aa (by rw[fh,←tx];exact hj4);have pb:=aa (hb.out.trans fg);clear hj4;have ak6:=aa (bW.out.trans fg);clear fg
      gi_wp2_with fail
      go_roundw
      case rel=>exact⟨i+1,aa ax,by go_num,HJ4,pb,ak6⟩
      case measure=>simp[intOf];omega
     ·have HP:=aa (VN (J:=J) (B:=w0.heap.size) (W:=W) ax hq Wm hx4);clear hq Wm hx4
      gi_wp2_with fail
      go_ret;exact HP.out
    ·have p1:((i:Int)<(ks.length:Int))=False:=bU (by omega);have LO:i=ks.length:=by have:=hi.out;omega
     have HP:Hid (wV w0.heap.size J Jx pre ((d,r)::(List.range ks.length).flatMap cV) W (.returned (.bool true)) wr):=aa (.inl ⟨rfl,by have:=hj.out;rw[LO]at this;simpa [tx]using this,hb.out⟩);clear LO
     gi_wp2_with fail
     go_ret;exact HP.out
  ·have Wz:=aa lC;clear lC Hj
   gi_wp2_with fail
   go_ret;exact .inr ⟨rfl,⟨[(d,r)],OD.2 ⟨rfl,List.nil_prefix⟩,by simp,Wz.out⟩⟩
theorem Kc (hb:aK W p t cs) (hp:B≤p) (ht:t≠27) (u:Value):Kept B W (W.setCell ⟨p,i,none⟩ u):=
 ⟨(aV _ _).setCell (p:=⟨p,i,none⟩) hp u,fun g ω h=>h.FQ (by rintro rfl;exact aK.ne_ h hb ht.symm rfl) u⟩
theorem so (h:Calls prog fv args W R):CallsIn Fence.wide n prog fv args W R:=Bn.2 h
theorem Lb (p d m:Nat) (v:Value) (W:World) (hd:d≤1099511627776) (hm:m≤1099511627776) (hp:aK W p 3 #[.int .i64 (m:Int)]):
  Calls prog 41 #[.int .i64 (d:Int),v,.pointer (some ⟨p,0,none⟩)] W fun e W'=>e= .returned (.bool true)∧W'=W.setCell ⟨p,0,none⟩ (.int .i64 ((max m d:Nat):Int)):=by
 have c0:=hp.cell 0;have f0:=hp.frozen 0;clear hp;simp at c0;have hmx:max (m:Int) (d:Int)=((max m d:Nat):Int):=by omega
 have HM:=aa hmx;clear hmx;go_enter func41,ntmps41;go_wp2_with fail;rw[HM.out];go_ret;exact⟨rfl,rfl⟩
def pY (p:Nat) (f:List (Nat×PR)→Nat) (pre:List (Nat×PR)) (W:World):Prop:=aK W p 3 #[.int .i64 (f pre:Int)]∧f pre≤1099511627776
theorem pY.fY {f:List (Nat×PR)→Nat} (s:List (Nat×PR)) (A B:World) (h:pY p f s A) (hb:Below A.heap.size A B):pY p f s B:=⟨h.1.below hb h.1.lt,h.2⟩
theorem VO (a:Nat):iO [a]=a:=by rw[oY];simp[iO]
def oF (pre:List (Nat×PR)):Nat:=iO (pre.map (·.1))
theorem CY (pre:List (Nat×PR)) (x:Nat×PR):oF (pre++[x])=max (oF pre) x.1:=by
 unfold oF;rw[mX,JU,kO,rj,VO]
theorem Ps {b:Int} (h:aK W p 3 #[.int .i64 a]):aK (W.setCell ⟨p,0,none⟩ (.int .i64 b)) p 3 #[.int .i64 b]:=by
 have:=h.bT 0 (.int .i64 b);simpa using this
theorem Hx (N:Nat) (hp:w0.heap.size≤p):uK b w0 41 #[.pointer (some ⟨p,0,none⟩)] (pY p oF) (fun _ _=>False) (fun l=>l.length≤N) (fun _=>True):=by
 intro n d pre v r ks W _ _ hj _ _ hd;refine so ((Lb p d _ v W hd hj.2 hj.1).mono ?_);rintro e W' ⟨rfl,rfl⟩;refine .inl ⟨rfl,⟨?_,?_⟩,Kc hj.1 hp (by decide) _⟩
 ·rw[CY];exact Ps hj.1
 ·rw[CY];have:=hj.2;show max _ d≤_;omega
theorem Lc (p m:Nat) (d v:Value) (W:World) (hm:m≤1099511627776) (hp:aK W p 3 #[.int .i64 (m:Int)]):
  Calls prog 42 #[d,v,.pointer (some ⟨p,0,none⟩)] W fun e W'=>e= .returned (.bool true)∧W'=W.setCell ⟨p,0,none⟩ (.int .i64 ((m+1:Nat):Int)):=by
 have c0:=hp.cell 0;have f0:=hp.frozen 0;clear hp;simp at c0;have hmx:(m:Int)+1=((m+1:Nat):Int):=by omega
 have HM:=aa hmx;clear hmx;go_enter func42,ntmps42;go_wp2_with fail;rw[HM.out];go_ret;exact⟨rfl,rfl⟩
theorem Hy (N:Nat) (hN:N≤1099511627776) (hp:w0.heap.size≤p):uK b w0 42 #[.pointer (some ⟨p,0,none⟩)] (pY p List.length) (fun _ _=>False) (fun l=>l.length≤N) (fun _=>True):=by
 intro n d pre v r ks W _ _ hj _ ax hd;refine so ((Lc p _ _ v W hj.2 hj.1).mono ?_);rintro e W' ⟨rfl,rfl⟩;refine .inl ⟨rfl,⟨?_,?_⟩,Kc hj.1 hp (by decide) _⟩
 ·rw[iJ];exact Ps hj.1
 ·rw[iJ];simp only[iJ,dZ,nW]at ax;show pre.length+1≤_;omega
theorem Kd (d:Int) (fv:Value) (w:World):Calls prog 34 #[.nilIface,.int .i64 d,fv] w fun e w'=>e= .returned (.bool true)∧w=w':=by
 go_enter func34,ntmps34;go_wp2_with fail;go_ret;exact⟨rfl,rfl⟩
theorem ym (h:eU b w0 v L) (fv:Nat) (lb:Array Value) (eg: ∀args w,(callFunc fv args).run prog w= .ok (.enter fv args) w) (N:Nat) (J:List (Nat×PR)→World→Prop)
  (hJ: ∀s A B,J s A→Below A.heap.size A B→J s B) {R:PR→Prop} (hV:uK b w0 fv lb J (fun _ _=>False) (fun l=>l.length≤N) R) (hR: ∀x∈L,R x.2) (hW:Below w0.heap.size w0 W) (h0:J [] W) (hN:L.length≤N) (hL:1+L.length≤1099511627776):
  Calls prog 34 #[v,.int .i64 1,.func (.func fv) #[] lb] W fun e W'=>e= .returned (.bool true)∧J L W'∧Kept w0.heap.size W W':=by
 rcases h with⟨rfl,rfl⟩|h
 ·refine(Kd 1 _ W).mono ?_;rintro e W' ⟨rfl,rfl⟩;exact⟨rfl,h0,Kept.refl _ _⟩
 ·refine(Bn.1 (FG fv lb eg _ J _ hJ hV h hR 0 [] W hW h0 (fun q hq _=>by have:=hq.length_le;simp only[ry];omega) hL)).mono ?_;rintro e W' (⟨rfl,hj,hb⟩|⟨_,⟨_,_,_,hf⟩⟩)
  ·exact⟨rfl,by simpa using hj,hb⟩
  ·exact hf.elim
theorem u6 (h:eU b w v L) (hL:1+L.length≤1099511627776):
  Calls prog 14 #[.agg #[v]] w (fN w (oF L:Nat)):=by
 have HW:Hid (Calls prog 34 #[v,.int .i64 1,.func (.func 41) #[] #[.pointer (some ⟨w.heap.size+1,0,none⟩)]] ((w.alloc (.cells #[v] 29)).alloc (.cells #[.int .i64 0] 3)) fun e W'=>e= .returned (.bool true)∧pY (w.heap.size+1) oF L W'∧Kept w.heap.size ((w.alloc (.cells #[v] 29)).alloc (.cells #[.int .i64 0] 3)) W'):=
  aa (ym h _ _ (enters_of func41 (by kernel_rfl) rfl) L.length _ pY.fY (Hx _ (by omega)) (fun _ _=>trivial) (((aV _ w).alloc (aS _) _).alloc (by simp) _)
   ⟨by have:=aK.new (w.alloc (.cells #[v] 29)) 3 #[.int .i64 0];simpa [oF,iO]using this,by simp[oF,iO]⟩ (aS _) hL)
 have aN:Below w.heap.size w ((w.alloc (.cells #[v] 29)).alloc (.cells #[.int .i64 0] 3)):=((aV _ w).alloc (aS _) _).alloc (by simp) _;have bC:=aa aN;clear aN;clear h;go_enter func14,ntmps14;go_wp2_with fail;refine HW.mono ?_;rintro e w2 ⟨rfl,⟨F3,_⟩,hk⟩;have c0:=F3.cell 0;simp at c0;have HB:=aa (bC.trans hk.1);clear F3 hk;go_wp2_with fail;go_ret;exact⟨rfl,HB⟩
theorem u7 (h:eU b w v L) (hL:1+L.length≤1099511627776):
  Calls prog 15 #[.agg #[v]] w (fN w (L.length:Nat)):=by
 have HW:Hid (Calls prog 34 #[v,.int .i64 1,.func (.func 42) #[] #[.pointer (some ⟨w.heap.size+1,0,none⟩)]] ((w.alloc (.cells #[v] 29)).alloc (.cells #[.int .i64 0] 3)) fun e W'=>e= .returned (.bool true)∧pY (w.heap.size+1) List.length L W'∧Kept w.heap.size ((w.alloc (.cells #[v] 29)).alloc (.cells #[.int .i64 0] 3)) W'):=
  aa (ym h _ _ (enters_of func42 (by kernel_rfl) rfl) L.length _ pY.fY (Hy _ (by omega) (by omega)) (fun _ _=>trivial) (((aV _ w).alloc (aS _) _).alloc (by simp) _)
   ⟨by have:=aK.new (w.alloc (.cells #[v] 29)) 3 #[.int .i64 0];simpa [oF,iO]using this,by simp[oF,iO]⟩ (aS _) hL)
 have aN:Below w.heap.size w ((w.alloc (.cells #[v] 29)).alloc (.cells #[.int .i64 0] 3)):=((aV _ w).alloc (aS _) _).alloc (by simp) _;have bC:=aa aN;clear aN;clear h;go_enter func15,ntmps15;go_wp2_with fail;refine HW.mono ?_;rintro e w2 ⟨rfl,⟨F3,_⟩,hk⟩;have c0:=F3.cell 0;simp at c0;have HB:=aa (bC.trans hk.1);clear F3 hk;go_wp2_with fail;go_ret;exact⟨rfl,HB⟩
