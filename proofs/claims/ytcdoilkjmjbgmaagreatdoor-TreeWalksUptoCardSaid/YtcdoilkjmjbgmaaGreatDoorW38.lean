import Derived.Test.YtcdoilkjmjbgmaaGreatDoorW08
import Derived.OwnWalkIn
import Derived.TacticsInMore
import Derived.RegionIn
import Derived.LoopIn
import Derived.RangeFuncNested
import Derived.RangeFuncBound
import Derived.RangeFuncCalls
import Derived.RangeFuncLeaves
/- Part of the proof of YtcdoilkjmjbgmaaGreatDoorCardX: TrL TrM. -/
set_option maxRecDepth 100000
set_option maxHeartbeats 4000000
set_option linter.unusedVariables false
set_option linter.unusedSimpArgs false
namespace Go.Proofs.YtcdoilkjmjbgmaaGreatDoor
open Go.RowKit
open Go.Proofs.Tryz
variable {b d B i n p fv:Nat} {w W W' w0:World} {v:Value} {L pre q:List (Nat×PR)} {x:Nat×PR} {t:TypeId} {cs args:Array Value} {R:Ending→World→Prop} {a:Int}
def Kept (B:Nat) (W W':World):Prop:=Below B W W'∧gU 27 W W'
theorem Kept.refl (B:Nat) (W:World):Kept B W W:=⟨aS _ _,gU.refl _ _⟩
theorem Kept.trans {B:Nat} {U V W:World} (h:Kept B U V) (k:Kept B V W):Kept B U W:=⟨h.1.trans k.1,h.2.trans k.2⟩
theorem Kept.ia {B:Nat} {W W':World} (hb:B≤W.heap.size) (h:Below W.heap.size W W'):Kept B W W':=⟨h.mono hb,gU.ia h⟩
def AI (B:Nat) (J Jx:List (Nat×PR)→World→Prop) (pre:List (Nat×PR)) (x:Nat×PR) (W:World) (e:Ending) (W':World):Prop:=
 (e= .returned (.bool true)∧J (pre++[x]) W'∧Kept B W W')∨(e= .returned (.bool false)∧Jx (pre++[x]) W')
def wC (B:Nat) (J Jx:List (Nat×PR)→World→Prop) (pre L:List (Nat×PR)) (W:World) (e:Ending) (W':World):Prop:=
 (e= .returned (.bool true)∧J (pre++L) W'∧Kept B W W')∨(e= .returned (.bool false)∧(∃q,q<+:L∧q≠[]∧Jx (pre++q) W'))
def xI (b:Nat) (w0:World) (fv:Nat) (lb:Array Value) (J Jx:List (Nat×PR)→World→Prop) (Ok:List (Nat×PR)→Prop) (R:PR→Prop):Prop:=
 ∀(n d:Nat) (pre:List (Nat×PR)) (v:Value) (r:PR) (ks:List Value) (W:World),R r→aY b W v r ks→J pre W→Below w0.heap.size w0 W→Ok (pre++[(d,r)])→d≤1099511627776→
  CallsIn Fence.wide n prog fv (#[.int .i64 (d:Int),v]++lb) W (AI w0.heap.size J Jx pre (d,r) W)
theorem D7 {α:Type} (cH:Nat→List α) {i n:Nat} (h:i<n):((List.range i).flatMap cH).length+(cH i).length≤((List.range n).flatMap cH).length:=by
 induction n with
 |zero=>omega
 |succ n ih=>
  rw[rp,yv,fT,xk,List.flatMap_nil,mu];by_cases e:i=n
  ·subst e;omega
  ·have:=ih (by omega);omega
theorem D8 {α:Type} (cH:Nat→List α) {n:Nat} (h: ∀i,i<n→1≤(cH i).length):n≤((List.range n).flatMap cH).length:=by
 induction n with
 |zero=>exact aT _
 |succ n ih=>
  rw[rp,yv,fT,xk,List.flatMap_nil,mu];have h1:=ih fun i hi=>h i (by omega)
  have h2:=h n (by omega);omega
theorem dK.one (h:dK b w d v L):1≤L.length:=by
 cases h with
 |mk=>simp
theorem fb {α:Type} (cH:Nat→List α) (i:Nat):(List.range (i+1)).flatMap cH=(List.range i).flatMap cH++cH i:=by
 rw[rp,yv,xk,List.flatMap_nil,mu]
theorem Dj {α:Type} (cH:Nat→List α) {i n:Nat} (h:i≤n):(List.range i).flatMap cH<+:(List.range n).flatMap cH:=by
 induction n with
 |zero=>
  have:i=0:=by omega
  subst this;exact List.prefix_refl _
 |succ n ih=>
  by_cases e:i=n+1
  ·subst e;exact List.prefix_refl _
  ·rw[fb];exact(ih (by omega)).trans (List.prefix_append _ _)
theorem se {α:Type} (cH:Nat→List α) {i n:Nat} {q:List α} (hi:i<n) (hq:q<+:cH i):(List.range i).flatMap cH++q<+:(List.range n).flatMap cH:=by
 refine List.IsPrefix.trans ?_ (Dj cH (show i+1≤n from hi));rw[fb];exact(List.prefix_append_right_inj _).2 hq
theorem VW {J Jx:List (Nat×PR)→World→Prop} {cH:Nat→List (Nat×PR)} (hi:i<n) (hq:q<+:cH i) (hn:q≠[]) (hx:Jx ((pre++[x]++(List.range i).flatMap cH)++q) W'):
  wC B J Jx pre (x::(List.range n).flatMap cH) W (.returned (.bool false)) W':=by
 refine .inr ⟨rfl,⟨x::((List.range i).flatMap cH++q),?_,by simp,by simpa [lj]using hx⟩⟩;exact On.2 ⟨rfl,se cH hi hq⟩
theorem Fz (fv:Nat) (lb:Array Value) (eg: ∀args w,(callFunc fv args).run prog w= .ok (.enter fv args) w) (Ok:List (Nat×PR)→Prop) (J Jx:List (Nat×PR)→World→Prop)
  (hJ: ∀s A B,J s A→Below A.heap.size A B→J s B) {R:PR→Prop} (hV:xI b w0 fv lb J Jx Ok R) {d:Nat} {v:Value} {L:List (Nat×PR)} (ht:dK b w0 d v L):
  (∀x∈L,R x.2)→ ∀(n:Nat) (pre:List (Nat×PR)) (W:World),Below w0.heap.size w0 W→J pre W→(∀q,q<+:L→q≠[]→Ok (pre++q))→d+L.length≤1099511627776→
   CallsIn Fence.wide n prog 34 #[v,.int .i64 (d:Int),.func (.func fv) #[] lb] W (wC w0.heap.size J Jx pre L W):=by
 induction ht with
 |mk d v r ks cH h0 hk ih=>
  intro hR n pre W hW hj hN ZT;have hRr:=hR (d,r) (by simp);replace ih:=fun i (hi:i<ks.length)=>ih i hi (fun x hx=>hR x (A6 _ (IP.2 ⟨i,qF.2 hi,hx⟩)))
  obtain⟨tt,g,hv⟩:=h0.iface;have ox:ks.length≤1099511627776:=by
   have:=D8 cH fun i hi=>(hk i hi).one
   simp only[dI]at ZT;omega
  have H0:=aa h0;have HV:=aa hV;have HJ:=aa hJ;have IH:=aa ih;have HW:=aa hW;have Hj:=aa hj;subst hv;clear h0 hV hJ ih hW hj hk hR;refine callsIn_of_wp func34 rfl trivial ?_ rfl;simp only[ntmps34,List.size_toArray,dI,oB,Nat.reduceAdd,Nat.reduceSub,Oo,Oq,List.push_toArray,Ou,vy,pJ]
  gi_wp2_with fail
  refine⟨trivial,fun h=>(by cases h),?_⟩;refine(HV.out (n-1) d pre _ r ks W hRr (H0.out.below HW.out) Hj.out HW.out ?_ ?_).mono ?_
  ·exact hN [(d,r)] (On.2 ⟨rfl,List.nil_prefix⟩) (by simp)
  ·simp only[dI]at ZT;omega
  rintro e W1 (⟨rfl,hj1,aU⟩|⟨rfl,lg⟩)
  ·have HJ1:=aa hj1;have bZ:=aa aU;clear hj1 aU Hj
   gi_wp2_with fail
   refine⟨trivial,fun h=>(by cases h),?_⟩;refine(oJ.2 (dT H0.out (HW.out.trans bZ.out.1))).mono ?_;rintro e W2 ⟨s,rfl,hs,aM,hkp⟩;obtain⟨ao,c,rfl,Uk⟩:=hs;have HS:=aa Uk;have bD:Hid (Kept w0.heap.size W W2):=aa (bZ.out.trans (.ia (bn HW.out.size bZ.out.1.size) aM));have HKP:=aa hkp;have HJ2:=aa (HJ.out _ _ _ HJ1.out aM);have HL:Hid ((∀q,q<+:(List.range ks.length).flatMap cH→Ok (pre++[(d,r)]++q))∧d+1+((List.range ks.length).flatMap cH).length≤1099511627776):=aa ⟨fun q hq=>by
    have:=hN ((d,r)::q) (On.2 ⟨rfl,hq⟩) (by simp);simpa using this,by simp only[dI]at ZT;omega⟩
   have Xm:(0:Int)≤d:=Int.natCast_nonneg d;have hdu:(d:Int)≤1099511627776:=by simp only[dI]at ZT;omega
   clear Uk aM hkp HJ1 bZ H0 HV hN ZT
   gi_wp2_with fail
   gi_loopw [19] (fun t19 W3=> ∃i:Nat,Hid (i≤ks.length)∧t19= .int .i64 (i:Int)∧Hid (J (pre++[(d,r)]++(List.range i).flatMap cH) W3)∧Hid (Kept w0.heap.size W W3)∧Hid (Kept w0.heap.size W2 W3)) (fun t19 _=>ks.length-(intOf t19).toNat)
   case atStart=>exact⟨0,aa (aT _),rfl,by simpa using HJ2,bD,aa (Kept.refl _ _)⟩
   case round=>
    obtain⟨i,hi,rfl,hj,hb,cr⟩:=hrel;by_cases au:i<ks.length
    ·have p1:((i:Int)<(ks.length:Int))=True:=az (by omega);obtain⟨gk,ok,rfl,_,u4,hck⟩:=HS.out i au;have ath:wr.cell? ⟨gk,ok+i,none⟩=some ks[i]:=by
      rcases HKP.out gk ok _ c (by omega) rfl with h|⟨cs,h⟩
      ·exact(cr.out.1.cell (p:=⟨gk,ok+i,none⟩) h).trans hck
      ·rw[h.cell]at hck;rw[(cr.out.2 gk cs h).cell,hck]
     clear hck
     gi_wp2_with fail
     refine⟨trivial,fun h=>(by cases h),?_⟩;have hle:=D7 cH au;have hIH:=IH.out i au (n-1) (pre++[(d,r)]++(List.range i).flatMap cH) wr (HW.out.trans hb.out.1) hj.out (fun q hq _=>by have:=HL.out.1 _ (se cH au hq);simpa [lj]using this) (by have:=HL.out.2;omega);rw[show (((d+1:Nat)):Int)=(d:Int)+1 by omega]at hIH;refine hIH.mono ?_;clear hIH hle;rintro e W4 (⟨rfl,hj4,fa⟩|⟨rfl,⟨q,hq,WC,hx4⟩⟩)
     ·have HJ4:Hid (J (pre++[(d,r)]++(List.range (i+1)).flatMap cH) W4):=aa (by rw[fb,←lj];exact hj4);have pB:=aa (hb.out.trans fa);clear hj4;have ala:=aa (cr.out.trans fa);clear fa
      gi_wp2_with fail
      go_roundw
      case rel=>exact⟨i+1,aa au,by go_num,HJ4,pB,ala⟩
      case measure=>simp[intOf];omega
     ·have HP:=aa (VW (J:=J) (B:=w0.heap.size) (W:=W) au hq WC hx4);clear hq WC hx4
      gi_wp2_with fail
      go_ret;exact HP.out
    ·have p1:((i:Int)<(ks.length:Int))=False:=bL (by omega);have Ly:i=ks.length:=by have:=hi.out;omega
     have HP:Hid (wC w0.heap.size J Jx pre ((d,r)::(List.range ks.length).flatMap cH) W (.returned (.bool true)) wr):=aa (.inl ⟨rfl,by have:=hj.out;rw[Ly]at this;simpa [lj]using this,hb.out⟩);clear Ly
     gi_wp2_with fail
     go_ret;exact HP.out
  ·have WV:=aa lg;clear lg Hj
   gi_wp2_with fail
   go_ret;exact .inr ⟨rfl,⟨[(d,r)],On.2 ⟨rfl,List.nil_prefix⟩,by simp,WV.out⟩⟩
theorem JT (hb:aH W p t cs) (hp:B≤p) (ht:t≠27) (u:Value):Kept B W (W.setCell ⟨p,i,none⟩ u):=
 ⟨(aS _ _).setCell (p:=⟨p,i,none⟩) hp u,fun g cs' h=>h.Dm (by rintro rfl;exact aH.ne_ h hb ht.symm rfl) u⟩
theorem zE (h:Calls prog fv args W R):CallsIn Fence.wide n prog fv args W R:=oJ.2 h
theorem KQ (p d m:Nat) (v:Value) (W:World) (hd:d≤1099511627776) (hm:m≤1099511627776) (hp:aH W p 3 #[.int .i64 (m:Int)]):
  Calls prog 41 #[.int .i64 (d:Int),v,.pointer (some ⟨p,0,none⟩)] W fun e W'=>e= .returned (.bool true)∧W'=W.setCell ⟨p,0,none⟩ (.int .i64 ((max m d:Nat):Int)):=by
 have c0:=hp.cell 0;have f0:=hp.frozen 0;clear hp;simp at c0;have hmx:max (m:Int) (d:Int)=((max m d:Nat):Int):=by omega
 have HM:=aa hmx;clear hmx;go_enter func41,ntmps41;go_wp2_with fail;rw[HM.out];go_ret;exact⟨rfl,rfl⟩
def qh (p:Nat) (f:List (Nat×PR)→Nat) (pre:List (Nat×PR)) (W:World):Prop:=aH W p 3 #[.int .i64 (f pre:Int)]∧f pre≤1099511627776
theorem qh.fN {f:List (Nat×PR)→Nat} (s:List (Nat×PR)) (A B:World) (h:qh p f s A) (hb:Below A.heap.size A B):qh p f s B:=⟨h.1.below hb h.1.lt,h.2⟩
theorem VX (a:Nat):my [a]=a:=by rw[pg];simp[my]
def qM (pre:List (Nat×PR)):Nat:=my (pre.map (·.1))
theorem CF (pre:List (Nat×PR)) (x:Nat×PR):qM (pre++[x])=max (qM pre) x.1:=by
 unfold qM;rw[mZ,JC,mv,oI,VX]
theorem Pj {b:Int} (h:aH W p 3 #[.int .i64 a]):aH (W.setCell ⟨p,0,none⟩ (.int .i64 b)) p 3 #[.int .i64 b]:=by
 have:=h.dw 0 (.int .i64 b);simpa using this
theorem Hl (N:Nat) (hp:w0.heap.size≤p):xI b w0 41 #[.pointer (some ⟨p,0,none⟩)] (qh p qM) (fun _ _=>False) (fun l=>l.length≤N) (fun _=>True):=by
 intro n d pre v r ks W _ _ hj _ _ hd;refine zE ((KQ p d _ v W hd hj.2 hj.1).mono ?_);rintro e W' ⟨rfl,rfl⟩;refine .inl ⟨rfl,⟨?_,?_⟩,JT hj.1 hp (by decide) _⟩
 ·rw[CF];exact Pj hj.1
 ·rw[CF];have:=hj.2;show max _ d≤_;omega
theorem KR (p m:Nat) (d v:Value) (W:World) (hm:m≤1099511627776) (hp:aH W p 3 #[.int .i64 (m:Int)]):
  Calls prog 42 #[d,v,.pointer (some ⟨p,0,none⟩)] W fun e W'=>e= .returned (.bool true)∧W'=W.setCell ⟨p,0,none⟩ (.int .i64 ((m+1:Nat):Int)):=by
 have c0:=hp.cell 0;have f0:=hp.frozen 0;clear hp;simp at c0;have hmx:(m:Int)+1=((m+1:Nat):Int):=by omega
 have HM:=aa hmx;clear hmx;go_enter func42,ntmps42;go_wp2_with fail;rw[HM.out];go_ret;exact⟨rfl,rfl⟩
theorem Hm (N:Nat) (hN:N≤1099511627776) (hp:w0.heap.size≤p):xI b w0 42 #[.pointer (some ⟨p,0,none⟩)] (qh p List.length) (fun _ _=>False) (fun l=>l.length≤N) (fun _=>True):=by
 intro n d pre v r ks W _ _ hj _ au hd;refine zE ((KR p _ _ v W hj.2 hj.1).mono ?_);rintro e W' ⟨rfl,rfl⟩;refine .inl ⟨rfl,⟨?_,?_⟩,JT hj.1 hp (by decide) _⟩
 ·rw[fT];exact Pj hj.1
 ·rw[fT];simp only[fT,dI,oB]at au;show pre.length+1≤_;omega
theorem JU (d:Int) (fv:Value) (w:World):Calls prog 34 #[.nilIface,.int .i64 d,fv] w fun e w'=>e= .returned (.bool true)∧w=w':=by
 go_enter func34,ntmps34;go_wp2_with fail;go_ret;exact⟨rfl,rfl⟩
theorem FA (h:gY b w0 v L) (fv:Nat) (lb:Array Value) (eg: ∀args w,(callFunc fv args).run prog w= .ok (.enter fv args) w) (N:Nat) (J:List (Nat×PR)→World→Prop)
  (hJ: ∀s A B,J s A→Below A.heap.size A B→J s B) {R:PR→Prop} (hV:xI b w0 fv lb J (fun _ _=>False) (fun l=>l.length≤N) R) (hR: ∀x∈L,R x.2) (hW:Below w0.heap.size w0 W) (h0:J [] W) (hN:L.length≤N) (hL:1+L.length≤1099511627776):
  Calls prog 34 #[v,.int .i64 1,.func (.func fv) #[] lb] W fun e W'=>e= .returned (.bool true)∧J L W'∧Kept w0.heap.size W W':=by
 rcases h with⟨rfl,rfl⟩|h
 ·refine(JU 1 _ W).mono ?_;rintro e W' ⟨rfl,rfl⟩;exact⟨rfl,h0,Kept.refl _ _⟩
 ·refine(oJ.1 (Fz fv lb eg _ J _ hJ hV h hR 0 [] W hW h0 (fun q hq _=>by have:=hq.length_le;simp only[vy];omega) hL)).mono ?_;rintro e W' (⟨rfl,hj,hb⟩|⟨_,⟨_,_,_,hf⟩⟩)
  ·exact⟨rfl,by simpa using hj,hb⟩
  ·exact hf.elim
theorem Nx (h:gY b w v L) (hL:1+L.length≤1099511627776):
  Calls prog 14 #[.agg #[v]] w (ko w (qM L:Nat)):=by
 have HW:Hid (Calls prog 34 #[v,.int .i64 1,.func (.func 41) #[] #[.pointer (some ⟨w.heap.size+1,0,none⟩)]] ((w.alloc (.cells #[v] 29)).alloc (.cells #[.int .i64 0] 3)) fun e W'=>e= .returned (.bool true)∧qh (w.heap.size+1) qM L W'∧Kept w.heap.size ((w.alloc (.cells #[v] 29)).alloc (.cells #[.int .i64 0] 3)) W'):=
  aa (FA h _ _ (enters_of func41 (by kernel_rfl) rfl) L.length _ qh.fN (Hl _ (by omega)) (fun _ _=>trivial) (((aS _ w).alloc (aP _) _).alloc (by simp) _)
   ⟨by have:=aH.new (w.alloc (.cells #[v] 29)) 3 #[.int .i64 0];simpa [qM,my]using this,by simp[qM,my]⟩ (aP _) hL)
 have aM:Below w.heap.size w ((w.alloc (.cells #[v] 29)).alloc (.cells #[.int .i64 0] 3)):=((aS _ w).alloc (aP _) _).alloc (by simp) _;have bD:=aa aM;clear aM;clear h;go_enter func14,ntmps14;go_wp2_with fail;refine HW.mono ?_;rintro e w2 ⟨rfl,⟨Lf,_⟩,hk⟩;have c0:=Lf.cell 0;simp at c0;have HB:=aa (bD.trans hk.1);clear Lf hk;go_wp2_with fail;go_ret;exact⟨rfl,HB⟩
theorem Ny (h:gY b w v L) (hL:1+L.length≤1099511627776):
  Calls prog 15 #[.agg #[v]] w (ko w (L.length:Nat)):=by
 have HW:Hid (Calls prog 34 #[v,.int .i64 1,.func (.func 42) #[] #[.pointer (some ⟨w.heap.size+1,0,none⟩)]] ((w.alloc (.cells #[v] 29)).alloc (.cells #[.int .i64 0] 3)) fun e W'=>e= .returned (.bool true)∧qh (w.heap.size+1) List.length L W'∧Kept w.heap.size ((w.alloc (.cells #[v] 29)).alloc (.cells #[.int .i64 0] 3)) W'):=
  aa (FA h _ _ (enters_of func42 (by kernel_rfl) rfl) L.length _ qh.fN (Hm _ (by omega) (by omega)) (fun _ _=>trivial) (((aS _ w).alloc (aP _) _).alloc (by simp) _)
   ⟨by have:=aH.new (w.alloc (.cells #[v] 29)) 3 #[.int .i64 0];simpa [qM,my]using this,by simp[qM,my]⟩ (aP _) hL)
 have aM:Below w.heap.size w ((w.alloc (.cells #[v] 29)).alloc (.cells #[.int .i64 0] 3)):=((aS _ w).alloc (aP _) _).alloc (by simp) _;have bD:=aa aM;clear aM;clear h;go_enter func15,ntmps15;go_wp2_with fail;refine HW.mono ?_;rintro e w2 ⟨rfl,⟨Lf,_⟩,hk⟩;have c0:=Lf.cell 0;simp at c0;have HB:=aa (bD.trans hk.1);clear Lf hk;go_wp2_with fail;go_ret;exact⟨rfl,HB⟩
