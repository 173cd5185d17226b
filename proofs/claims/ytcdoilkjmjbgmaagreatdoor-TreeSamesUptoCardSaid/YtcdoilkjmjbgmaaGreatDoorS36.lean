import Derived.Test.YtcdoilkjmjbgmaaGreatDoorS09
import Derived.OwnWalkIn
import Derived.TacticsInMore
import Derived.RegionIn
import Derived.LoopIn
import Derived.RangeFuncNested
import Derived.RangeFuncBound
import Derived.RangeFuncCalls
import Derived.RangeFuncLeaves
/- Part of the proof of YtcdoilkjmjbgmaaGreatDoorCardY: TrL TrM. -/
set_option maxRecDepth 100000
set_option maxHeartbeats 4000000
set_option linter.unusedVariables false
set_option linter.unusedSimpArgs false
namespace Go.Proofs.YtcdoilkjmjbgmaaGreatDoor
open Go.RowKit
open Go.Proofs.Tryz
variable {b d B i n p fv:Nat} {w W W' w0:World} {v:Value} {L pre q:List (Nat×PR)} {x:Nat×PR} {t:TypeId} {cs args:Array Value} {R:Ending→World→Prop} {a:Int}
def Kept (B:Nat) (W W':World):Prop:=Below B W W'∧lI 27 W W'
theorem Kept.refl (B:Nat) (W:World):Kept B W W:=⟨aU _ _,lI.refl _ _⟩
theorem Kept.trans {B:Nat} {U V W:World} (h:Kept B U V) (k:Kept B V W):Kept B U W:=⟨h.1.trans k.1,h.2.trans k.2⟩
theorem Kept.kT {B:Nat} {W W':World} (hb:B≤W.heap.size) (h:Below W.heap.size W W'):Kept B W W':=⟨h.mono hb,lI.kT h⟩
def AA (B:Nat) (J Jx:List (Nat×PR)→World→Prop) (pre:List (Nat×PR)) (x:Nat×PR) (W:World) (e:Ending) (W':World):Prop:=
 (e= .returned (.bool true)∧J (pre++[x]) W'∧Kept B W W')∨(e= .returned (.bool false)∧Jx (pre++[x]) W')
def wA (B:Nat) (J Jx:List (Nat×PR)→World→Prop) (pre L:List (Nat×PR)) (W:World) (e:Ending) (W':World):Prop:=
 (e= .returned (.bool true)∧J (pre++L) W'∧Kept B W W')∨(e= .returned (.bool false)∧(∃q,q<+:L∧q≠[]∧Jx (pre++q) W'))
def xB (b:Nat) (w0:World) (fv:Nat) (lb:Array Value) (J Jx:List (Nat×PR)→World→Prop) (Ok:List (Nat×PR)→Prop) (R:PR→Prop):Prop:=
 ∀(n d:Nat) (pre:List (Nat×PR)) (v:Value) (r:PR) (ks:List Value) (W:World),R r→ba b W v r ks→J pre W→Below w0.heap.size w0 W→Ok (pre++[(d,r)])→d≤1099511627776→
  CallsIn Fence.wide n prog fv (#[.int .i64 (d:Int),v]++lb) W (AA w0.heap.size J Jx pre (d,r) W)
theorem DU {α:Type} (cP:Nat→List α) {i n:Nat} (h:i<n):((List.range i).flatMap cP).length+(cP i).length≤((List.range n).flatMap cP).length:=by
 induction n with
 |zero=>omega
 |succ n ih=>
  rw[qU,ym,iF,vs,List.flatMap_nil,nR];by_cases e:i=n
  ·subst e;omega
  ·have:=ih (by omega);omega
theorem DV {α:Type} (cP:Nat→List α) {n:Nat} (h: ∀i,i<n→1≤(cP i).length):n≤((List.range n).flatMap cP).length:=by
 induction n with
 |zero=>exact aV _
 |succ n ih=>
  rw[qU,ym,iF,vs,List.flatMap_nil,nR];have h1:=ih fun i hi=>h i (by omega)
  have h2:=h n (by omega);omega
theorem dJ.one (h:dJ b w d v L):1≤L.length:=by
 cases h with
 |mk=>simp
theorem ff {α:Type} (cP:Nat→List α) (i:Nat):(List.range (i+1)).flatMap cP=(List.range i).flatMap cP++cP i:=by
 rw[qU,ym,vs,List.flatMap_nil,nR]
theorem Dd {α:Type} (cP:Nat→List α) {i n:Nat} (h:i≤n):(List.range i).flatMap cP<+:(List.range n).flatMap cP:=by
 induction n with
 |zero=>
  have:i=0:=by omega
  subst this;exact List.prefix_refl _
 |succ n ih=>
  by_cases e:i=n+1
  ·subst e;exact List.prefix_refl _
  ·rw[ff];exact(ih (by omega)).trans (List.prefix_append _ _)
theorem rZ {α:Type} (cP:Nat→List α) {i n:Nat} {q:List α} (hi:i<n) (hq:q<+:cP i):(List.range i).flatMap cP++q<+:(List.range n).flatMap cP:=by
 refine List.IsPrefix.trans ?_ (Dd cP (show i+1≤n from hi));rw[ff];exact(List.prefix_append_right_inj _).2 hq
theorem VN {J Jx:List (Nat×PR)→World→Prop} {cP:Nat→List (Nat×PR)} (hi:i<n) (hq:q<+:cP i) (hn:q≠[]) (hx:Jx ((pre++[x]++(List.range i).flatMap cP)++q) W'):
  wA B J Jx pre (x::(List.range n).flatMap cP) W (.returned (.bool false)) W':=by
 refine .inr ⟨rfl,⟨x::((List.range i).flatMap cP++q),?_,by simp,by simpa [sY]using hx⟩⟩;exact Od.2 ⟨rfl,rZ cP hi hq⟩
theorem Fi (fv:Nat) (lb:Array Value) (eg: ∀args w,(callFunc fv args).run prog w= .ok (.enter fv args) w) (Ok:List (Nat×PR)→Prop) (J Jx:List (Nat×PR)→World→Prop)
  (hJ: ∀s A B,J s A→Below A.heap.size A B→J s B) {R:PR→Prop} (hV:xB b w0 fv lb J Jx Ok R) {d:Nat} {v:Value} {L:List (Nat×PR)} (ht:dJ b w0 d v L):
  (∀x∈L,R x.2)→ ∀(n:Nat) (pre:List (Nat×PR)) (W:World),Below w0.heap.size w0 W→J pre W→(∀q,q<+:L→q≠[]→Ok (pre++q))→d+L.length≤1099511627776→
   CallsIn Fence.wide n prog 34 #[v,.int .i64 (d:Int),.func (.func fv) #[] lb] W (wA w0.heap.size J Jx pre L W):=by
 induction ht with
 |mk d v r ks cP h0 hk ih=>
  intro hR n pre W hW hj hN ZG;have hRr:=hR (d,r) (by simp);replace ih:=fun i (hi:i<ks.length)=>ih i hi (fun x hx=>hR x (AX _ (IB.2 ⟨i,qj.2 hi,hx⟩)))
  obtain⟨tt,g,hv⟩:=h0.iface;have nZ:ks.length≤1099511627776:=by
   have:=DV cP fun i hi=>(hk i hi).one
   simp only[ek]at ZG;omega
  have H0:=ae h0;have HV:=ae hV;have HJ:=ae hJ;have IH:=ae ih;have HW:=ae hW;have Hj:=ae hj;subst hv;clear h0 hV hJ ih hW hj hk hR;refine callsIn_of_wp func34 rfl trivial ?_ rfl;simp only[ntmps34,List.size_toArray,ek,o8,Nat.reduceAdd,Nat.reduceSub,Oe,Of,List.push_toArray,Oh,tw,oh]
  gi_wp2_with fail
  refine⟨trivial,fun h=>(by cases h),?_⟩;refine(HV.out (n-1) d pre _ r ks W hRr (H0.out.below HW.out) Hj.out HW.out ?_ ?_).mono ?_
  ·exact hN [(d,r)] (Od.2 ⟨rfl,List.nil_prefix⟩) (by simp)
  ·simp only[ek]at ZG;omega
  rintro e W1 (⟨rfl,hj1,aY⟩|⟨rfl,lh⟩)
  ·have HJ1:=ae hj1;have cF:=ae aY;clear hj1 aY Hj
   gi_wp2_with fail
   refine⟨trivial,fun h=>(by cases h),?_⟩;refine(A9.2 (dR H0.out (HW.out.trans cF.out.1))).mono ?_;rintro e W2 ⟨s,rfl,hs,aQ,hkp⟩;obtain⟨ao,c,rfl,T7⟩:=hs;have HS:=ae T7;have bF:Hid (Kept w0.heap.size W W2):=ae (cF.out.trans (.kT (bR HW.out.size cF.out.1.size) aQ));have HKP:=ae hkp;have HJ2:=ae (HJ.out _ _ _ HJ1.out aQ);have HL:Hid ((∀q,q<+:(List.range ks.length).flatMap cP→Ok (pre++[(d,r)]++q))∧d+1+((List.range ks.length).flatMap cP).length≤1099511627776):=ae ⟨fun q hq=>by
    have:=hN ((d,r)::q) (Od.2 ⟨rfl,hq⟩) (by simp);simpa using this,by simp only[ek]at ZG;omega⟩
   have Pq:(0:Int)≤d:=Int.natCast_nonneg d;have hdu:(d:Int)≤1099511627776:=by simp only[ek]at ZG;omega
   clear T7 aQ hkp HJ1 cF H0 HV hN ZG
   gi_wp2_with fail
   gi_loopw [19] (fun t19 W3=> ∃i:Nat,Hid (i≤ks.length)∧t19= .int .i64 (i:Int)∧Hid (J (pre++[(d,r)]++(List.range i).flatMap cP) W3)∧Hid (Kept w0.heap.size W W3)∧Hid (Kept w0.heap.size W2 W3)) (fun t19 _=>ks.length-(intOf t19).toNat)
   case atStart=>exact⟨0,ae (aV _),rfl,by simpa using HJ2,bF,ae (Kept.refl _ _)⟩
   case round=>
    obtain⟨i,hi,rfl,hj,hb,cu⟩:=hrel;by_cases aA:i<ks.length
    ·have p1:((i:Int)<(ks.length:Int))=True:=aD (by omega);obtain⟨gk,ok,rfl,_,uZ,hck⟩:=HS.out i aA;have arv:wr.cell? ⟨gk,ok+i,none⟩=some ks[i]:=by
      rcases HKP.out gk ok _ c (by omega) rfl with h|⟨cs,h⟩
      ·exact(cu.out.1.cell (p:=⟨gk,ok+i,none⟩) h).trans hck
      ·rw[h.cell]at hck;rw[(cu.out.2 gk cs h).cell,hck]
     clear hck
     gi_wp2_with fail
     refine⟨trivial,fun h=>(by cases h),?_⟩;have hle:=DU cP aA;have hIH:=IH.out i aA (n-1) (pre++[(d,r)]++(List.range i).flatMap cP) wr (HW.out.trans hb.out.1) hj.out (fun q hq _=>by have:=HL.out.1 _ (rZ cP aA hq);simpa [sY]using this) (by have:=HL.out.2;omega);rw[show (((d+1:Nat)):Int)=(d:Int)+1 by omega]at hIH;refine hIH.mono ?_;clear hIH hle;rintro e W4 (⟨rfl,hj4,fe⟩|⟨rfl,⟨q,hq,Wq,hx4⟩⟩)
     ·have HJ4:Hid (J (pre++[(d,r)]++(List.range (i+1)).flatMap cP) W4):=ae (by rw[ff,←sY];exact hj4);have ml:=ae (hb.out.trans fe);clear hj4;have akn:=ae (cu.out.trans fe);clear fe
      gi_wp2_with fail
      go_roundw
      case rel=>exact⟨i+1,ae aA,by go_num,HJ4,ml,akn⟩
      case measure=>simp[intOf];omega
     ·have HP:=ae (VN (J:=J) (B:=w0.heap.size) (W:=W) aA hq Wq hx4);clear hq Wq hx4
      gi_wp2_with fail
      go_ret;exact HP.out
    ·have p1:((i:Int)<(ks.length:Int))=False:=bT (by omega);have Lu:i=ks.length:=by have:=hi.out;omega
     have HP:Hid (wA w0.heap.size J Jx pre ((d,r)::(List.range ks.length).flatMap cP) W (.returned (.bool true)) wr):=ae (.inl ⟨rfl,by have:=hj.out;rw[Lu]at this;simpa [sY]using this,hb.out⟩);clear Lu
     gi_wp2_with fail
     go_ret;exact HP.out
  ·have WH:=ae lh;clear lh Hj
   gi_wp2_with fail
   go_ret;exact .inr ⟨rfl,⟨[(d,r)],Od.2 ⟨rfl,List.nil_prefix⟩,by simp,WH.out⟩⟩
theorem JI (hb:aM W p t cs) (hp:B≤p) (ht:t≠27) (u:Value):Kept B W (W.setCell ⟨p,i,none⟩ u):=
 ⟨(aU _ _).setCell (p:=⟨p,i,none⟩) hp u,fun g cs' h=>h.Hf (by rintro rfl;exact aM.ne_ h hb ht.symm rfl) u⟩
theorem zx (h:Calls prog fv args W R):CallsIn Fence.wide n prog fv args W R:=A9.2 h
theorem KA (p d m:Nat) (v:Value) (W:World) (hd:d≤1099511627776) (hm:m≤1099511627776) (hp:aM W p 3 #[.int .i64 (m:Int)]):
  Calls prog 41 #[.int .i64 (d:Int),v,.pointer (some ⟨p,0,none⟩)] W fun e W'=>e= .returned (.bool true)∧W'=W.setCell ⟨p,0,none⟩ (.int .i64 ((max m d:Nat):Int)):=by
 have c0:=hp.cell 0;have f0:=hp.frozen 0;clear hp;simp at c0;have hmx:max (m:Int) (d:Int)=((max m d:Nat):Int):=by omega
 have HM:=ae hmx;clear hmx;go_enter func41,ntmps41;go_wp2_with fail;rw[HM.out];go_ret;exact⟨rfl,rfl⟩
def pK (p:Nat) (f:List (Nat×PR)→Nat) (pre:List (Nat×PR)) (W:World):Prop:=aM W p 3 #[.int .i64 (f pre:Int)]∧f pre≤1099511627776
theorem pK.fQ {f:List (Nat×PR)→Nat} (s:List (Nat×PR)) (A B:World) (h:pK p f s A) (hb:Below A.heap.size A B):pK p f s B:=⟨h.1.below hb h.1.lt,h.2⟩
theorem VO (a:Nat):mw [a]=a:=by rw[oQ];simp[mw]
def qq (pre:List (Nat×PR)):Nat:=mw (pre.map (·.1))
theorem CA (pre:List (Nat×PR)) (x:Nat×PR):qq (pre++[x])=max (qq pre) x.1:=by
 unfold qq;rw[nQ,Jq,mq,mY,VO]
theorem O4 {b:Int} (h:aM W p 3 #[.int .i64 a]):aM (W.setCell ⟨p,0,none⟩ (.int .i64 b)) p 3 #[.int .i64 b]:=by
 have:=h.dz 0 (.int .i64 b);simpa using this
theorem G9 (N:Nat) (hp:w0.heap.size≤p):xB b w0 41 #[.pointer (some ⟨p,0,none⟩)] (pK p qq) (fun _ _=>False) (fun l=>l.length≤N) (fun _=>True):=by
 intro n d pre v r ks W _ _ hj _ _ hd;refine zx ((KA p d _ v W hd hj.2 hj.1).mono ?_);rintro e W' ⟨rfl,rfl⟩;refine .inl ⟨rfl,⟨?_,?_⟩,JI hj.1 hp (by decide) _⟩
 ·rw[CA];exact O4 hj.1
 ·rw[CA];have:=hj.2;show max _ d≤_;omega
theorem KB (p m:Nat) (d v:Value) (W:World) (hm:m≤1099511627776) (hp:aM W p 3 #[.int .i64 (m:Int)]):
  Calls prog 42 #[d,v,.pointer (some ⟨p,0,none⟩)] W fun e W'=>e= .returned (.bool true)∧W'=W.setCell ⟨p,0,none⟩ (.int .i64 ((m+1:Nat):Int)):=by
 have c0:=hp.cell 0;have f0:=hp.frozen 0;clear hp;simp at c0;have hmx:(m:Int)+1=((m+1:Nat):Int):=by omega
 have HM:=ae hmx;clear hmx;go_enter func42,ntmps42;go_wp2_with fail;rw[HM.out];go_ret;exact⟨rfl,rfl⟩
theorem Ha (N:Nat) (hN:N≤1099511627776) (hp:w0.heap.size≤p):xB b w0 42 #[.pointer (some ⟨p,0,none⟩)] (pK p List.length) (fun _ _=>False) (fun l=>l.length≤N) (fun _=>True):=by
 intro n d pre v r ks W _ _ hj _ aA hd;refine zx ((KB p _ _ v W hj.2 hj.1).mono ?_);rintro e W' ⟨rfl,rfl⟩;refine .inl ⟨rfl,⟨?_,?_⟩,JI hj.1 hp (by decide) _⟩
 ·rw[iF];exact O4 hj.1
 ·rw[iF];simp only[iF,ek,o8]at aA;show pre.length+1≤_;omega
theorem JJ (d:Int) (fv:Value) (w:World):Calls prog 34 #[.nilIface,.int .i64 d,fv] w fun e w'=>e= .returned (.bool true)∧w=w':=by
 go_enter func34,ntmps34;go_wp2_with fail;go_ret;exact⟨rfl,rfl⟩
theorem Fj (h:eO b w0 v L) (fv:Nat) (lb:Array Value) (eg: ∀args w,(callFunc fv args).run prog w= .ok (.enter fv args) w) (N:Nat) (J:List (Nat×PR)→World→Prop)
  (hJ: ∀s A B,J s A→Below A.heap.size A B→J s B) {R:PR→Prop} (hV:xB b w0 fv lb J (fun _ _=>False) (fun l=>l.length≤N) R) (hR: ∀x∈L,R x.2) (hW:Below w0.heap.size w0 W) (h0:J [] W) (hN:L.length≤N) (hL:1+L.length≤1099511627776):
  Calls prog 34 #[v,.int .i64 1,.func (.func fv) #[] lb] W fun e W'=>e= .returned (.bool true)∧J L W'∧Kept w0.heap.size W W':=by
 rcases h with⟨rfl,rfl⟩|h
 ·refine(JJ 1 _ W).mono ?_;rintro e W' ⟨rfl,rfl⟩;exact⟨rfl,h0,Kept.refl _ _⟩
 ·refine(A9.1 (Fi fv lb eg _ J _ hJ hV h hR 0 [] W hW h0 (fun q hq _=>by have:=hq.length_le;simp only[tw];omega) hL)).mono ?_;rintro e W' (⟨rfl,hj,hb⟩|⟨_,⟨_,_,_,hf⟩⟩)
  ·exact⟨rfl,by simpa using hj,hb⟩
  ·exact hf.elim
theorem Nw (h:eO b w v L) (hL:1+L.length≤1099511627776):
  Calls prog 14 #[.agg #[v]] w (kt w (qq L:Nat)):=by
 have HW:Hid (Calls prog 34 #[v,.int .i64 1,.func (.func 41) #[] #[.pointer (some ⟨w.heap.size+1,0,none⟩)]] ((w.alloc (.cells #[v] 29)).alloc (.cells #[.int .i64 0] 3)) fun e W'=>e= .returned (.bool true)∧pK (w.heap.size+1) qq L W'∧Kept w.heap.size ((w.alloc (.cells #[v] 29)).alloc (.cells #[.int .i64 0] 3)) W'):=
  ae (Fj h _ _ (enters_of func41 (by kernel_rfl) rfl) L.length _ pK.fQ (G9 _ (by omega)) (fun _ _=>trivial) (((aU _ w).alloc (aS _) _).alloc (by simp) _)
   ⟨by have:=aM.new (w.alloc (.cells #[v] 29)) 3 #[.int .i64 0];simpa [qq,mw]using this,by simp[qq,mw]⟩ (aS _) hL)
 have aQ:Below w.heap.size w ((w.alloc (.cells #[v] 29)).alloc (.cells #[.int .i64 0] 3)):=((aU _ w).alloc (aS _) _).alloc (by simp) _;have bF:=ae aQ;clear aQ;clear h;go_enter func14,ntmps14;go_wp2_with fail;refine HW.mono ?_;rintro e w2 ⟨rfl,⟨Lj,_⟩,hk⟩;have c0:=Lj.cell 0;simp at c0;have HB:=ae (bF.trans hk.1);clear Lj hk;go_wp2_with fail;go_ret;exact⟨rfl,HB⟩
theorem Nx (h:eO b w v L) (hL:1+L.length≤1099511627776):
  Calls prog 15 #[.agg #[v]] w (kt w (L.length:Nat)):=by
 have HW:Hid (Calls prog 34 #[v,.int .i64 1,.func (.func 42) #[] #[.pointer (some ⟨w.heap.size+1,0,none⟩)]] ((w.alloc (.cells #[v] 29)).alloc (.cells #[.int .i64 0] 3)) fun e W'=>e= .returned (.bool true)∧pK (w.heap.size+1) List.length L W'∧Kept w.heap.size ((w.alloc (.cells #[v] 29)).alloc (.cells #[.int .i64 0] 3)) W'):=
  ae (Fj h _ _ (enters_of func42 (by kernel_rfl) rfl) L.length _ pK.fQ (Ha _ (by omega) (by omega)) (fun _ _=>trivial) (((aU _ w).alloc (aS _) _).alloc (by simp) _)
   ⟨by have:=aM.new (w.alloc (.cells #[v] 29)) 3 #[.int .i64 0];simpa [qq,mw]using this,by simp[qq,mw]⟩ (aS _) hL)
 have aQ:Below w.heap.size w ((w.alloc (.cells #[v] 29)).alloc (.cells #[.int .i64 0] 3)):=((aU _ w).alloc (aS _) _).alloc (by simp) _;have bF:=ae aQ;clear aQ;clear h;go_enter func15,ntmps15;go_wp2_with fail;refine HW.mono ?_;rintro e w2 ⟨rfl,⟨Lj,_⟩,hk⟩;have c0:=Lj.cell 0;simp at c0;have HB:=ae (bF.trans hk.1);clear Lj hk;go_wp2_with fail;go_ret;exact⟨rfl,HB⟩
