import Derived.Test.YtcdoilkjmjbgmaaGreatDoorRows
import Derived.SliceStrings
import Derived.Deep.Slices
import Derived.OpenShut
import Derived.Carry
import Derived.Test.YtcdoilkjmjbgmaaGreatDoorS09
/- Part of the proof of YtcdoilkjmjbgmaaGreatDoorCardY: OpenA LawI LawG RbA RbB RbC RbD RbE RbF. -/
set_option maxRecDepth 100000
set_option maxHeartbeats 4000000
set_option linter.unusedVariables false
set_option linter.unusedSimpArgs false
namespace Go.Proofs.YtcdoilkjmjbgmaaGreatDoor
open Go.ChangeShapes Go.WideShapes Go.RowKit Go.Deep
variable {W:World} {a:Addr} {v:Value}
theorem YI (h:W.cell? a=some v):a.block<W.heap.size:=by
 rcases dE a.block W.heap.size with aA|lW
 ·exact aA
 ·unfold World.cell? at h;rw[AW lW]at h;simp at h
end Go.Proofs.YtcdoilkjmjbgmaaGreatDoor
namespace Go.Proofs.YtcdoilkjmjbgmaaGreatDoor
open Go.RowKit
open Go.Proofs.Tryz
variable {v v' av bv wv:Value} {w0 w w' wr:World} {n1 n2 n3 n4 L base g n m c size k x d i j cy:Nat} {A B W X xs:List Value} {e:TypeId} {l ds es a b R ys:List Nat}
structure ab9 (w0 w:World) (n1 n2 n3 n4:Nat) (av bv wv:Value) (L:Nat) (A B W:List Value):Prop where
 a:w.ownsRow n1 139 3 av L A
 b:w.ownsRow n1 139 3 bv L B
 wt:w.ownsRow n1 139 3 wv L W
 a2: ∀x,av.ownBlock=some x→x<n2
 b2: ∀x,bv.ownBlock=some x→n2≤x∧x<n3
 w2: ∀x,wv.ownBlock=some x→n3≤x∧x<n4
 o12:n1≤n2
 o23:n2≤n3
 o34:n3≤n4
 o4:n4≤w.heap.size
 below:Below n1 w0 w
structure ajU (w0 w:World) (n1 n2 n3 n4:Nat) (av bv wv gv hv:Value) (L:Nat) (A B W X Y:List Value) (gn hn:Nat):Prop where
 t:ab9 w0 w n1 n2 n3 n4 av bv wv L A B W
 g:w.ownsRow n1 139 3 gv gn (A++X)
 h:w.ownsRow n1 139 3 hv hn (B++Y)
 ga: ∀x,gv.ownBlock=some x→x<n2∨n4≤x
 hb: ∀x,hv.ownBlock=some x→(n2≤x∧x<n3)∨n4≤x
 gh: ∀x,gv.ownBlock=some x→hv.ownBlock≠some x
theorem jx.block (h:jx v v'):v'.ownBlock=v.ownBlock:=by
 obtain⟨g,n,m,cap,rfl,rfl⟩:=h;rfl
theorem ab9.fQ (h:ab9 w0 w n1 n2 n3 n4 av bv wv L A B W):ajU w0 w n1 n2 n3 n4 av bv wv av bv L A B W [] [] L L:=
 ⟨h,by rw[nR];exact h.a,by rw[nR];exact h.b,fun x hx=>.inl (h.a2 x hx),fun x hx=>.inl (h.b2 x hx),fun x hx he=>by have:=h.a2 x hx;have:=h.b2 x he;omega⟩
def Tr (w:World) (v:Value) (xs:List Row):Prop:=
 (v= .slice none 0 0∧xs=[])∨ ∃ad c,v= .slice (some ad) xs.length c∧ ∀j u,(QE xs)[j]? =some u→w.cell? (ad.add j)=some u
theorem Tr.below {xs:List Row} (h:Tr w v xs) (hb:Below w.heap.size w w'):Tr w' v xs:=by
 rcases h with h|⟨ad,c,h1,h2⟩
 ·exact .inl h
 ·exact .inr ⟨ad,c,h1,fun j u hu=>by have h3:=h2 j u hu;rw[hb.cell (YI h3)];exact h3⟩
theorem U5 (h:w.ownsRow base e size (.slice (some ⟨g,0,none⟩) n c) n (A++X)) (hm:m≤n) (hA:A.length=m*size):w.ownsRow base e size (.slice (some ⟨g,0,none⟩) m c) m A:=by
 refine⟨hA,?_⟩;rcases h.2 with⟨hv,_⟩|⟨g',cap,cur,hv,d1,d2,d3,d4,d5,d6⟩
 ·cases hv
 ·simp only[Value.slice.injEq,yp,Addr.mk.injEq,kJ,vD]at hv;obtain⟨rfl,rfl⟩:=hv;refine .inr ⟨g,c,cur,rfl,d1,d2,bR hm d3,d4,d5,?_⟩;have h1:=cn (List.take (m*size)) d6;rw[List.take_take,mS (fg _ hm),←hA,List.take_left]at h1;rw[←hA];exact h1
theorem YK (h:w.ownsRow base e size (.slice (some ⟨g,0,none⟩) n c) n xs):n≤c∧c≤maxLen:=by
 rcases h.2 with⟨hv,_⟩|⟨g',cap,cur,hv,d1,d2,d3,d4,d5,d6⟩
 ·cases hv
 ·simp only[Value.slice.injEq,yp,Addr.mk.injEq,kJ,vD]at hv;obtain⟨rfl,rfl⟩:=hv;exact⟨d3,d4⟩
theorem oS (h:w.ownsRow base e size v n xs): ∃ao c',v= .slice ao n c':=by
 rcases h.2 with⟨rfl,rfl⟩|⟨g,cap,cur,rfl,_⟩
 ·exact⟨_,_,rfl⟩
 ·exact⟨_,_,rfl⟩
def aE:List Nat→Nat
 |[]=>0
 |d::r=>d+4294967296*aE r
def eu (ds:List Nat):Prop:= ∀d∈ds,d<4294967296
def Norm (ds:List Nat):Prop:= ∀h:0<ds.length,ds[ds.length-1]≠0
def da (ds:List Nat):List Value:=ds.map fun(d:Nat)=>.int .u32 (d:Int)
theorem wR (ds:List Nat):(da ds).length=ds.length:=by simp[da]
def pA (w:World) (v:Value) (ds:List Nat):Prop:=
 ∃ao c,v= .slice ao ds.length c∧ ∀j (h:j<ds.length),∃g o,ao=some ⟨g,o,none⟩∧g<w.heap.size∧w.cell? ⟨g,o+j,none⟩=some (.int .u32 (ds[j]:Int))
theorem pA.below (h:pA w v l) (hb:Below w.heap.size w w'):pA w' v l:=by
 obtain⟨ao,c,rfl,hc⟩:=h;refine⟨ao,c,rfl,fun j hj=>?_⟩;obtain⟨g,o,rfl,hg,h1⟩:=hc j hj;exact⟨g,o,rfl,iv hg hb.size,(hb.cell (p:=⟨g,_,none⟩) hg).trans h1⟩
def jl (w:World) (base:Nat) (v:Value) (ds:List Nat):Prop:=w.ownsRow base 184 1 v ds.length (da ds)
theorem jl.own (h:jl w base v ds):w.ownsRow base 184 1 v ds.length (da ds):=h
theorem jl.r (h:jl w base v ds):pA w v ds:=by
 obtain⟨ao,c,rfl⟩:=oS h;refine⟨ao,c,rfl,fun j hj=>?_⟩;obtain⟨g,rfl,_,hg⟩:=BJ h (by omega);refine⟨g,0,rfl,hg,?_⟩;rw[mr,It h j (by omega)];simp[da,hj]
theorem jl.below (h:jl w base v ds) (hb:Below w.heap.size w w'):jl w' base v ds:=bJ h hb
theorem fM: ∀(a b:List Nat),aE (a++b)=aE a+4294967296^a.length*aE b
 |[],b=>by simp[aE]
 |d::r,b=>by
  rw[oh,aE,aE,fM r b,ek,ep,qY,fx (4294967296^r.length) 4294967296,cg];omega
theorem pR: ∀(a:List Nat),(∀d∈a,d=0)→aE a=0
 |[],_=>rfl
 |d::r,h=>by rw[aE,pR r fun x hx=>h x (by simp[hx]),h d (by simp)]
theorem pN: ∀(a:List Nat),eu a→aE a<4294967296^a.length
 |[],_=>by simp[aE]
 |d::r,h=>by
  have ih:=pN r fun x hx=>h x (by simp[hx])
  have hd:=h d (by simp);rw[aE,ek,ep];omega
theorem Gn (h:Norm ds) (hp:0<ds.length):4294967296^(ds.length-1)≤aE ds:=by
 have hl:=h hp;have e:ds=ds.take (ds.length-1)++[ds[ds.length-1]]:=by
  rw[←jO (by omega),show ds.length-1+1=ds.length by omega,qO]
 rw[e,fM];simp only[aE,nO];rw[mS (by omega)];have h2:4294967296^(ds.length-1)*1≤4294967296^(ds.length-1)*(ds[ds.length-1]+4294967296*0):=tZ _ (by omega);simp only[iF,nO,ek,o8]at h2 ⊢
 rw[show min (ds.length-1) ds.length+(0+1)-1=ds.length-1 by omega];omega
theorem mH (h:Norm ds) {k:Nat} (hv:aE ds<4294967296^k):ds.length≤k:=by
 rcases jL ds.length with h0|h0
 ·omega
 ·have h1:=Gn h h0;rcases dE k ds.length with hk|hk
  ·have:4294967296^k≤4294967296^(ds.length-1):=dZ (by decide) (by omega);omega
  ·exact hk
def Ts (ds:List Nat) (k:Nat):Prop:=k≤ds.length∧(∀j (h:j<ds.length),k≤j→ds[j]=0)∧ ∀h:k-1<ds.length,0<k→ds[k-1]≠0
theorem Ts.val (h:Ts ds k):aE (ds.take k)=aE ds∧Norm (ds.take k)∧(ds.take k).length=k:=by
 obtain⟨h1,h2,h3⟩:=h;have hl:(ds.take k).length=k:=by simp;omega
 refine⟨?_,?_,hl⟩
 ·have e:ds=ds.take k++ds.drop k:=(tn k ds).symm
  conv=>rhs;rw[e]
  rw[fM,pR (ds.drop k),mZ,iz];intro d hd;obtain⟨j,hj,rfl⟩:=List.mem_iff_getElem.1 hd;rw[vr];exact h2 _ _ (by omega)
 ·intro hp;rw[Iy];simp only[hl];exact h3 _ (by omega)
theorem ze (w:World) (ao:Option Addr) (n c:Nat) (ds:List Nat) (h:pA w (.slice ao n c) ds) (hn:ds.length≤1099511627776) (hc:Norm ds∨ds.length≤c∧c≤maxLen):
  Calls prog 140 #[.slice ao n c] w fun e w'=>(∃k,Ts ds k∧e= .returned (.slice ao k c))∧w'=w:=by
 obtain⟨ao',c',he,fm⟩:=h;obtain⟨rfl,rfl,rfl⟩:ao=ao'∧n=ds.length∧c=c':=by injection he with h1 h2 h3;exact⟨h1,h2,h3⟩
 have HC:=ae fm;have HCC:=ae hc;clear fm he hc;go_enter func140,ntmps140;go_wp2_with fail;go_loopw [0] (fun t0 wr=> ∃k:Nat,Hid ((k≤ds.length∧ ∀j (h:j<ds.length),k≤j→ds[j]=0)∧wr=w)∧t0= .slice ao k c) (fun t0 _=>match t0 with| .slice _ k _=>k|_=>0)
 case atStart=>exact⟨ds.length,ae ⟨⟨aS _,fun j h1 h2=>by omega⟩,rfl⟩,rfl⟩
 case round=>
  obtain⟨k,hI,rfl⟩:=hrel;have hw:=hI.2;subst hw;by_cases hk:0<k
  ·have p1:((0:Int)<(k:Int))=True:=aD (by omega);have qJ:k-1<ds.length:=by have:=hI.1.1;omega
   obtain⟨g,o,rfl,hg,mX⟩:=HC (k-1) qJ;have e1:((k:Int)-1).toNat=k-1:=by omega
   have bk:k≤1099511627776:=by omega
   by_cases hz:ds[k-1]=0
   ·rw[hz]at mX;have ue:k≤c∧c≤maxLen:=by
     rcases HCC.out with hn'|hn'
     ·exfalso;rcases dE k ds.length with aA|lW
      ·have:=hI.1.2 (ds.length-1) (by omega) (by omega);exact hn' (by omega) this
      ·have:k=ds.length:=by have:=hI.1.1;omega
       subst this;exact hn' hk hz
     ·have:=hI.1.1;omega
    unfold maxLen at ue;go_wp2_with fail;exact⟨⟨k-1,ae ⟨⟨by omega,fun j h1 h2=>by
     by_cases hj:j=k-1
     ·subst hj;exact hz
     ·exact hI.1.2 j h1 (by omega)⟩,trivial⟩,rfl⟩,by show k-1<k;omega⟩
   ·have p2:(((ds[k-1]:Nat):Int)=0)=False:=bT (by omega);go_wp2_with fail;go_ret;exact⟨⟨k,⟨hI.1.1,hI.1.2,fun _ _=>hz⟩,rfl⟩,rfl⟩
  ·have lK:k=0:=by omega
   subst lK;go_wp2_with fail;go_ret;exact⟨⟨0,⟨aV _,hI.1.2,fun _ h=>absurd h (by decide)⟩,rfl⟩,rfl⟩
theorem lC (w:World) (base:Nat) (v:Value) (ds:List Nat) (h:jl w base v ds) (hn:ds.length≤1099511627776):
  Calls prog 140 #[v] w fun e w'=>(∃v' es,e= .returned v'∧jl w base v' es∧aE es=aE ds∧Norm es∧(eu ds→eu es))∧w'=w:=by
 obtain⟨ao,c,rfl⟩:=oS h;have ue:Norm ds∨ds.length≤c∧c≤maxLen:=by
  rcases jL ds.length with h0|h0
  ·exact .inl fun h=>by omega
  ·obtain⟨g,rfl,_⟩:=BJ h h0;exact .inr (YK h)
 refine(ze w ao ds.length c ds h.r hn ue).mono ?_;rintro e w' ⟨⟨k,hk,rfl⟩,rfl⟩;obtain⟨v1,v2,v3⟩:=hk.val;refine⟨⟨_,ds.take k,rfl,?_,v1,v2,fun cH d hd=>cH d (List.mem_of_mem_take hd)⟩,rfl⟩;rcases jL ds.length with h0|h0
 ·have lK:k=ds.length:=by have:=hk.1;omega
  rw[lK,qO];exact h
 ·obtain⟨g,rfl,_⟩:=BJ h h0;have e:da ds=da (ds.take k)++da (ds.drop k):=by rw[da,da,da,←nQ,tn]
  have h':=h;unfold jl at h';rw[e]at h';have:=U5 (m:=k) h' (by have:=hk.1;omega) (by rw[wR,v3];omega);unfold jl;rw[v3];exact this
theorem oW (w:World) (v:Value) (ds:List Nat) (h:pA w v ds) (hn:ds.length≤1099511627776) (hd:Norm ds):
  Calls prog 140 #[v] w fun e w'=>e= .returned v∧w'=w:=by
 obtain⟨ao,c,rfl,hc⟩:=h;refine(ze w ao ds.length c ds ⟨ao,c,rfl,hc⟩ hn (.inl hd)).mono ?_;rintro e w' ⟨⟨k,hk,rfl⟩,rfl⟩;have:k=ds.length:=by
  rcases dE k ds.length with aA|lW
  ·exact absurd (hk.2.1 (ds.length-1) (by omega) (by omega)) (hd (by omega))
  ·have:=hk.1;omega
 rw[this];exact⟨rfl,rfl⟩
theorem oF:(prog.info? 184).map (fun i=>(i.zero,i.size,i.bytes))=some (some (.int .u32 0),1,4):=by kernel_rfl
def ik (w:World) (V:Nat) (e:Ending) (w':World):Prop:=
 (∃v es,e= .returned v∧jl w' w.heap.size v es∧aE es=V∧Norm es∧eu es)∧Below w.heap.size w w'
theorem sK (h:w.ownsRow base 184 1 v (es.length+1) (da es++[.int .u32 (x:Int)])):jl w base v (es++[x]):=by
 unfold jl;rw[iF];have:da (es++[x])=da es++[.int .u32 (x:Int)]:=by simp[da]
 rw[this];exact h
theorem MY (hd:d<4294967296) (hm:m<4294967296) (hc:c<4294967296):c+d*m<18446744073709551616:=by
 have:d*m≤4294967295*4294967295:=ov (by omega) (by omega);omega
theorem sL (w:World) (v:Value) (ds:List Nat) (m c:Nat) (h:pA w v ds) (cH:eu ds) (hn:ds.length≤1099511627775) (hm:m<4294967296) (hc:c<4294967296):
  Calls prog 139 #[v,.int .u32 (m:Int),.int .u32 (c:Int)] w (ik w (aE ds*m+c)):=by
 obtain⟨ao,cap,rfl,fm⟩:=h;have HC:=ae fm;have FD:=ae cH;clear fm cH;obtain⟨i0,s9,Dg,de,ej⟩:=lF oF;obtain⟨w1,Py,aP,jm⟩:=run_make_own (P:=prog) w w.heap.size 181 184 i0 _ 1 underlying181 s9 Dg de .i64 .i64 (ds.length+1) (by rw[ej];omega) (by unfold maxLen;omega) (aS _);have aeT:(Instr.makeSlice 181 (.int .i64 0) (.int .i64 ((ds.length:Int)+1))).run prog w= .ok (.slice (some ⟨w.heap.size,0,none⟩) 0 (ds.length+1)) w1:=Py;have sd:=ae (show jl w1 w.heap.size (.slice (some ⟨w.heap.size,0,none⟩) 0 (ds.length+1)) []from aP);have cF:=ae ((aU w.heap.size w).grown jm (aS _) (fun g hg=>by cases hg));clear Py aP jm;go_enter func139,ntmps139;go_wp2_with fail;go_loopw [7,8,9] (fun t7 t8 t9 wr=> ∃(k cy:Nat) (es:List Nat),Hid (k≤ds.length∧cy<4294967296∧es.length=k∧eu es∧aE es+4294967296^k*cy=aE (ds.take k)*m+c)∧t8= .int .u64 (cy:Int)∧t9= .int .i64 (k:Int)∧Hid (jl wr w.heap.size t7 es∧Below w.heap.size w wr)) (fun _ _ t9 _=>ds.length-(intOf t9).toNat)
 case atStart=>exact⟨0,c,[],ae ⟨aV _,hc,rfl,(fun d hd=>by cases hd),by simp[aE]⟩,rfl,rfl,ae ⟨sd,cF⟩⟩
 case round=>
  obtain⟨k,cy,es,hI,rfl,rfl,hB⟩:=hrel;have NR:=hI.2.2.1;subst NR;obtain⟨rv,rc,hrv⟩:=oS hB.1;subst hrv;have HO:=ae hB.1;have HB:=ae hB.2;have hcy:=hI.2.1;clear hB;by_cases hk:es.length<ds.length
  ·have p1:((es.length:Int)<(ds.length:Int))=True:=aD (by omega);obtain⟨g,o,rfl,hg,mX⟩:=HC es.length hk;have PQ:=(HB.cell (p:=⟨g,o+es.length,none⟩) hg).trans mX;obtain⟨d,hd⟩: ∃d,d=ds[es.length]:=⟨_,rfl⟩;have aeU:d<4294967296:=by rw[hd];exact FD _ (jj hk)
   rw[←hd]at PQ;have hmul:=MY aeU hm hcy;obtain⟨P,hP⟩: ∃P,P=d*m:=⟨_,rfl⟩;obtain⟨S,hS⟩: ∃S,S=cy+P:=⟨_,rfl⟩;have q1:IntKind.u64.wrap ((d:Int)*(m:Int))=(P:Int):=by rw[cZ,←yw,←hP];omega
   have q2:IntKind.u64.wrap ((cy:Int)+(P:Int))=(S:Int):=by rw[cZ];omega
   obtain⟨lo,AG⟩: ∃lo,lo=S%4294967296:=⟨_,rfl⟩;obtain⟨hi,sP⟩: ∃hi,hi=S/4294967296:=⟨_,rfl⟩;have q3:IntKind.u32.wrap (S:Int)=(lo:Int):=by rw[qT];omega
   have HD:=ae hd;have NV:=ae (And.intro hP (And.intro hS (And.intro AG (And.intro sP hmul))));clear mX hd hP hS AG sP;go_wp2_with (at_builtin;refine ib rfl (.tmp 32) (.tmp 35) 181 rfl w.heap.size 184 (.int .u32 0) 1 4 oF underlying181 rfl (by omega) _ _ _ rfl HO.own [.int .u32 (lo:Int)] rfl rfl (zL rfl) (by unfold maxLen;omega) (by omega) HB.size ?_);intro v2 w2 kM pb;have bF:=ae (HB.grown pb HB.size (fun g hg=>(IC HO g hg).1));have lD:=ae (sK kM);clear kM pb;have lq:aE (es++[lo])+4294967296^(es.length+1)*hi=aE (ds.take (es.length+1))*m+c:=by
    obtain⟨h1,h2,h3,h4,_⟩:=NV.out;have hv:=hI.2.2.2.2;have hT:aE (ds.take (es.length+1))=aE (ds.take es.length)+4294967296^es.length*d:=by
     rw[jO hk,fM,HD.out,nO,mS (by omega)];simp[aE]
    have hS2:S=lo+4294967296*hi:=by omega
    rw[fM,hT,ep,ow];simp only[aE,mZ,iz];generalize 4294967296^es.length=B at*
    have e1:B*lo+B*4294967296*hi=B*S:=by rw[hS2,qY,cg]
    have e2:B*S=B*cy+B*d*m:=by rw[h2,h1,qY,cg]
    omega
   have AR:eu (es++[lo]):=fun x hx=>by
    rcases qV.1 hx with hx|hx
    ·exact hI.2.2.2.1 x hx
    ·obtain rfl:=xg.1 hx;have:=NV.2.2.1;omega
   have sP:hi<4294967296∧hi=S/4294967296:=⟨by have:=NV.out;omega,NV.2.2.2.1⟩;have HF:=ae (And.intro lq (And.intro AR sP));clear lq AR sP;go_wp2_with fail;refine⟨⟨es.length+1,hi,es++[lo],ae ⟨hk,HF.2.2.1,by simp,HF.2.1,HF.1⟩,?_,rfl,ae ⟨lD,bF⟩⟩,gF hk⟩;have:=HF.2.2.2;apply Sl;omega
  ·have uT:es.length=ds.length:=by have:=hI.1;omega
   have p1:((es.length:Int)<(ds.length:Int))=False:=bT (by omega);have q3:IntKind.u32.wrap (cy:Int)=(cy:Int):=by rw[qT];omega
   have bl:es.length≤1099511627775:=by omega
   have HKE:=ae uT;clear uT;go_wp2_with (at_builtin;refine ib rfl (.tmp 39) (.tmp 42) 181 rfl w.heap.size 184 (.int .u32 0) 1 4 oF underlying181 rfl (by omega) _ _ _ rfl HO.own [.int .u32 (cy:Int)] rfl rfl (zL rfl) (by unfold maxLen;omega) (by omega) HB.size ?_);intro v2 w2 kM pb;have bF:=ae (HB.grown pb HB.size (fun g hg=>(IC HO g hg).1));have lD:=ae (sK kM);clear kM pb;have lq:aE (es++[cy])=aE ds*m+c:=by
    have hv:=hI.2.2.2.2;rw[HKE.out,qO]at hv;rw[fM,HKE.out];simp only[aE,mZ,iz];exact hv
   have AR:eu (es++[cy]):=fun x hx=>by
    rcases qV.1 hx with hx|hx
    ·exact hI.2.2.2.1 x hx
    ·obtain rfl:=xg.1 hx;exact hcy
   have H5:(es++[cy]).length≤1099511627776:=by simp only[iF,ek,o8];omega
   have HF:=ae (And.intro lq AR);clear lq AR;go_wp2_with fail;refine(lC _ w.heap.size _ _ lD H5).mono ?_;rintro e w3 ⟨⟨v3,fs,rfl,f1,f2,f3,f4⟩,rfl⟩;have HR:=ae (show (∃v es,Ending.returned v3= .returned v∧jl w3 w.heap.size v es∧aE es=aE ds*m+c∧Norm es∧eu es)∧Below w.heap.size w w3 from⟨⟨v3,fs,rfl,f1,f2.trans HF.1,f3,f4 HF.2⟩,bF⟩);clear f1 f2 f3 f4;go_wp2_with fail;go_ret;exact HR
theorem CV (k:Nat) (b:List Nat):aE (List.replicate k 0++b)=4294967296^k*aE b:=by
 rw[fM,pR _ fun d hd=>(Oi.1 hd).2,vq,mr]
theorem tP (w:World) (q c:Nat) (hq:q≤c) (hc:c≤1099511627776):
  ∃w1,(Instr.makeSlice 181 (.int .i64 (q:Int)) (.int .i64 (c:Int))).run prog w= .ok (.slice (some ⟨w.heap.size,0,none⟩) q c) w1∧jl w1 w.heap.size (.slice (some ⟨w.heap.size,0,none⟩) q c) (List.replicate q 0)∧Below w.heap.size w w1:=by
 obtain⟨i0,s9,Dg,de,ej⟩:=lF oF;have hr:=run_make (P:=prog) w 181 184 i0 _ underlying181 s9 Dg .i64 .i64 (q:Int) (c:Int) (by omega) (by omega) (by rw[ej];omega) (by omega);rw[mn,mn,de,oj]at hr;refine⟨_,hr,?_,(aU _ _).alloc (aS _) _⟩;have mX:(madeCells (Value.int .u32 0).cells c).toList=List.replicate c (.int .u32 0):=toList_madeCells_one _ _;refine⟨by rw[wR];simp,.inr ⟨w.heap.size,c,_,by rw[vq],aS _,heap_alloc_new w _,by rw[vq];exact hq,by unfold maxLen;omega,?_,?_⟩⟩
 ·rw[←Array.length_toList,mX];simp
 ·rw[mX,vq,oj,List.take_replicate,mS hq];simp[da]
theorem zf (w:World) (v:Value) (ds:List Nat) (n:Nat) (h:pA w v ds) (cH:eu ds) (hl:ds.length≤1099511627) (hn:n≤1099511627):
  Calls prog 153 #[v,.int .i64 (n:Int)] w (ik w (aE ds*2^n)):=by
 obtain⟨ao,cap,rfl,fm⟩:=h;have HC:=ae fm;have FD:=ae cH;clear fm cH;obtain⟨q,hq⟩: ∃q,q=n/32:=⟨_,rfl⟩;obtain⟨s,hs⟩: ∃s,s=n%32:=⟨_,rfl⟩;obtain⟨w1,Py,uW,aY⟩:=tP w q (ds.length+q+1) (by omega) (by omega);have aeT:(Instr.makeSlice 181 (.int .i64 (q:Int)) (.int .i64 ((ds.length:Int)+(q:Int)+1))).run prog w= .ok (.slice (some ⟨w.heap.size,0,none⟩) q (ds.length+q+1)) w1:=Py;have eq1:(n:Int)/32=(q:Int):=by omega
 have eq2:(n:Int)%32=(s:Int):=by omega
 have sd:=ae uW;have cF:=ae aY;have HN:=ae (show n=32*q+s∧s<32 by omega);have ar5:s<32:=by omega
 have ar6:q≤1099511627:=by omega
 clear Py uW aY hq hs;go_enter func153,ntmps153;go_wp2_with fail;go_loopw [5,6,7] (fun t5 t6 t7 wr=> ∃(cy:Nat) (es:List Nat),Hid (es.length≤ds.length∧cy<2^s∧eu es∧aE es+4294967296^es.length*cy=aE (ds.take es.length)*2^s)∧t6= .int .u64 (cy:Int)∧t7= .int .i64 (es.length:Int)∧Hid (jl wr w.heap.size t5 (List.replicate q 0++es)∧Below w.heap.size w wr)) (fun _ _ t7 _=>ds.length-(intOf t7).toNat)
 case atStart=>exact⟨0,[],ae ⟨aV _,eZ (by decide),(fun d hd=>by cases hd),by simp[aE]⟩,rfl,rfl,ae ⟨by rw[nR];exact sd,cF⟩⟩
 case round=>
  obtain⟨cy,es,hI,rfl,rfl,hB⟩:=hrel;have H6:=hB.1;have hRl:(List.replicate q 0++es).length≤2199023254:=by have:=hI.1;simp;omega
  obtain⟨R,hR⟩: ∃R,R=List.replicate q 0++es:=⟨_,rfl⟩;rw[←hR]at H6 hRl;obtain⟨rv,rc,hrv⟩:=oS H6;subst hrv;have HO:=ae H6;have HB:=ae hB.2;have FF:=ae hR;have hcy:=hI.2.1;clear hB H6 hR;by_cases hk:es.length<ds.length
  ·have p1:((es.length:Int)<(ds.length:Int))=True:=aD (by omega);obtain⟨g,o,rfl,hg,mX⟩:=HC es.length hk;have PQ:=(HB.cell (p:=⟨g,o+es.length,none⟩) hg).trans mX;obtain⟨d,hd⟩: ∃d,d=ds[es.length]:=⟨_,rfl⟩;have aeU:d<4294967296:=by rw[hd];exact FD _ (jj hk)
   rw[←hd]at PQ;have HD:=ae hd;clear mX hd;obtain⟨P,hP⟩: ∃P,P=d*2^s:=⟨_,rfl⟩;have h31:2^s≤2147483648:=by
    have:2^s≤2^31:=dZ (by decide) (by omega);exact this
   have aeV:P<9223372036854775808:=by
    have h1:d*2^s≤4294967295*2147483648:=ov (by omega) h31;omega
   obtain⟨S,hS⟩: ∃S,S=cy+P:=⟨_,rfl⟩;have q1:IntKind.u64.wrap ((d:Int)*2^s)=(P:Int):=by
    have e:(d:Int)*2^s=(P:Int):=by rw[hP];simp
    rw[e,cZ];omega
   have q2:bits .or .u64 (cy:Int) (P:Int)=(S:Int):=by
    rw[bits_or_u64_nat cy P (by omega) (by omega),hS];have:=Ip (i:=s) (b:=cy) hcy d;rw[Nat.or_comm,hP,fx d,←this,A8]
   obtain⟨lo,AG⟩: ∃lo,lo=S%4294967296:=⟨_,rfl⟩;obtain⟨hi,sP⟩: ∃hi,hi=S/4294967296:=⟨_,rfl⟩;have q3:(S:Int)%4294967296=(lo:Int):=by omega
   have q4:IntKind.u32.wrap (S:Int)=(lo:Int):=by rw[qT];omega
   have aba:S<18446744073709551616:=by omega
   have NV:=ae (And.intro hP (And.intro hS (And.intro AG (And.intro sP aeV))));clear hP hS AG sP aeV;go_wp2_with (at_builtin;refine ib rfl (.tmp 33) (.tmp 36) 181 rfl w.heap.size 184 (.int .u32 0) 1 4 oF underlying181 rfl (by omega) _ _ _ rfl HO.own [.int .u32 (lo:Int)] rfl rfl (zL rfl) (by unfold maxLen;omega) (by omega) HB.size ?_);intro v2 w2 kM pb;have bF:=ae (HB.grown pb HB.size (fun g hg=>(IC HO g hg).1));have lD:=ae (sK kM);clear kM pb;have hS2:S=lo+4294967296*hi:=by have:=NV.out;omega
   have SY:hi<2^s:=by
    obtain⟨h1,h2,_⟩:=NV.out;have h4:S<2^s*4294967296:=by
     have:d*2^s≤4294967295*2^s:=fg _ (by omega);rw[h2,h1];generalize 2^s=B at*
     omega
    generalize 2^s=B at*
    omega
   have lq:aE (es++[lo])+4294967296^(es.length+1)*hi=aE (ds.take (es.length+1))*2^s:=by
    obtain⟨h1,h2,_⟩:=NV.out;have hv:=hI.2.2.2;have hT:aE (ds.take (es.length+1))=aE (ds.take es.length)+4294967296^es.length*d:=by
     rw[jO hk,fM,HD.out,nO,mS (by omega)];simp[aE]
    rw[fM,hT,ep,ow];simp only[aE,mZ,iz];generalize 4294967296^es.length=B at*
    have e1:B*lo+B*4294967296*hi=B*S:=by rw[hS2,qY,cg]
    have e2:B*S=B*cy+B*d*2^s:=by rw[h2,h1,qY,cg]
    omega
   have AR:eu (es++[lo]):=fun x hx=>by
    rcases qV.1 hx with hx|hx
    ·exact hI.2.2.1 x hx
    ·obtain rfl:=xg.1 hx;have:=NV.2.2.1;omega
   have HF:=ae (And.intro lq (And.intro AR (And.intro SY NV.2.2.2.1)));clear lq AR SY hS2;go_wp2_with fail;refine⟨⟨hi,es++[lo],ae ⟨by simp;omega,HF.2.2.1,HF.2.1,by simp only[iF,ek,o8];exact HF.1⟩,?_,?_,ae ⟨?_,bF⟩⟩,?_⟩
   ·have:=HF.2.2.2;apply Sl;omega
   ·apply Sl;simp
   ·have:=lD.out;rw[FF.out,sY]at this;exact this
   ·exact gF hk
  ·have uT:es.length=ds.length:=by have:=hI.1;omega
   have p1:((es.length:Int)<(ds.length:Int))=False:=bT (by omega);have h31:2^s≤2147483648:=by
    have:2^s≤2^31:=dZ (by decide) (by omega);exact this
   have ag2:cy<4294967296:=by omega
   have q3:(cy:Int)%4294967296=(cy:Int):=by omega
   have q4:IntKind.u32.wrap (cy:Int)=(cy:Int):=by rw[qT];omega
   have HKE:=ae uT;clear uT;go_wp2_with (at_builtin;refine ib rfl (.tmp 40) (.tmp 43) 181 rfl w.heap.size 184 (.int .u32 0) 1 4 oF underlying181 rfl (by omega) _ _ _ rfl HO.own [.int .u32 (cy:Int)] rfl rfl (zL rfl) (by unfold maxLen;omega) (by omega) HB.size ?_);intro v2 w2 kM pb;have bF:=ae (HB.grown pb HB.size (fun g hg=>(IC HO g hg).1));have lD:=ae (sK kM);clear kM pb;have lq:aE (R++[cy])=aE ds*2^n:=by
    have hv:=hI.2.2.2;obtain⟨AE,_⟩:=HN.out;rw[HKE.out,qO]at hv;rw[FF.out,sY,CV,fM,HKE.out];simp only[aE,mZ,iz];rw[hv,AE,dV,Nat.pow_mul,show (2:Nat)^32=4294967296 by decide,qh]
   have AR:eu (R++[cy]):=fun x hx=>by
    rw[FF.out,sY]at hx;rcases qV.1 hx with hx|hx
    ·have:=(Oi.1 hx).2;omega
    ·rcases qV.1 hx with hx|hx
     ·exact hI.2.2.1 x hx
     ·obtain rfl:=xg.1 hx;exact ag2
   have H5:(R++[cy]).length≤1099511627776:=by simp only[iF,ek,o8];omega
   have HF:=ae (And.intro lq AR);clear lq AR;go_wp2_with fail;refine(lC _ w.heap.size _ _ lD H5).mono ?_;rintro e w3 ⟨⟨v3,fs,rfl,f1,f2,f3,f4⟩,rfl⟩;have HR:=ae (show (∃v es,Ending.returned v3= .returned v∧jl w3 w.heap.size v es∧aE es=aE ds*2^n∧Norm es∧eu es)∧Below w.heap.size w w3 from⟨⟨v3,fs,rfl,f1,f2.trans HF.1,f3,f4 HF.2⟩,bF⟩);clear f1 f2 f3 f4;go_wp2_with fail;go_ret;exact HR
def qF (a b:Nat):Int:=if a<b then-1 else if b<a then 1 else 0
theorem E0 (a:List Nat) {i:Nat} (h:i<a.length):aE a=aE (a.take i)+4294967296^i*(a[i]+4294967296*aE (a.drop (i+1))):=by
 have e:a=a.take i++(a[i]::a.drop (i+1)):=by
  rw[←o5 h,tn]
 conv=>lhs;rw[e]
 rw[fM,nO,mS (by omega),aE]
theorem TW (ha:eu a) {i:Nat} (h1:i<a.length) (h2:i<b.length) (hd:a.drop (i+1)=b.drop (i+1)) (aA:a[i]<b[i]):aE a<aE b:=by
 rw[E0 a h1,E0 b h2,hd];have ht:aE (a.take i)<4294967296^i:=by
  have:=pN (a.take i) fun x hx=>ha x (List.mem_of_mem_take hx)
  rw[nO,mS (by omega)]at this;exact this
 generalize 4294967296^i=B at*
 generalize aE (b.drop (i+1))=R;have h3:B*(a[i]+4294967296*R+1)≤B*(b[i]+4294967296*R):=tZ _ (by omega);rw[qY B _ 1]at h3;omega
theorem zg (ha:eu a) (hb:Norm b) (hl:a.length<b.length):aE a<aE b:=by
 have h1:=pN a ha;have h2:=Gn hb (by omega);have h3:4294967296^a.length≤4294967296^(b.length-1):=dZ (by decide) (by omega);omega
theorem zh (w:World) (va vb:Value) (xs ys:List Nat) (ha:pA w va xs) (hb:pA w vb ys) (Xn:eu xs) (H6:eu ys) (han:Norm xs) (RP:Norm ys) (hla:xs.length≤1099511627776) (Hi:ys.length≤1099511627776):
  Calls prog 152 #[va,vb] w fun e w'=>e= .returned (.int .i64 (qF (aE xs) (aE ys)))∧ ∃d,w'=w.drewN d:=by
 have FG:=ae (oW w va xs ha hla han);have HTB:=ae (oW w vb ys hb Hi RP);have HO:=ae (And.intro Xn (And.intro H6 (And.intro han RP)));obtain⟨ao,ca,rfl,hca⟩:=ha;obtain⟨bo,cb,rfl,hcb⟩:=hb;have HCA:=ae hca;have HCB:=ae hcb;clear hca hcb Xn H6 han RP;obtain⟨V,hV⟩: ∃V,V=qF (aE xs) (aE ys):=⟨_,rfl⟩;rw[←hV];have HV:=ae hV;clear hV;go_enter func152,ntmps152;go_wp2_with fail;refine FG.mono ?_;rintro e w' ⟨rfl,rfl⟩;go_wp2_with fail;refine HTB.mono ?_;rintro e w1 ⟨rfl,rfl⟩;by_cases hlen:xs.length=ys.length
 ·have p1:((xs.length:Int)=(ys.length:Int))=True:=aD (by omega);have WC:((xs.length:Int) != (ys.length:Int))=false:=by rw[hlen];exact bne_self_eq_false _
  have abb:=ae hlen;clear hlen;go_wp2_with fail;go_loopw [5] (fun t5 wr=> ∃(k d:Nat),Hid (k≤xs.length∧xs.drop k=ys.drop k∧wr=w1.drewN d)∧t5= .int .i64 ((k:Int)-1)) (fun t5 _=>(intOf t5+1).toNat)
  case atStart=>exact⟨xs.length,0,ae ⟨aS _,by rw[List.drop_length,abb.out,List.drop_length],rfl⟩,rfl⟩
  case round=>
   obtain⟨k,d,hI,rfl⟩:=hrel;have hw:=hI.2.2;subst hw;by_cases hk:0<k
   ·obtain⟨i,rfl⟩: ∃i,k=i+1:=⟨k-1,by omega⟩;have hia:i<xs.length:=by have:=hI.1;omega
    have ZK:i<ys.length:=by have:=abb.out;omega
    have ei:((i+1:Nat):Int)-1=(i:Int):=by omega
    rw[ei];clear ei;have p2:((0:Int)≤(i:Int))=True:=aD (by omega);obtain⟨ga,oa,rfl,hga,SZ⟩:=HCA i hia;obtain⟨gb,ob,rfl,hgb,S0⟩:=HCB i ZK;have ajV:=o5 hia;obtain⟨x,hx⟩: ∃x,x=xs[i]:=⟨_,rfl⟩;obtain⟨y,hy⟩: ∃y,y=ys[i]:=⟨_,rfl⟩;rw[←hx]at SZ;rw[←hy]at S0;have ZL:=ae (And.intro hx hy);have bi:i≤1099511627776:=by omega
    clear ajV hx hy hk;rcases Ed x y with WD|WD|WD
    ·have p3:((x:Int)<(y:Int))=True:=aD (by omega);have xr:V= -1:=by
      have:aE xs<aE ys:=TW HO.1 hia ZK hI.2.1 (by rw[←ZL.out.1,←ZL.out.2];exact WD);rw[HV.out,qF,az this]
     go_wp2_with fail;go_quiet (fail);go_wp2_with fail;go_ret;exact⟨(by first|rfl|(rw[xr];rfl)),_,(by first|rfl|(simp only[jP];rfl))⟩
    ·subst WD;have p3:((x:Int)<(x:Int))=False:=bT (by omega);go_wp2_with fail;go_quiet (fail);go_wp2_with fail;go_quiet (fail);go_wp2_with fail;have WE:xs.drop i=ys.drop i:=by
      rw[o5 hia,o5 ZK,hI.out.2.1,←ZL.out.1,←ZL.out.2]
     exact⟨⟨i,_,ae ⟨by omega,WE,rfl⟩,rfl⟩,by simp only[intOf];omega⟩
    ·have p3:((x:Int)<(y:Int))=False:=bT (by omega);have p4:((y:Int)<(x:Int))=True:=aD (by omega);have xr:V=1:=by
      have:aE ys<aE xs:=TW HO.2.1 ZK hia hI.2.1.symm (by rw[←ZL.out.1,←ZL.out.2];exact WD);rw[HV.out,qF,ah (by omega),az this]
     go_wp2_with fail;go_quiet (fail);go_wp2_with fail;go_quiet (fail);go_wp2_with fail;go_ret;exact⟨(by first|rfl|(rw[xr];rfl)),_,(by first|rfl|(simp only[jP];rfl))⟩
   ·have lK:k=0:=by omega
    subst lK;have xr:V=0:=by
     have h1:=hI.2.1;rw[mT,mT]at h1;rw[HV.out,h1,qF,ah (by omega),ah (by omega)]
    go_wp2_with fail;go_ret;exact⟨(by first|rfl|(rw[xr];rfl)),_,rfl⟩
 ·have p1:((xs.length:Int)=(ys.length:Int))=False:=bT (by omega);have WC:((xs.length:Int) != (ys.length:Int))=true:=by simpa using p1
  rcases dE xs.length ys.length with aA|lW
  ·have p2:((xs.length:Int)<(ys.length:Int))=True:=aD (by omega);have xr:V= -1:=by
    have:aE xs<aE ys:=zg HO.1 HO.2.2.2 aA;rw[HV.out,qF,az this]
   go_wp2_with fail;go_ret;exact⟨(by first|rfl|(rw[xr];rfl)),0,rfl⟩
  ·have p2:((xs.length:Int)<(ys.length:Int))=False:=bT (by omega);have xr:V=1:=by
    have:aE ys<aE xs:=zg HO.2.1 HO.2.2.1 (by omega);rw[HV.out,qF,ah (by omega),az this]
   go_wp2_with fail;go_ret;exact⟨(by first|rfl|(rw[xr];rfl)),0,rfl⟩
theorem BN: ∀(R:List Nat) (k x:Nat) (h:k<R.length),aE (R.set k x)+4294967296^k*R[k]=aE R+4294967296^k*x
 |[],k,x,h=>by simp at h
 |d::r,0,x,h=>by simp[aE];omega
 |d::r,k+1,x,h=>by
  have hk:k<r.length:=by simpa using h
  have ih:=BN r k x hk;simp only[dH,aE,List.getElem_cons_succ,ep];generalize 4294967296^k=B at*
  have e1:B*4294967296*r[k]=4294967296*(B*r[k]):=by simp only[cg,fx,qh]
  have e2:B*4294967296*x=4294967296*(B*x):=by simp only[cg,fx,qh]
  rw[e1,e2];omega
theorem GX (R:List Nat) (k x:Nat):(da R).set k (.int .u32 (x:Int))=da (R.set k x):=by simp[da,List.map_set]
theorem E1 (h:eu R) (hx:x<4294967296):eu (R.set k x):=fun d hd=>by
 rcases List.mem_or_eq_of_mem_set hd with h1|h1
 ·exact h d h1
 ·rw[h1];exact hx
theorem jl.set {w:World} {base g c:Nat} {R:List Nat} (h:jl w base (.slice (some ⟨g,0,none⟩) R.length c) R) (k x:Nat):jl (w.setCell ⟨g,k,none⟩ (.int .u32 (x:Int))) base (.slice (some ⟨g,0,none⟩) (R.set k x).length c) (R.set k x)∧w.grownBy (w.setCell ⟨g,k,none⟩ (.int .u32 (x:Int))) (some g):=by
 obtain⟨h1,h2⟩:=World.ownsRow.stored h.own k (.int .u32 (x:Int));rw[GX]at h1;refine⟨?_,h2⟩;unfold jl;rw[List.length_set];exact h1
structure kR (w wr:World) (xs ys R:List Nat) (c:Nat) (i j cy:Nat):Prop where
 own:jl wr w.heap.size (.slice (some ⟨w.heap.size,0,none⟩) R.length c) R
 len:R.length=xs.length+ys.length
 ok:eu R
 zero: ∀k (h:k<R.length),i+ys.length≤k→R[k]=0
 lt:cy<4294967296
 val:aE R+4294967296^(i+j)*cy=aE (xs.take i)*aE ys+4294967296^i*(xs.getD i 0*aE (ys.take j))
 below:Below w.heap.size w wr
theorem kR.drewN {w wr:World} {xs ys R:List Nat} {c i j cy:Nat} (h:kR w wr xs ys R c i j cy) (n:Nat):kR w (wr.drewN n) xs ys R c i j cy:=
 ⟨h.own,h.len,h.ok,h.zero,h.lt,h.val,bZ h.below n⟩
theorem kR.cell {w wr:World} {xs ys R:List Nat} {c i j cy:Nat} (h:kR w wr xs ys R c i j cy) {k:Nat} (hk:k<R.length):wr.cell? ⟨w.heap.size,k,none⟩=some (.int .u32 (R[k]:Int)):=by
 rw[It h.own.own k (by omega)];simp[da,hk]
theorem kR.frozen {w wr:World} {xs ys R:List Nat} {c i j cy:Nat} (h:kR w wr xs ys R c i j cy) (k:Nat):wr.frozen? ⟨w.heap.size,k,none⟩=false:=World.ownsRow.frozenAt h.own.own k
theorem kR.step {xs:List Nat} (h:kR w wr xs ys R c i j cy) (hi:i<xs.length) (hj:j<ys.length) {S:Nat} (hx:i+j<R.length) (hS:S=cy+(R[i+j]+xs[i]*ys[j])) (aba:S<18446744073709551616):
  kR w (wr.setCell ⟨w.heap.size,i+j,none⟩ (.int .u32 ((S%4294967296:Nat):Int))) xs ys (R.set (i+j) (S%4294967296)) c i (j+1) (S/4294967296):=by
 obtain⟨o1,o2⟩:=h.own.set (i+j) (S%4294967296);refine⟨o1,by rw[List.length_set];exact h.len,E1 h.ok (by omega),fun k hk hik=>?_,by omega,?_,h.below.grown o2 h.below.size (fun g hg=>by injection hg with hg;omega)⟩
 ·rw[List.getElem_set];rw[ah (by omega)];exact h.zero k (by simpa using hk) hik
 ·have h1:=BN R (i+j) (S%4294967296) hx;have h2:=h.val;have hT:aE (ys.take (j+1))=aE (ys.take j)+4294967296^j*ys[j]:=by
   rw[jO hj,fM,nO,mS (by omega)];simp[aE]
  have hg:xs.getD i 0=xs[i]:=by simp[List.getD,hi]
  rw[hg]at h2 ⊢
  rw[hT,qY,qY];have e0:4294967296^i*(xs[i]*(4294967296^j*ys[j]))=4294967296^(i+j)*(xs[i]*ys[j]):=by rw[dV];simp only[cg,fx,qh]
  rw[e0,←A6 i j 1,ep];generalize 4294967296^(i+j)=B at*
  have e1:B*S=B*cy+B*R[i+j]+B*(xs[i]*ys[j]):=by rw[hS,qY,qY];omega
  have e2:B*S=B*(S%4294967296)+B*4294967296*(S/4294967296):=by
   rw[cg,←qY,Nat.mod_add_div]
  omega
theorem kR.last {xs:List Nat} (h:kR w wr xs ys R c i ys.length cy) (hi:i<xs.length):
  kR w (wr.setCell ⟨w.heap.size,i+ys.length,none⟩ (.int .u32 (cy:Int))) xs ys (R.set (i+ys.length) cy) c (i+1) 0 0:=by
 obtain⟨o1,o2⟩:=h.own.set (i+ys.length) cy;have hx:i+ys.length<R.length:=by rw[h.len];omega
 refine⟨o1,by rw[List.length_set];exact h.len,E1 h.ok h.lt,fun k hk hik=>?_,by omega,?_,h.below.grown o2 h.below.size (fun g hg=>by injection hg with hg;omega)⟩
 ·rw[List.getElem_set];rw[ah (by omega)];exact h.zero k (by simpa using hk) (by omega)
 ·have h1:=BN R (i+ys.length) cy hx;have hz:=h.zero _ hx (aS _);rw[hz]at h1;have h2:=h.val;rw[qO]at h2;have hT:aE (xs.take (i+1))=aE (xs.take i)+4294967296^i*xs[i]:=by
   rw[jO hi,fM,nO,mS (by omega)];simp[aE]
  have hg:xs.getD i 0=xs[i]:=by simp[List.getD,hi]
  rw[hg]at h2;rw[hT];clear hT hg hz o1 o2 hx;have e0:aE (List.take 0 ys)=0:=rfl;rw[e0];clear e0;generalize 4294967296^(i+1+0)=P0;generalize 4294967296^(i+1)=P1;generalize 4294967296^(i+ys.length)=P at h1 h2;generalize 4294967296^i=Q at h2 ⊢
  rw[mZ,mZ,mZ,iz,iz];rw[mZ,iz]at h1;generalize aE (R.set (i+ys.length) cy)=Z at h1 ⊢
  rw[h1,h2,ow,cg]
theorem zj (w:World) (va vb:Value) (xs ys:List Nat) (ha:pA w va xs) (hb:pA w vb ys) (Xn:eu xs) (H6:eu ys) (hla:xs.length≤1099511627) (Hi:ys.length≤1099511627):
  Calls prog 130 #[va,vb] w (ik w (aE xs*aE ys)):=by
 obtain⟨ao,ca,rfl,hca⟩:=ha;obtain⟨bo,cb,rfl,hcb⟩:=hb;have HCA:=ae hca;have HCB:=ae hcb;have HO:=ae (And.intro Xn H6);clear hca hcb Xn H6;obtain⟨w1,Py,uW,aY⟩:=tP w (xs.length+ys.length) (xs.length+ys.length) (aS _) (by omega);have aeT:(Instr.makeSlice 181 (.int .i64 ((xs.length:Int)+(ys.length:Int))) (.int .i64 ((xs.length:Int)+(ys.length:Int)))).run prog w= .ok (.slice (some ⟨w.heap.size,0,none⟩) (xs.length+ys.length) (xs.length+ys.length)) w1:=Py;have hrl:(List.replicate (xs.length+ys.length) 0).length=xs.length+ys.length:=vq;have HI0:=ae (show kR w w1 xs ys (List.replicate (xs.length+ys.length) 0) (xs.length+ys.length) 0 0 0 from
  ⟨by rw[hrl];exact uW,hrl,fun d hd=>by have:=(Oi.1 hd).2;omega,fun k hk _=>by simp,by omega,by rw[pR _ fun d hd=>(Oi.1 hd).2];simp[aE],aY⟩)
 clear Py uW aY hrl;go_enter func130,ntmps130;go_wp2_with fail;go_loopw [6] (fun t6 wr=> ∃(i:Nat) (R:List Nat),Hid (i≤xs.length∧kR w wr xs ys R (xs.length+ys.length) i 0 0)∧t6= .int .i64 (i:Int)) (fun t6 _=>xs.length-(intOf t6).toNat)
 case atStart=>exact⟨0,_,ae ⟨aV _,HI0.out⟩,rfl⟩
 case round=>
  obtain⟨i,R0,hI,rfl⟩:=hrel;have HI:=ae hI.out.2;by_cases hi:i<xs.length
  ·have p1:((i:Int)<(xs.length:Int))=True:=aD (by omega);obtain⟨ga,oa,rfl,hga,SZ⟩:=HCA.out i hi;obtain⟨x,hx⟩: ∃x,x=xs[i]:=⟨_,rfl⟩;have ar7:x<4294967296:=by rw[hx];exact HO.out.1 _ (jj hi)
   rw[←hx]at SZ;have HX:=ae hx;have HXC:=ae SZ;have bi:i≤1099511627:=by omega
   have HIL:=ae hi;clear hx SZ hI;go_wp2_with fail;go_loopw [7,8] (fun t7 t8 wr=> ∃(j cy:Nat) (R:List Nat),Hid (j≤ys.length∧kR w wr xs ys R (xs.length+ys.length) i j cy)∧t7= .int .u64 (cy:Int)∧t8= .int .i64 (j:Int)) (fun _ t8 _=>ys.length-(intOf t8).toNat)
   case atStart=>
    have h0:=HI.out;exact⟨0,0,R0,ae ⟨aV _,h0⟩,rfl,rfl⟩
   case round=>
    obtain⟨j,cy,R,hJ,rfl,rfl⟩:=hrel;have HJ:=ae hJ.out.2;have hRl:=HJ.out.len;have hcy:=HJ.out.lt;by_cases hj:j<ys.length
    ·have p2:((j:Int)<(ys.length:Int))=True:=aD (by omega);obtain⟨gb,ob,rfl,hgb,S0⟩:=HCB.out j hj;obtain⟨y,hy⟩: ∃y,y=ys[j]:=⟨_,rfl⟩;have ar8:y<4294967296:=by rw[hy];exact HO.out.2 _ (jj hj)
     rw[←hy]at S0;have Xq:i+j<R.length:=by omega
     obtain⟨z,hz⟩: ∃z,z=R[i+j]:=⟨_,rfl⟩;have ar9:z<4294967296:=by rw[hz];exact HJ.out.ok _ (jj Xq)
     have cR:=HJ.out.cell Xq;rw[←hz]at cR;have cX:=(HJ.out.below.cell (p:=⟨ga,oa+i,none⟩) hga).trans HXC.out;have cY:=(HJ.out.below.cell (p:=⟨gb,ob+j,none⟩) hgb).trans S0;have fR:=HJ.out.frozen (i+j);obtain⟨P,hP⟩: ∃P,P=x*y:=⟨_,rfl⟩;have hP2:P≤18446744065119617025:=by
      have:x*y≤4294967295*4294967295:=ov (by omega) (by omega);omega
     obtain⟨Q,hQ⟩: ∃Q,Q=z+P:=⟨_,rfl⟩;obtain⟨S,hS⟩: ∃S,S=cy+Q:=⟨_,rfl⟩;have aba:S<18446744073709551616:=by omega
     have q1:IntKind.u64.wrap ((x:Int)*(y:Int))=(P:Int):=by rw[cZ,←yw,←hP];omega
     have q2:IntKind.u64.wrap ((z:Int)+(P:Int))=(Q:Int):=by rw[cZ];omega
     have q3:IntKind.u64.wrap ((cy:Int)+(Q:Int))=(S:Int):=by rw[cZ];omega
     obtain⟨lo,AG⟩: ∃lo,lo=S%4294967296:=⟨_,rfl⟩;have q4:IntKind.u32.wrap (S:Int)=(lo:Int):=by rw[qT];omega
     have rj: ∀n,kR w ((wr.drewN n).setCell ⟨w.heap.size,i+j,none⟩ (.int .u32 (lo:Int))) xs ys (R.set (i+j) lo) (xs.length+ys.length) i (j+1) (S/4294967296):=fun n=>by
      rw[AG];exact(HJ.out.drewN n).step HIL.out hj Xq (S:=S) (by rw[hS,hQ,hP,HX.out,hy,hz]) aba
     have hdiv:(S:Int)/4294967296=((S/4294967296:Nat):Int):=by omega
     have ag3:=ae rj;have ajW:=ae hdiv;have bj:j≤1099511627:=by omega
     have ara:i+j<xs.length+ys.length:=by omega
     have HJL:=ae hj;clear rj hdiv hz hy hP hQ hS S0 AG hP2 hRl;go_wp2_with fail;go_quiet (fail);go_wp2_with fail;exact⟨⟨j+1,S/4294967296,R.set (i+j) lo,ae ⟨HJL.out,ag3.out nq⟩,(by apply Sl;exact ajW.out),rfl⟩,gF HJL.out⟩
    ·have hje:j=ys.length:=by have:=hJ.out.1;omega
     have p2:((j:Int)<(ys.length:Int))=False:=bT (by omega);have Tt:=HJ.out;rw[hje]at Tt;have uR:=Tt.last HIL.out;have ZI:i+ys.length<R.length:=by have:=HIL.out;omega
     have cR:=HJ.out.cell ZI;have fR:=HJ.out.frozen (i+ys.length);have q4:IntKind.u32.wrap (cy:Int)=(cy:Int):=by rw[qT];omega
     have q5:(cy:Int)%4294967296=(cy:Int):=by omega
     have arb:i+ys.length<xs.length+ys.length:=by have:=HIL.out;omega
     have HL2:=ae uR;have HJE:=ae hje;generalize R[i+ys.length]=zz at cR;clear Tt uR hRl ZI;rw[HJE.out]at p2 ⊢
     go_wp2_with fail;exact⟨⟨i+1,_,ae ⟨HIL.out,HL2.out⟩,rfl⟩,gF HIL.out⟩
  ·have Lu:i=xs.length:=by have:=hI.out.1;omega
   have p1:((i:Int)<(xs.length:Int))=False:=bT (by omega);have mu:=HI.out;have lq:aE R0=aE xs*aE ys:=by
    have h1:=mu.val;rw[Lu,qO,show aE (List.take 0 ys)=0 from rfl]at h1;generalize 4294967296^(xs.length+0)=P1 at h1;generalize 4294967296^xs.length=P2 at h1;rw[mZ,mZ,mZ,iz,iz]at h1;exact h1
   have hOO:=mu.own;have hlen:=mu.len;rw[hlen]at hOO;have HOO:=ae hOO;have HF:=ae (And.intro lq (And.intro mu.ok mu.below));have H5:R0.length≤1099511627776:=by omega
   clear lq mu hOO hlen hI HI;go_wp2_with fail;refine(lC _ w.heap.size _ _ HOO.out H5).mono ?_;rintro e w3 ⟨⟨v3,fs,rfl,f1,f2,f3,f4⟩,rfl⟩;have HR:=ae (show (∃v es,Ending.returned v3= .returned v∧jl w3 w.heap.size v es∧aE es=aE xs*aE ys∧Norm es∧eu es)∧Below w.heap.size w w3 from⟨⟨v3,fs,rfl,f1,f2.trans HF.out.1,f3,f4 HF.out.2.1⟩,HF.out.2.2⟩);clear f1 f2 f3 f4;go_wp2_with fail;go_ret;exact HR.out
theorem Ga (n:Nat):10^n<4294967296^(n+1):=by
 have h1:(10:Nat)^n≤4294967296^n:=Nat.pow_le_pow_left (by decide) n;have h2:(4294967296:Nat)^n<4294967296^(n+1):=Nat.pow_lt_pow_right (by decide) (vu n);omega
structure PS (w wr:World) (v:Value) (n m:Nat) (es:List Nat):Prop where
 own:jl wr w.heap.size v es
 ok:eu es
 norm:Norm es
 val:aE es*10^m=10^n
 le:m≤n
 below:Below w.heap.size w wr
theorem PS.len (h:PS w wr v n m es):es.length≤n+1:=by
 apply mH h.norm;have h1:=Ga n;have h2:=h.val;have h3:aE es*1≤aE es*10^m:=tZ _ (eZ (by decide));omega
theorem E2 (w:World) (n:Nat) (hn:n≤1099511627):
  Calls prog 129 #[.int .u32 10,.int .i64 (n:Int)] w (ik w (10^n)):=by
 have uW:jl (w.alloc (.cells #[.int .u32 1] 184)) w.heap.size (.slice (some ⟨w.heap.size,0,none⟩) 1 1) [1]:=yr (e:=184) (size:=1) w #[.int .u32 1] 1 (aS _) (by unfold maxLen;omega) rfl;have HI0:=ae (show PS w (w.alloc (.cells #[.int .u32 1] 184)) (.slice (some ⟨w.heap.size,0,none⟩) 1 1) n n [1]from
  ⟨uW,fun d hd=>by simp at hd;omega,fun _=>by simp,by show (1+4294967296*0)*_=_;rw[mZ,iz,Bb],aS _,(aU _ _).alloc (aS _) _⟩)
 clear uW;go_enter func129,ntmps129;go_wp2_with fail;go_loopw [1,5] (fun t1 t5 wr=> ∃(m:Nat) (es:List Nat),Hid (PS w wr t5 n m es)∧t1= .int .i64 (m:Int)) (fun t1 _ _=>(intOf t1).toNat)
 case atStart=>exact⟨n,[1],HI0,rfl⟩
 case round=>
  obtain⟨m,es,HI,rfl⟩:=hrel;obtain⟨rv,rc,hrv⟩:=oS HI.own;subst hrv;have hmn:=HI.le;by_cases hm:0<m
  ·have p1:((0:Int)<(m:Int))=True:=aD (by omega);have HM:=ae hm;go_wp2_with fail;go_loopw [1,6,7] (fun t1 t6 t7 wx=> ∃(j m' k:Nat),Hid (j≤9∧m'+j=m∧k=10^j∧wx=wr)∧t1= .int .i64 (m':Int)∧t6= .int .u32 (k:Int)∧t7= .int .i64 (j:Int)) (fun _ _ t7 _=>9-(intOf t7).toNat)
   case atStart=>exact⟨0,m,1,ae ⟨by omega,rfl,rfl,rfl⟩,rfl,rfl,rfl⟩
   case round=>
    obtain⟨j,m',k,hJ,rfl,rfl,rfl⟩:=hrel;have hw:=hJ.2.2.2;subst hw;by_cases hj:j<9
    ·have p2:((j:Int)<9)=True:=aD (by omega);by_cases hm':0<m'
     ·have p3:((0:Int)<(m':Int))=True:=aD (by omega);have hk9:k≤100000000:=by
       have:k=10^j:=hJ.2.2.1;have h2:(10:Nat)^j≤10^8:=dZ (by decide) (by omega);have h3:(10:Nat)^8=100000000:=by decide
       omega
      have q1:IntKind.u32.wrap ((k:Int)*10)=((k*10:Nat):Int):=by rw[qT];omega
      have bm:m'≤1099511627:=by have:=hJ.2.1;omega
      go_wp2_with fail;refine⟨⟨j+1,m'-1,k*10,ae ⟨by omega,by have:=hJ.2.1;omega,by rw[hJ.out.2.2.1,ep],trivial⟩,?_,?_,rfl⟩,gF hj⟩
      ·apply Sl;omega
      ·apply Sl;omega
     ·have p3:((0:Int)<(m':Int))=False:=bT (by omega);go_wp2_with fail;have ht:Calls prog 139 #[.slice rv es.length rc,.int .u32 (k:Int),.int .u32 0] wr (ik wr (aE es*k+0)):=sL wr _ es k 0 HI.own.r HI.ok (by have:=HI.len;omega) (by
       have h1:k=10^j:=hJ.2.2.1;have h2:(10:Nat)^j≤10^9:=dZ (by decide) hJ.1;have h3:(10:Nat)^9=1000000000:=by decide
       omega) (by decide)
      refine ht.mono ?_;rintro e w2 ⟨⟨v2,fs,rfl,f1,f2,f3,f4⟩,hb⟩;have FT:PS w w2 v2 n m' fs:=by
       refine⟨cr f1 HI.below.size,f4,f3,?_,by have:=hJ.2.1;omega,HI.below.trans (hb.mono HI.below.size)⟩;have h1:k=10^j:=hJ.2.2.1;have h2:=HI.val;have h3:m=j+m':=by have:=hJ.2.1;omega
       rw[h3,dV]at h2;rw[f2,iz,h1,cg];exact h2
      have S4:=ae FT;have aA:m'<m:=by have:=hJ.2.1;have:=HM.out;omega
      clear f1 f2 f3 f4 hb FT ht;go_wp2_with fail;exact⟨⟨m',fs,S4,rfl⟩,by simp only[intOf];omega⟩
    ·have p2:((j:Int)<9)=False:=bT (by omega);go_wp2_with fail;have ht:Calls prog 139 #[.slice rv es.length rc,.int .u32 (k:Int),.int .u32 0] wr (ik wr (aE es*k+0)):=sL wr _ es k 0 HI.own.r HI.ok (by have:=HI.len;omega) (by
      have h1:k=10^j:=hJ.2.2.1;have h2:(10:Nat)^j≤10^9:=dZ (by decide) hJ.1;have h3:(10:Nat)^9=1000000000:=by decide
      omega) (by decide)
     refine ht.mono ?_;rintro e w2 ⟨⟨v2,fs,rfl,f1,f2,f3,f4⟩,hb⟩;have FT:PS w w2 v2 n m' fs:=by
      refine⟨cr f1 HI.below.size,f4,f3,?_,by have:=hJ.2.1;omega,HI.below.trans (hb.mono HI.below.size)⟩;have h1:k=10^j:=hJ.2.2.1;have h2:=HI.val;have h3:m=j+m':=by have:=hJ.2.1;omega
      rw[h3,dV]at h2;rw[f2,iz,h1,cg];exact h2
     have S4:=ae FT;have aA:m'<m:=by have:=hJ.2.1;have:=HM.out;omega
     clear f1 f2 f3 f4 hb FT ht;go_wp2_with fail;exact⟨⟨m',fs,S4,rfl⟩,by simp only[intOf];omega⟩
  ·have p1:((0:Int)<(m:Int))=False:=bT (by omega);have hm0:m=0:=by omega
   have hv:=HI.val;rw[hm0,o9,oj]at hv;have HV:=ae hv;clear hv;go_wp2_with fail;go_ret;exact⟨⟨_,es,rfl,HI.own,HV,HI.norm,HI.ok⟩,HI.below⟩
