import Derived.Test.YtcdoilkjmjbgmaaGreatDoorRows
import Derived.SliceStrings
import Derived.Deep.Slices
import Derived.OpenShut
import Derived.Carry
import Derived.Test.YtcdoilkjmjbgmaaGreatDoorR09
/- Part of the proof of YtcdoilkjmjbgmaaGreatDoorCardR: OpenA LawI LawG RbA RbB RbC RbD RbE RbF. -/
set_option maxRecDepth 100000
set_option maxHeartbeats 4000000
set_option linter.unusedVariables false
set_option linter.unusedSimpArgs false
namespace Go.Proofs.YtcdoilkjmjbgmaaGreatDoor
open Go.ChangeShapes Go.WideShapes Go.RowKit Go.Deep
variable {W:World} {a:Addr} {v:Value}
theorem Yy (h:W.cell? a=some v):a.block<W.heap.size:=by
 rcases dF a.block W.heap.size with ax|mg
 ·exact ax
 ·unfold World.cell? at h;rw[Be mg]at h;simp at h
end Go.Proofs.YtcdoilkjmjbgmaaGreatDoor
namespace Go.Proofs.YtcdoilkjmjbgmaaGreatDoor
open Go.RowKit
open Go.Proofs.Tryz
variable {v v' av bv wv:Value} {w0 w w' wr:World} {n1 n2 n3 n4 L base g n m c size k x d i j cy:Nat} {A B W X xs:List Value} {e:TypeId} {l ds es a b R ys:List Nat}
structure aaX (w0 w:World) (n1 n2 n3 n4:Nat) (av bv wv:Value) (L:Nat) (A B W:List Value):Prop where
 a:w.ownsRow n1 139 3 av L A
 b:w.ownsRow n1 139 3 bv L B
 wt:w.ownsRow n1 139 3 wv L W
 a2: ∀x,av.ownBlock=some x→x<n2
 b2: ∀x,bv.ownBlock=some x→n2≤x∧x<n3
 w2: ∀x,wv.ownBlock=some x→n3≤x∧x<n4
 o12:n1≤n2
 o23:n2≤n3
 o34:n3≤n4
 o4:n4≤w.heap.size
 below:Below n1 w0 w
structure ajC (w0 w:World) (n1 n2 n3 n4:Nat) (av bv wv gv hv:Value) (L:Nat) (A B W X Y:List Value) (gn hn:Nat):Prop where
 t:aaX w0 w n1 n2 n3 n4 av bv wv L A B W
 g:w.ownsRow n1 139 3 gv gn (A++X)
 h:w.ownsRow n1 139 3 hv hn (B++Y)
 ga: ∀x,gv.ownBlock=some x→x<n2∨n4≤x
 hb: ∀x,hv.ownBlock=some x→(n2≤x∧x<n3)∨n4≤x
 gh: ∀x,gv.ownBlock=some x→hv.ownBlock≠some x
theorem ix.block (h:ix v v'):v'.ownBlock=v.ownBlock:=by
 obtain⟨g,n,m,cap,rfl,rfl⟩:=h;rfl
theorem aaX.fY (h:aaX w0 w n1 n2 n3 n4 av bv wv L A B W):ajC w0 w n1 n2 n3 n4 av bv wv av bv L A B W [] [] L L:=
 ⟨h,by rw[mz];exact h.a,by rw[mz];exact h.b,fun x hx=>.inl (h.a2 x hx),fun x hx=>.inl (h.b2 x hx),fun x hx he=>by have:=h.a2 x hx;have:=h.b2 x he;omega⟩
def TC (w:World) (v:Value) (xs:List Row):Prop:=
 (v= .slice none 0 0∧xs=[])∨ ∃ad c,v= .slice (some ad) xs.length c∧ ∀j u,(QW xs)[j]? =some u→w.cell? (ad.add j)=some u
theorem TC.below {xs:List Row} (h:TC w v xs) (hb:Below w.heap.size w w'):TC w' v xs:=by
 rcases h with h|⟨ad,c,h1,h2⟩
 ·exact .inl h
 ·exact .inr ⟨ad,c,h1,fun j u hu=>by have h3:=h2 j u hu;rw[hb.cell (Yy h3)];exact h3⟩
theorem U2 (h:w.ownsRow base e size (.slice (some ⟨g,0,none⟩) n c) n (A++X)) (hm:m≤n) (hA:A.length=m*size):w.ownsRow base e size (.slice (some ⟨g,0,none⟩) m c) m A:=by
 refine⟨hA,?_⟩;rcases h.2 with⟨hv,_⟩|⟨g',cap,cur,hv,d1,d2,d3,d4,d5,d6⟩
 ·cases hv
 ·simp only[Value.slice.injEq,Bf,Addr.mk.injEq,kS,vZ]at hv;obtain⟨rfl,rfl⟩:=hv;refine .inr ⟨g,c,cur,rfl,d1,d2,bP hm d3,d4,d5,?_⟩;have h1:=cz (List.take (m*size)) d6;rw[List.take_take,mW (fi _ hm),←hA,List.take_left]at h1;rw[←hA];exact h1
theorem Yz (h:w.ownsRow base e size (.slice (some ⟨g,0,none⟩) n c) n xs):n≤c∧c≤maxLen:=by
 rcases h.2 with⟨hv,_⟩|⟨g',cap,cur,hv,d1,d2,d3,d4,d5,d6⟩
 ·cases hv
 ·simp only[Value.slice.injEq,Bf,Addr.mk.injEq,kS,vZ]at hv;obtain⟨rfl,rfl⟩:=hv;exact⟨d3,d4⟩
theorem oZ (h:w.ownsRow base e size v n xs): ∃ao c',v= .slice ao n c':=by
 rcases h.2 with⟨rfl,rfl⟩|⟨g,cap,cur,rfl,_⟩
 ·exact⟨_,_,rfl⟩
 ·exact⟨_,_,rfl⟩
def aC:List Nat→Nat
 |[]=>0
 |d::r=>d+4294967296*aC r
def eu (ds:List Nat):Prop:= ∀d∈ds,d<4294967296
def Norm (ds:List Nat):Prop:= ∀h:0<ds.length,ds[ds.length-1]≠0
def de (ds:List Nat):List Value:=ds.map fun(d:Nat)=>.int .u32 (d:Int)
theorem xk (ds:List Nat):(de ds).length=ds.length:=by simp[de]
def pN (w:World) (v:Value) (ds:List Nat):Prop:=
 ∃ao c,v= .slice ao ds.length c∧ ∀j (h:j<ds.length),∃g o,ao=some ⟨g,o,none⟩∧g<w.heap.size∧w.cell? ⟨g,o+j,none⟩=some (.int .u32 (ds[j]:Int))
theorem pN.below (h:pN w v l) (hb:Below w.heap.size w w'):pN w' v l:=by
 obtain⟨ao,c,rfl,hc⟩:=h;refine⟨ao,c,rfl,fun j hj=>?_⟩;obtain⟨g,o,rfl,hg,h1⟩:=hc j hj;exact⟨g,o,rfl,gU hg hb.size,(hb.cell (p:=⟨g,_,none⟩) hg).trans h1⟩
def jv (w:World) (base:Nat) (v:Value) (ds:List Nat):Prop:=w.ownsRow base 184 1 v ds.length (de ds)
theorem jv.own (h:jv w base v ds):w.ownsRow base 184 1 v ds.length (de ds):=h
theorem jv.r (h:jv w base v ds):pN w v ds:=by
 obtain⟨ao,c,rfl⟩:=oZ h;refine⟨ao,c,rfl,fun j hj=>?_⟩;obtain⟨g,rfl,_,hg⟩:=Cb h (by omega);refine⟨g,0,rfl,hg,?_⟩;rw[kP,IY h j (by omega)];simp[de,hj]
theorem jv.below (h:jv w base v ds) (hb:Below w.heap.size w w'):jv w' base v ds:=bf h hb
theorem fU: ∀(a b:List Nat),aC (a++b)=aC a+4294967296^a.length*aC b
 |[],b=>by simp[aC]
 |d::r,b=>by
  rw[py,aC,aC,fU r b,dZ,et,rC,fA (4294967296^r.length) 4294967296,ct];omega
theorem qf: ∀(a:List Nat),(∀d∈a,d=0)→aC a=0
 |[],_=>rfl
 |d::r,h=>by rw[aC,qf r fun x hx=>h x (by simp[hx]),h d (by simp)]
theorem qb: ∀(a:List Nat),eu a→aC a<4294967296^a.length
 |[],_=>by simp[aC]
 |d::r,h=>by
  have ih:=qb r fun x hx=>h x (by simp[hx])
  have hd:=h d (by simp);rw[aC,dZ,et];omega
theorem GM (h:Norm ds) (hp:0<ds.length):4294967296^(ds.length-1)≤aC ds:=by
 have hl:=h hp;have e:ds=ds.take (ds.length-1)++[ds[ds.length-1]]:=by
  rw[←jy (by omega),show ds.length-1+1=ds.length by omega,qO]
 rw[e,fU];simp only[aC,nU];rw[mW (by omega)];have h2:4294967296^(ds.length-1)*1≤4294967296^(ds.length-1)*(ds[ds.length-1]+4294967296*0):=uE _ (by omega);simp only[iJ,nU,dZ,nW]at h2 ⊢
 rw[show min (ds.length-1) ds.length+(0+1)-1=ds.length-1 by omega];omega
theorem mL (h:Norm ds) {k:Nat} (hv:aC ds<4294967296^k):ds.length≤k:=by
 rcases jS ds.length with h0|h0
 ·omega
 ·have h1:=GM h h0;rcases dF k ds.length with hk|hk
  ·have:4294967296^k≤4294967296^(ds.length-1):=ek (by decide) (by omega);omega
  ·exact hk
def TD (ds:List Nat) (k:Nat):Prop:=k≤ds.length∧(∀j (h:j<ds.length),k≤j→ds[j]=0)∧ ∀h:k-1<ds.length,0<k→ds[k-1]≠0
theorem TD.val (h:TD ds k):aC (ds.take k)=aC ds∧Norm (ds.take k)∧(ds.take k).length=k:=by
 obtain⟨h1,h2,h3⟩:=h;have hl:(ds.take k).length=k:=by simp;omega
 refine⟨?_,?_,hl⟩
 ·have e:ds=ds.take k++ds.drop k:=(DN k ds).symm
  conv=>rhs;rw[e]
  rw[fU,qf (ds.drop k),nh,iK];intro d hd;obtain⟨j,hj,rfl⟩:=List.mem_iff_getElem.1 hd;rw[vR];exact h2 _ _ (by omega)
 ·intro hp;rw[I3];simp only[hl];exact h3 _ (by omega)
theorem zA (w:World) (ao:Option Addr) (n c:Nat) (ds:List Nat) (h:pN w (.slice ao n c) ds) (hn:ds.length≤1099511627776) (hc:Norm ds∨ds.length≤c∧c≤maxLen):
  Calls prog 140 #[.slice ao n c] w fun e w'=>(∃k,TD ds k∧e= .returned (.slice ao k c))∧w'=w:=by
 obtain⟨ao',c',he,fp⟩:=h;obtain⟨rfl,rfl,rfl⟩:ao=ao'∧n=ds.length∧c=c':=by injection he with h1 h2 h3;exact⟨h1,h2,h3⟩
 have HC:=aa fp;have HCC:=aa hc;clear fp he hc;go_enter func140,ntmps140;go_wp2_with fail;go_loopw [0] (fun t0 wr=> ∃k:Nat,Hid ((k≤ds.length∧ ∀j (h:j<ds.length),k≤j→ds[j]=0)∧wr=w)∧t0= .slice ao k c) (fun t0 _=>match t0 with| .slice _ k _=>k|_=>0)
 case atStart=>exact⟨ds.length,aa ⟨⟨aS _,fun j h1 h2=>by omega⟩,rfl⟩,rfl⟩
 case round=>
  obtain⟨k,hI,rfl⟩:=hrel;have hw:=hI.2;subst hw;by_cases hk:0<k
  ·have p1:((0:Int)<(k:Int))=True:=aA (by omega);have qY:k-1<ds.length:=by have:=hI.1.1;omega
   obtain⟨g,o,rfl,hg,ng⟩:=HC (k-1) qY;have e1:((k:Int)-1).toNat=k-1:=by omega
   have bk:k≤1099511627776:=by omega
   by_cases hz:ds[k-1]=0
   ·rw[hz]at ng;have uH:k≤c∧c≤maxLen:=by
     rcases HCC.out with hn'|hn'
     ·exfalso;rcases dF k ds.length with ax|mg
      ·have:=hI.1.2 (ds.length-1) (by omega) (by omega);exact hn' (by omega) this
      ·have:k=ds.length:=by have:=hI.1.1;omega
       subst this;exact hn' hk hz
     ·have:=hI.1.1;omega
    unfold maxLen at uH;go_wp2_with fail;exact⟨⟨k-1,aa ⟨⟨by omega,fun j h1 h2=>by
     by_cases hj:j=k-1
     ·subst hj;exact hz
     ·exact hI.1.2 j h1 (by omega)⟩,trivial⟩,rfl⟩,by show k-1<k;omega⟩
   ·have p2:(((ds[k-1]:Nat):Int)=0)=False:=bU (by omega);go_wp2_with fail;go_ret;exact⟨⟨k,⟨hI.1.1,hI.1.2,fun _ _=>hz⟩,rfl⟩,rfl⟩
  ·have lS:k=0:=by omega
   subst lS;go_wp2_with fail;go_ret;exact⟨⟨0,⟨dQ _,hI.1.2,fun _ h=>absurd h (by decide)⟩,rfl⟩,rfl⟩
theorem lN (w:World) (base:Nat) (v:Value) (ds:List Nat) (h:jv w base v ds) (hn:ds.length≤1099511627776):
  Calls prog 140 #[v] w fun e w'=>(∃v' es,e= .returned v'∧jv w base v' es∧aC es=aC ds∧Norm es∧(eu ds→eu es))∧w'=w:=by
 obtain⟨ao,c,rfl⟩:=oZ h;have uH:Norm ds∨ds.length≤c∧c≤maxLen:=by
  rcases jS ds.length with h0|h0
  ·exact .inl fun h=>by omega
  ·obtain⟨g,rfl,_⟩:=Cb h h0;exact .inr (Yz h)
 refine(zA w ao ds.length c ds h.r hn uH).mono ?_;rintro e w' ⟨⟨k,hk,rfl⟩,rfl⟩;obtain⟨v1,v2,v3⟩:=hk.val;refine⟨⟨_,ds.take k,rfl,?_,v1,v2,fun cJ d hd=>cJ d (List.mem_of_mem_take hd)⟩,rfl⟩;rcases jS ds.length with h0|h0
 ·have lS:k=ds.length:=by have:=hk.1;omega
  rw[lS,qO];exact h
 ·obtain⟨g,rfl,_⟩:=Cb h h0;have e:de ds=de (ds.take k)++de (ds.drop k):=by rw[de,de,de,←mX,DN]
  have h':=h;unfold jv at h';rw[e]at h';have:=U2 (m:=k) h' (by have:=hk.1;omega) (by rw[xk,v3];omega);unfold jv;rw[v3];exact this
theorem o9 (w:World) (v:Value) (ds:List Nat) (h:pN w v ds) (hn:ds.length≤1099511627776) (hd:Norm ds):
  Calls prog 140 #[v] w fun e w'=>e= .returned v∧w'=w:=by
 obtain⟨ao,c,rfl,hc⟩:=h;refine(zA w ao ds.length c ds ⟨ao,c,rfl,hc⟩ hn (.inl hd)).mono ?_;rintro e w' ⟨⟨k,hk,rfl⟩,rfl⟩;have:k=ds.length:=by
  rcases dF k ds.length with ax|mg
  ·exact absurd (hk.2.1 (ds.length-1) (by omega) (by omega)) (hd (by omega))
  ·have:=hk.1;omega
 rw[this];exact⟨rfl,rfl⟩
theorem oM:(prog.info? 184).map (fun i=>(i.zero,i.size,i.bytes))=some (some (.int .u32 0),1,4):=by kernel_rfl
def iy (w:World) (V:Nat) (e:Ending) (w':World):Prop:=
 (∃v es,e= .returned v∧jv w' w.heap.size v es∧aC es=V∧Norm es∧eu es)∧Below w.heap.size w w'
theorem tc (h:w.ownsRow base 184 1 v (es.length+1) (de es++[.int .u32 (x:Int)])):jv w base v (es++[x]):=by
 unfold jv;rw[iJ];have:de (es++[x])=de es++[.int .u32 (x:Int)]:=by simp[de]
 rw[this];exact h
theorem Nn (hd:d<4294967296) (hm:m<4294967296) (hc:c<4294967296):c+d*m<18446744073709551616:=by
 have:d*m≤4294967295*4294967295:=oA (by omega) (by omega);omega
theorem td (w:World) (v:Value) (ds:List Nat) (m c:Nat) (h:pN w v ds) (cJ:eu ds) (hn:ds.length≤1099511627775) (hm:m<4294967296) (hc:c<4294967296):
  Calls prog 139 #[v,.int .u32 (m:Int),.int .u32 (c:Int)] w (iy w (aC ds*m+c)):=by
 obtain⟨ao,cap,rfl,fp⟩:=h;have HC:=aa fp;have FW:=aa cJ;clear fp cJ;obtain⟨i0,tE,lB,cK,ep⟩:=kR oM;obtain⟨w1,PU,aL,jw⟩:=run_make_own (P:=prog) w w.heap.size 181 184 i0 _ 1 underlying181 tE lB cK .i64 .i64 (ds.length+1) (by rw[ep];omega) (by unfold maxLen;omega) (aS _);have aeI:(Instr.makeSlice 181 (.int .i64 0) (.int .i64 ((ds.length:Int)+1))).run prog w= .ok (.slice (some ⟨w.heap.size,0,none⟩) 0 (ds.length+1)) w1:=PU;have qW:=aa (show jv w1 w.heap.size (.slice (some ⟨w.heap.size,0,none⟩) 0 (ds.length+1)) []from aL);have cn:=aa ((aV w.heap.size w).grown jw (aS _) (fun g hg=>by cases hg));clear PU aL jw;go_enter func139,ntmps139;go_wp2_with fail;go_loopw [7,8,9] (fun t7 t8 t9 wr=> ∃(k cy:Nat) (es:List Nat),Hid (k≤ds.length∧cy<4294967296∧es.length=k∧eu es∧aC es+4294967296^k*cy=aC (ds.take k)*m+c)∧t8= .int .u64 (cy:Int)∧t9= .int .i64 (k:Int)∧Hid (jv wr w.heap.size t7 es∧Below w.heap.size w wr)) (fun _ _ t9 _=>ds.length-(intOf t9).toNat)
 case atStart=>exact⟨0,c,[],aa ⟨dQ _,hc,rfl,(fun d hd=>by cases hd),by simp[aC]⟩,rfl,rfl,aa ⟨qW,cn⟩⟩
 case round=>
  obtain⟨k,cy,es,hI,rfl,rfl,hB⟩:=hrel;have Og:=hI.2.2.1;subst Og;obtain⟨rv,rc,hrv⟩:=oZ hB.1;subst hrv;have HO:=aa hB.1;have HB:=aa hB.2;have hcy:=hI.2.1;clear hB;by_cases hk:es.length<ds.length
  ·have p1:((es.length:Int)<(ds.length:Int))=True:=aA (by omega);obtain⟨g,o,rfl,hg,ng⟩:=HC es.length hk;have Qh:=(HB.cell (p:=⟨g,o+es.length,none⟩) hg).trans ng;obtain⟨d,hd⟩: ∃d,d=ds[es.length]:=⟨_,rfl⟩;have aeJ:d<4294967296:=by rw[hd];exact FW _ (jz hk)
   rw[←hd]at Qh;have hmul:=Nn aeJ hm hcy;obtain⟨P,hP⟩: ∃P,P=d*m:=⟨_,rfl⟩;obtain⟨S,hS⟩: ∃S,S=cy+P:=⟨_,rfl⟩;have q1:IntKind.u64.wrap ((d:Int)*(m:Int))=(P:Int):=by rw[dc,←yQ,←hP];omega
   have q2:IntKind.u64.wrap ((cy:Int)+(P:Int))=(S:Int):=by rw[dc];omega
   obtain⟨lo,AT⟩: ∃lo,lo=S%4294967296:=⟨_,rfl⟩;obtain⟨hi,tj⟩: ∃hi,hi=S/4294967296:=⟨_,rfl⟩;have q3:IntKind.u32.wrap (S:Int)=(lo:Int):=by rw[rr];omega
   have HD:=aa hd;have Oj:=aa (And.intro hP (And.intro hS (And.intro AT (And.intro tj hmul))));clear ng hd hP hS AT tj;go_wp2_with (at_builtin;refine ir rfl (.tmp 32) (.tmp 35) 181 rfl w.heap.size 184 (.int .u32 0) 1 4 oM underlying181 rfl (by omega) _ _ _ rfl HO.own [.int .u32 (lo:Int)] rfl rfl (zZ rfl) (by unfold maxLen;omega) (by omega) HB.size ?_);intro v2 w2 kV pD;have bC:=aa (HB.grown pD HB.size (fun g hg=>(I9 HO g hg).1));have kt:=aa (tc kV);clear kV pD;have lT:aC (es++[lo])+4294967296^(es.length+1)*hi=aC (ds.take (es.length+1))*m+c:=by
    obtain⟨h1,h2,h3,h4,_⟩:=Oj.out;have hv:=hI.2.2.2.2;have hT:aC (ds.take (es.length+1))=aC (ds.take es.length)+4294967296^es.length*d:=by
     rw[jy hk,fU,HD.out,nU,mW (by omega)];simp[aC]
    have hS2:S=lo+4294967296*hi:=by omega
    rw[fU,hT,et,oB];simp only[aC,nh,iK];generalize 4294967296^es.length=B at*
    have e1:B*lo+B*4294967296*hi=B*S:=by rw[hS2,rC,ct]
    have e2:B*S=B*cy+B*d*m:=by rw[h2,h1,rC,ct]
    omega
   have A8:eu (es++[lo]):=fun x hx=>by
    rcases qx.1 hx with hx|hx
    ·exact hI.2.2.2.1 x hx
    ·obtain rfl:=xD.1 hx;have:=Oj.2.2.1;omega
   have tj:hi<4294967296∧hi=S/4294967296:=⟨by have:=Oj.out;omega,Oj.2.2.2.1⟩;have HF:=aa (And.intro lT (And.intro A8 tj));clear lT A8 tj;go_wp2_with fail;refine⟨⟨es.length+1,hi,es++[lo],aa ⟨hk,HF.2.2.1,by simp,HF.2.1,HF.1⟩,?_,rfl,aa ⟨kt,bC⟩⟩,gN hk⟩;have:=HF.2.2.2;apply Xj;omega
  ·have uv:es.length=ds.length:=by have:=hI.1;omega
   have p1:((es.length:Int)<(ds.length:Int))=False:=bU (by omega);have q3:IntKind.u32.wrap (cy:Int)=(cy:Int):=by rw[rr];omega
   have bl:es.length≤1099511627775:=by omega
   have HKE:=aa uv;clear uv;go_wp2_with (at_builtin;refine ir rfl (.tmp 39) (.tmp 42) 181 rfl w.heap.size 184 (.int .u32 0) 1 4 oM underlying181 rfl (by omega) _ _ _ rfl HO.own [.int .u32 (cy:Int)] rfl rfl (zZ rfl) (by unfold maxLen;omega) (by omega) HB.size ?_);intro v2 w2 kV pD;have bC:=aa (HB.grown pD HB.size (fun g hg=>(I9 HO g hg).1));have kt:=aa (tc kV);clear kV pD;have lT:aC (es++[cy])=aC ds*m+c:=by
    have hv:=hI.2.2.2.2;rw[HKE.out,qO]at hv;rw[fU,HKE.out];simp only[aC,nh,iK];exact hv
   have A8:eu (es++[cy]):=fun x hx=>by
    rcases qx.1 hx with hx|hx
    ·exact hI.2.2.2.1 x hx
    ·obtain rfl:=xD.1 hx;exact hcy
   have Iw:(es++[cy]).length≤1099511627776:=by simp only[iJ,dZ,nW];omega
   have HF:=aa (And.intro lT A8);clear lT A8;go_wp2_with fail;refine(lN _ w.heap.size _ _ kt Iw).mono ?_;rintro e w3 ⟨⟨v3,fs,rfl,f1,f2,f3,f4⟩,rfl⟩;have HR:=aa (show (∃v es,Ending.returned v3= .returned v∧jv w3 w.heap.size v es∧aC es=aC ds*m+c∧Norm es∧eu es)∧Below w.heap.size w w3 from⟨⟨v3,fs,rfl,f1,f2.trans HF.1,f3,f4 HF.2⟩,bC⟩);clear f1 f2 f3 f4;go_wp2_with fail;go_ret;exact HR
theorem Dp (k:Nat) (b:List Nat):aC (List.replicate k 0++b)=4294967296^k*aC b:=by
 rw[fU,qf _ fun d hd=>(I2.1 hd).2,vP,kP]
theorem uj (w:World) (q c:Nat) (hq:q≤c) (hc:c≤1099511627776):
  ∃w1,(Instr.makeSlice 181 (.int .i64 (q:Int)) (.int .i64 (c:Int))).run prog w= .ok (.slice (some ⟨w.heap.size,0,none⟩) q c) w1∧jv w1 w.heap.size (.slice (some ⟨w.heap.size,0,none⟩) q c) (List.replicate q 0)∧Below w.heap.size w w1:=by
 obtain⟨i0,tE,lB,cK,ep⟩:=kR oM;have hr:=run_make (P:=prog) w 181 184 i0 _ underlying181 tE lB .i64 .i64 (q:Int) (c:Int) (by omega) (by omega) (by rw[ep];omega) (by omega);rw[my,my,cK,ow]at hr;refine⟨_,hr,?_,(aV _ _).alloc (aS _) _⟩;have ng:(madeCells (Value.int .u32 0).cells c).toList=List.replicate c (.int .u32 0):=toList_madeCells_one _ _;refine⟨by rw[xk];simp,.inr ⟨w.heap.size,c,_,by rw[vP],aS _,heap_alloc_new w _,by rw[vP];exact hq,by unfold maxLen;omega,?_,?_⟩⟩
 ·rw[←Array.length_toList,ng];simp
 ·rw[ng,vP,ow,List.take_replicate,mW hq];simp[de]
theorem zB (w:World) (v:Value) (ds:List Nat) (n:Nat) (h:pN w v ds) (cJ:eu ds) (hl:ds.length≤1099511627) (hn:n≤1099511627):
  Calls prog 153 #[v,.int .i64 (n:Int)] w (iy w (aC ds*2^n)):=by
 obtain⟨ao,cap,rfl,fp⟩:=h;have HC:=aa fp;have FW:=aa cJ;clear fp cJ;obtain⟨q,hq⟩: ∃q,q=n/32:=⟨_,rfl⟩;obtain⟨s,hs⟩: ∃s,s=n%32:=⟨_,rfl⟩;obtain⟨w1,PU,vu,aW⟩:=uj w q (ds.length+q+1) (by omega) (by omega);have aeI:(Instr.makeSlice 181 (.int .i64 (q:Int)) (.int .i64 ((ds.length:Int)+(q:Int)+1))).run prog w= .ok (.slice (some ⟨w.heap.size,0,none⟩) q (ds.length+q+1)) w1:=PU;have eq1:(n:Int)/32=(q:Int):=by omega
 have eq2:(n:Int)%32=(s:Int):=by omega
 have qW:=aa vu;have cn:=aa aW;have HN:=aa (show n=32*q+s∧s<32 by omega);have ar1:s<32:=by omega
 have ar2:q≤1099511627:=by omega
 clear PU vu aW hq hs;go_enter func153,ntmps153;go_wp2_with fail;go_loopw [5,6,7] (fun t5 t6 t7 wr=> ∃(cy:Nat) (es:List Nat),Hid (es.length≤ds.length∧cy<2^s∧eu es∧aC es+4294967296^es.length*cy=aC (ds.take es.length)*2^s)∧t6= .int .u64 (cy:Int)∧t7= .int .i64 (es.length:Int)∧Hid (jv wr w.heap.size t5 (List.replicate q 0++es)∧Below w.heap.size w wr)) (fun _ _ t7 _=>ds.length-(intOf t7).toNat)
 case atStart=>exact⟨0,[],aa ⟨dQ _,fb (by decide),(fun d hd=>by cases hd),by simp[aC]⟩,rfl,rfl,aa ⟨by rw[mz];exact qW,cn⟩⟩
 case round=>
  obtain⟨cy,es,hI,rfl,rfl,hB⟩:=hrel;have Iy:=hB.1;have hRl:(List.replicate q 0++es).length≤2199023254:=by have:=hI.1;simp;omega
  obtain⟨R,hR⟩: ∃R,R=List.replicate q 0++es:=⟨_,rfl⟩;rw[←hR]at Iy hRl;obtain⟨rv,rc,hrv⟩:=oZ Iy;subst hrv;have HO:=aa Iy;have HB:=aa hB.2;have FY:=aa hR;have hcy:=hI.2.1;clear hB Iy hR;by_cases hk:es.length<ds.length
  ·have p1:((es.length:Int)<(ds.length:Int))=True:=aA (by omega);obtain⟨g,o,rfl,hg,ng⟩:=HC es.length hk;have Qh:=(HB.cell (p:=⟨g,o+es.length,none⟩) hg).trans ng;obtain⟨d,hd⟩: ∃d,d=ds[es.length]:=⟨_,rfl⟩;have aeJ:d<4294967296:=by rw[hd];exact FW _ (jz hk)
   rw[←hd]at Qh;have HD:=aa hd;clear ng hd;obtain⟨P,hP⟩: ∃P,P=d*2^s:=⟨_,rfl⟩;have h31:2^s≤2147483648:=by
    have:2^s≤2^31:=ek (by decide) (by omega);exact this
   have aeK:P<9223372036854775808:=by
    have h1:d*2^s≤4294967295*2147483648:=oA (by omega) h31;omega
   obtain⟨S,hS⟩: ∃S,S=cy+P:=⟨_,rfl⟩;have q1:IntKind.u64.wrap ((d:Int)*2^s)=(P:Int):=by
    have e:(d:Int)*2^s=(P:Int):=by rw[hP];simp
    rw[e,dc];omega
   have q2:bits .or .u64 (cy:Int) (P:Int)=(S:Int):=by
    rw[bits_or_u64_nat cy P (by omega) (by omega),hS];have:=IU (i:=s) (b:=cy) hcy d;rw[Nat.or_comm,hP,fA d,←this,Bm]
   obtain⟨lo,AT⟩: ∃lo,lo=S%4294967296:=⟨_,rfl⟩;obtain⟨hi,tj⟩: ∃hi,hi=S/4294967296:=⟨_,rfl⟩;have q3:(S:Int)%4294967296=(lo:Int):=by omega
   have q4:IntKind.u32.wrap (S:Int)=(lo:Int):=by rw[rr];omega
   have aaY:S<18446744073709551616:=by omega
   have Oj:=aa (And.intro hP (And.intro hS (And.intro AT (And.intro tj aeK))));clear hP hS AT tj aeK;go_wp2_with (at_builtin;refine ir rfl (.tmp 33) (.tmp 36) 181 rfl w.heap.size 184 (.int .u32 0) 1 4 oM underlying181 rfl (by omega) _ _ _ rfl HO.own [.int .u32 (lo:Int)] rfl rfl (zZ rfl) (by unfold maxLen;omega) (by omega) HB.size ?_);intro v2 w2 kV pD;have bC:=aa (HB.grown pD HB.size (fun g hg=>(I9 HO g hg).1));have kt:=aa (tc kV);clear kV pD;have hS2:S=lo+4294967296*hi:=by have:=Oj.out;omega
   have Tc:hi<2^s:=by
    obtain⟨h1,h2,_⟩:=Oj.out;have h4:S<2^s*4294967296:=by
     have:d*2^s≤4294967295*2^s:=fi _ (by omega);rw[h2,h1];generalize 2^s=B at*
     omega
    generalize 2^s=B at*
    omega
   have lT:aC (es++[lo])+4294967296^(es.length+1)*hi=aC (ds.take (es.length+1))*2^s:=by
    obtain⟨h1,h2,_⟩:=Oj.out;have hv:=hI.2.2.2;have hT:aC (ds.take (es.length+1))=aC (ds.take es.length)+4294967296^es.length*d:=by
     rw[jy hk,fU,HD.out,nU,mW (by omega)];simp[aC]
    rw[fU,hT,et,oB];simp only[aC,nh,iK];generalize 4294967296^es.length=B at*
    have e1:B*lo+B*4294967296*hi=B*S:=by rw[hS2,rC,ct]
    have e2:B*S=B*cy+B*d*2^s:=by rw[h2,h1,rC,ct]
    omega
   have A8:eu (es++[lo]):=fun x hx=>by
    rcases qx.1 hx with hx|hx
    ·exact hI.2.2.1 x hx
    ·obtain rfl:=xD.1 hx;have:=Oj.2.2.1;omega
   have HF:=aa (And.intro lT (And.intro A8 (And.intro Tc Oj.2.2.2.1)));clear lT A8 Tc hS2;go_wp2_with fail;refine⟨⟨hi,es++[lo],aa ⟨by simp;omega,HF.2.2.1,HF.2.1,by simp only[iJ,dZ,nW];exact HF.1⟩,?_,?_,aa ⟨?_,bC⟩⟩,?_⟩
   ·have:=HF.2.2.2;apply Xj;omega
   ·apply Xj;simp
   ·have:=kt.out;rw[FY.out,tx]at this;exact this
   ·exact gN hk
  ·have uv:es.length=ds.length:=by have:=hI.1;omega
   have p1:((es.length:Int)<(ds.length:Int))=False:=bU (by omega);have h31:2^s≤2147483648:=by
    have:2^s≤2^31:=ek (by decide) (by omega);exact this
   have afN:cy<4294967296:=by omega
   have q3:(cy:Int)%4294967296=(cy:Int):=by omega
   have q4:IntKind.u32.wrap (cy:Int)=(cy:Int):=by rw[rr];omega
   have HKE:=aa uv;clear uv;go_wp2_with (at_builtin;refine ir rfl (.tmp 40) (.tmp 43) 181 rfl w.heap.size 184 (.int .u32 0) 1 4 oM underlying181 rfl (by omega) _ _ _ rfl HO.own [.int .u32 (cy:Int)] rfl rfl (zZ rfl) (by unfold maxLen;omega) (by omega) HB.size ?_);intro v2 w2 kV pD;have bC:=aa (HB.grown pD HB.size (fun g hg=>(I9 HO g hg).1));have kt:=aa (tc kV);clear kV pD;have lT:aC (R++[cy])=aC ds*2^n:=by
    have hv:=hI.2.2.2;obtain⟨AR,_⟩:=HN.out;rw[HKE.out,qO]at hv;rw[FY.out,tx,Dp,fU,HKE.out];simp only[aC,nh,iK];rw[hv,AR,ee,Nat.pow_mul,show (2:Nat)^32=4294967296 by decide,qv]
   have A8:eu (R++[cy]):=fun x hx=>by
    rw[FY.out,tx]at hx;rcases qx.1 hx with hx|hx
    ·have:=(I2.1 hx).2;omega
    ·rcases qx.1 hx with hx|hx
     ·exact hI.2.2.1 x hx
     ·obtain rfl:=xD.1 hx;exact afN
   have Iw:(R++[cy]).length≤1099511627776:=by simp only[iJ,dZ,nW];omega
   have HF:=aa (And.intro lT A8);clear lT A8;go_wp2_with fail;refine(lN _ w.heap.size _ _ kt Iw).mono ?_;rintro e w3 ⟨⟨v3,fs,rfl,f1,f2,f3,f4⟩,rfl⟩;have HR:=aa (show (∃v es,Ending.returned v3= .returned v∧jv w3 w.heap.size v es∧aC es=aC ds*2^n∧Norm es∧eu es)∧Below w.heap.size w w3 from⟨⟨v3,fs,rfl,f1,f2.trans HF.1,f3,f4 HF.2⟩,bC⟩);clear f1 f2 f3 f4;go_wp2_with fail;go_ret;exact HR
def qT (a b:Nat):Int:=if a<b then-1 else if b<a then 1 else 0
theorem Fp (a:List Nat) {i:Nat} (h:i<a.length):aC a=aC (a.take i)+4294967296^i*(a[i]+4294967296*aC (a.drop (i+1))):=by
 have e:a=a.take i++(a[i]::a.drop (i+1)):=by
  rw[←pq h,DN]
 conv=>lhs;rw[e]
 rw[fU,nU,mW (by omega),aC]
theorem T6 (ha:eu a) {i:Nat} (h1:i<a.length) (h2:i<b.length) (hd:a.drop (i+1)=b.drop (i+1)) (ax:a[i]<b[i]):aC a<aC b:=by
 rw[Fp a h1,Fp b h2,hd];have ht:aC (a.take i)<4294967296^i:=by
  have:=qb (a.take i) fun x hx=>ha x (List.mem_of_mem_take hx)
  rw[nU,mW (by omega)]at this;exact this
 generalize 4294967296^i=B at*
 generalize aC (b.drop (i+1))=R;have h3:B*(a[i]+4294967296*R+1)≤B*(b[i]+4294967296*R):=uE _ (by omega);rw[rC B _ 1]at h3;omega
theorem zC (ha:eu a) (hb:Norm b) (hl:a.length<b.length):aC a<aC b:=by
 have h1:=qb a ha;have h2:=GM hb (by omega);have h3:4294967296^a.length≤4294967296^(b.length-1):=ek (by decide) (by omega);omega
theorem zD (w:World) (va vb:Value) (xs ys:List Nat) (ha:pN w va xs) (hb:pN w vb ys) (Xp:eu xs) (Iy:eu ys) (han:Norm xs) (LG:Norm ys) (hla:xs.length≤1099511627776) (Ic:ys.length≤1099511627776):
  Calls prog 152 #[va,vb] w fun e w'=>e= .returned (.int .i64 (qT (aC xs) (aC ys)))∧ ∃d,w'=w.drewN d:=by
 have LN:=aa (o9 w va xs ha hla han);have HTB:=aa (o9 w vb ys hb Ic LG);have HO:=aa (And.intro Xp (And.intro Iy (And.intro han LG)));obtain⟨ao,ca,rfl,hca⟩:=ha;obtain⟨bo,cb,rfl,hcb⟩:=hb;have HCA:=aa hca;have HCB:=aa hcb;clear hca hcb Xp Iy han LG;obtain⟨V,hV⟩: ∃V,V=qT (aC xs) (aC ys):=⟨_,rfl⟩;rw[←hV];have HV:=aa hV;clear hV;go_enter func152,ntmps152;go_wp2_with fail;refine LN.mono ?_;rintro e w' ⟨rfl,rfl⟩;go_wp2_with fail;refine HTB.mono ?_;rintro e w1 ⟨rfl,rfl⟩;by_cases hlen:xs.length=ys.length
 ·have p1:((xs.length:Int)=(ys.length:Int))=True:=aA (by omega);have Wv:((xs.length:Int) != (ys.length:Int))=false:=by rw[hlen];exact bne_self_eq_false _
  have aaZ:=aa hlen;clear hlen;go_wp2_with fail;go_loopw [5] (fun t5 wr=> ∃(k d:Nat),Hid (k≤xs.length∧xs.drop k=ys.drop k∧wr=w1.drewN d)∧t5= .int .i64 ((k:Int)-1)) (fun t5 _=>(intOf t5+1).toNat)
  case atStart=>exact⟨xs.length,0,aa ⟨aS _,by rw[List.drop_length,aaZ.out,List.drop_length],rfl⟩,rfl⟩
  case round=>
   obtain⟨k,d,hI,rfl⟩:=hrel;have hw:=hI.2.2;subst hw;by_cases hk:0<k
   ·obtain⟨i,rfl⟩: ∃i,k=i+1:=⟨k-1,by omega⟩;have hia:i<xs.length:=by have:=hI.1;omega
    have Zz:i<ys.length:=by have:=aaZ.out;omega
    have ei:((i+1:Nat):Int)-1=(i:Int):=by omega
    rw[ei];clear ei;have p2:((0:Int)≤(i:Int))=True:=aA (by omega);obtain⟨ga,oa,rfl,hga,Td⟩:=HCA i hia;obtain⟨gb,ob,rfl,ZA,Te⟩:=HCB i Zz;have ajD:=pq hia;obtain⟨x,hx⟩: ∃x,x=xs[i]:=⟨_,rfl⟩;obtain⟨y,hy⟩: ∃y,y=ys[i]:=⟨_,rfl⟩;rw[←hx]at Td;rw[←hy]at Te;have HXY:=aa (And.intro hx hy);have bi:i≤1099511627776:=by omega
    clear ajD hx hy hk;rcases EA x y with Ww|Ww|Ww
    ·have p3:((x:Int)<(y:Int))=True:=aA (by omega);have xN:V= -1:=by
      have:aC xs<aC ys:=T6 HO.1 hia Zz hI.2.1 (by rw[←HXY.out.1,←HXY.out.2];exact Ww);rw[HV.out,qT,au this]
     go_wp2_with fail;go_quiet (fail);go_wp2_with fail;go_ret;exact⟨(by first|rfl|(rw[xN];rfl)),_,(by first|rfl|(simp only[jV];rfl))⟩
    ·subst Ww;have p3:((x:Int)<(x:Int))=False:=bU (by omega);go_wp2_with fail;go_quiet (fail);go_wp2_with fail;go_quiet (fail);go_wp2_with fail;have Wx:xs.drop i=ys.drop i:=by
      rw[pq hia,pq Zz,hI.out.2.1,←HXY.out.1,←HXY.out.2]
     exact⟨⟨i,_,aa ⟨by omega,Wx,rfl⟩,rfl⟩,by simp only[intOf];omega⟩
    ·have p3:((x:Int)<(y:Int))=False:=bU (by omega);have p4:((y:Int)<(x:Int))=True:=aA (by omega);have xN:V=1:=by
      have:aC ys<aC xs:=T6 HO.2.1 Zz hia hI.2.1.symm (by rw[←HXY.out.1,←HXY.out.2];exact Ww);rw[HV.out,qT,af (by omega),au this]
     go_wp2_with fail;go_quiet (fail);go_wp2_with fail;go_quiet (fail);go_wp2_with fail;go_ret;exact⟨(by first|rfl|(rw[xN];rfl)),_,(by first|rfl|(simp only[jV];rfl))⟩
   ·have lS:k=0:=by omega
    subst lS;have xN:V=0:=by
     have h1:=hI.2.1;rw[Bj,Bj]at h1;rw[HV.out,h1,qT,af (by omega),af (by omega)]
    go_wp2_with fail;go_ret;exact⟨(by first|rfl|(rw[xN];rfl)),_,rfl⟩
 ·have p1:((xs.length:Int)=(ys.length:Int))=False:=bU (by omega);have Wv:((xs.length:Int) != (ys.length:Int))=true:=by simpa using p1
  rcases dF xs.length ys.length with ax|mg
  ·have p2:((xs.length:Int)<(ys.length:Int))=True:=aA (by omega);have xN:V= -1:=by
    have:aC xs<aC ys:=zC HO.1 HO.2.2.2 ax;rw[HV.out,qT,au this]
   go_wp2_with fail;go_ret;exact⟨(by first|rfl|(rw[xN];rfl)),0,rfl⟩
  ·have p2:((xs.length:Int)<(ys.length:Int))=False:=bU (by omega);have xN:V=1:=by
    have:aC ys<aC xs:=zC HO.2.1 HO.2.2.1 (by omega);rw[HV.out,qT,af (by omega),au this]
   go_wp2_with fail;go_ret;exact⟨(by first|rfl|(rw[xN];rfl)),0,rfl⟩
theorem Ce: ∀(R:List Nat) (k x:Nat) (h:k<R.length),aC (R.set k x)+4294967296^k*R[k]=aC R+4294967296^k*x
 |[],k,x,h=>by simp at h
 |d::r,0,x,h=>by simp[aC];omega
 |d::r,k+1,x,h=>by
  have hk:k<r.length:=by simpa using h
  have ih:=Ce r k x hk;simp only[dI,aC,List.getElem_cons_succ,et];generalize 4294967296^k=B at*
  have e1:B*4294967296*r[k]=4294967296*(B*r[k]):=by simp only[ct,fA,qv]
  have e2:B*4294967296*x=4294967296*(B*x):=by simp only[ct,fA,qv]
  rw[e1,e2];omega
theorem Hi (R:List Nat) (k x:Nat):(de R).set k (.int .u32 (x:Int))=de (R.set k x):=by simp[de,List.map_set]
theorem Fq (h:eu R) (hx:x<4294967296):eu (R.set k x):=fun d hd=>by
 rcases List.mem_or_eq_of_mem_set hd with h1|h1
 ·exact h d h1
 ·rw[h1];exact hx
theorem jv.set {w:World} {base g c:Nat} {R:List Nat} (h:jv w base (.slice (some ⟨g,0,none⟩) R.length c) R) (k x:Nat):jv (w.setCell ⟨g,k,none⟩ (.int .u32 (x:Int))) base (.slice (some ⟨g,0,none⟩) (R.set k x).length c) (R.set k x)∧w.grownBy (w.setCell ⟨g,k,none⟩ (.int .u32 (x:Int))) (some g):=by
 obtain⟨h1,h2⟩:=World.ownsRow.stored h.own k (.int .u32 (x:Int));rw[Hi]at h1;refine⟨?_,h2⟩;unfold jv;rw[List.length_set];exact h1
structure lf (w wr:World) (xs ys R:List Nat) (c:Nat) (i j cy:Nat):Prop where
 own:jv wr w.heap.size (.slice (some ⟨w.heap.size,0,none⟩) R.length c) R
 len:R.length=xs.length+ys.length
 ok:eu R
 zero: ∀k (h:k<R.length),i+ys.length≤k→R[k]=0
 lt:cy<4294967296
 val:aC R+4294967296^(i+j)*cy=aC (xs.take i)*aC ys+4294967296^i*(xs.getD i 0*aC (ys.take j))
 below:Below w.heap.size w wr
theorem lf.drewN {w wr:World} {xs ys R:List Nat} {c i j cy:Nat} (h:lf w wr xs ys R c i j cy) (n:Nat):lf w (wr.drewN n) xs ys R c i j cy:=
 ⟨h.own,h.len,h.ok,h.zero,h.lt,h.val,cr h.below n⟩
theorem lf.cell {w wr:World} {xs ys R:List Nat} {c i j cy:Nat} (h:lf w wr xs ys R c i j cy) {k:Nat} (hk:k<R.length):wr.cell? ⟨w.heap.size,k,none⟩=some (.int .u32 (R[k]:Int)):=by
 rw[IY h.own.own k (by omega)];simp[de,hk]
theorem lf.frozen {w wr:World} {xs ys R:List Nat} {c i j cy:Nat} (h:lf w wr xs ys R c i j cy) (k:Nat):wr.frozen? ⟨w.heap.size,k,none⟩=false:=World.ownsRow.frozenAt h.own.own k
theorem lf.step {xs:List Nat} (h:lf w wr xs ys R c i j cy) (hi:i<xs.length) (hj:j<ys.length) {S:Nat} (hx:i+j<R.length) (hS:S=cy+(R[i+j]+xs[i]*ys[j])) (aaY:S<18446744073709551616):
  lf w (wr.setCell ⟨w.heap.size,i+j,none⟩ (.int .u32 ((S%4294967296:Nat):Int))) xs ys (R.set (i+j) (S%4294967296)) c i (j+1) (S/4294967296):=by
 obtain⟨o1,o2⟩:=h.own.set (i+j) (S%4294967296);refine⟨o1,by rw[List.length_set];exact h.len,Fq h.ok (by omega),fun k hk hik=>?_,by omega,?_,h.below.grown o2 h.below.size (fun g hg=>by injection hg with hg;omega)⟩
 ·rw[List.getElem_set];rw[af (by omega)];exact h.zero k (by simpa using hk) hik
 ·have h1:=Ce R (i+j) (S%4294967296) hx;have h2:=h.val;have hT:aC (ys.take (j+1))=aC (ys.take j)+4294967296^j*ys[j]:=by
   rw[jy hj,fU,nU,mW (by omega)];simp[aC]
  have hg:xs.getD i 0=xs[i]:=by simp[List.getD,hi]
  rw[hg]at h2 ⊢
  rw[hT,rC,rC];have e0:4294967296^i*(xs[i]*(4294967296^j*ys[j]))=4294967296^(i+j)*(xs[i]*ys[j]):=by rw[ee];simp only[ct,fA,qv]
  rw[e0,←Bk i j 1,et];generalize 4294967296^(i+j)=B at*
  have e1:B*S=B*cy+B*R[i+j]+B*(xs[i]*ys[j]):=by rw[hS,rC,rC];omega
  have e2:B*S=B*(S%4294967296)+B*4294967296*(S/4294967296):=by
   rw[ct,←rC,Nat.mod_add_div]
  omega
theorem lf.last {xs:List Nat} (h:lf w wr xs ys R c i ys.length cy) (hi:i<xs.length):
  lf w (wr.setCell ⟨w.heap.size,i+ys.length,none⟩ (.int .u32 (cy:Int))) xs ys (R.set (i+ys.length) cy) c (i+1) 0 0:=by
 obtain⟨o1,o2⟩:=h.own.set (i+ys.length) cy;have hx:i+ys.length<R.length:=by rw[h.len];omega
 refine⟨o1,by rw[List.length_set];exact h.len,Fq h.ok h.lt,fun k hk hik=>?_,by omega,?_,h.below.grown o2 h.below.size (fun g hg=>by injection hg with hg;omega)⟩
 ·rw[List.getElem_set];rw[af (by omega)];exact h.zero k (by simpa using hk) (by omega)
 ·have h1:=Ce R (i+ys.length) cy hx;have hz:=h.zero _ hx (aS _);rw[hz]at h1;have h2:=h.val;rw[qO]at h2;have hT:aC (xs.take (i+1))=aC (xs.take i)+4294967296^i*xs[i]:=by
   rw[jy hi,fU,nU,mW (by omega)];simp[aC]
  have hg:xs.getD i 0=xs[i]:=by simp[List.getD,hi]
  rw[hg]at h2;rw[hT];clear hT hg hz o1 o2 hx;have e0:aC (List.take 0 ys)=0:=rfl;rw[e0];clear e0;generalize 4294967296^(i+1+0)=P0;generalize 4294967296^(i+1)=P1;generalize 4294967296^(i+ys.length)=P at h1 h2;generalize 4294967296^i=Q at h2 ⊢
  rw[nh,nh,nh,iK,iK];rw[nh,iK]at h1;generalize aC (R.set (i+ys.length) cy)=Z at h1 ⊢
  rw[h1,h2,oB,ct]
theorem zE (w:World) (va vb:Value) (xs ys:List Nat) (ha:pN w va xs) (hb:pN w vb ys) (Xp:eu xs) (Iy:eu ys) (hla:xs.length≤1099511627) (Ic:ys.length≤1099511627):
  Calls prog 130 #[va,vb] w (iy w (aC xs*aC ys)):=by
 obtain⟨ao,ca,rfl,hca⟩:=ha;obtain⟨bo,cb,rfl,hcb⟩:=hb;have HCA:=aa hca;have HCB:=aa hcb;have HO:=aa (And.intro Xp Iy);clear hca hcb Xp Iy;obtain⟨w1,PU,vu,aW⟩:=uj w (xs.length+ys.length) (xs.length+ys.length) (aS _) (by omega);have aeI:(Instr.makeSlice 181 (.int .i64 ((xs.length:Int)+(ys.length:Int))) (.int .i64 ((xs.length:Int)+(ys.length:Int)))).run prog w= .ok (.slice (some ⟨w.heap.size,0,none⟩) (xs.length+ys.length) (xs.length+ys.length)) w1:=PU;have Xo:(List.replicate (xs.length+ys.length) 0).length=xs.length+ys.length:=vP;have HI0:=aa (show lf w w1 xs ys (List.replicate (xs.length+ys.length) 0) (xs.length+ys.length) 0 0 0 from
  ⟨by rw[Xo];exact vu,Xo,fun d hd=>by have:=(I2.1 hd).2;omega,fun k hk _=>by simp,by omega,by rw[qf _ fun d hd=>(I2.1 hd).2];simp[aC],aW⟩)
 clear PU vu aW Xo;go_enter func130,ntmps130;go_wp2_with fail;go_loopw [6] (fun t6 wr=> ∃(i:Nat) (R:List Nat),Hid (i≤xs.length∧lf w wr xs ys R (xs.length+ys.length) i 0 0)∧t6= .int .i64 (i:Int)) (fun t6 _=>xs.length-(intOf t6).toNat)
 case atStart=>exact⟨0,_,aa ⟨dQ _,HI0.out⟩,rfl⟩
 case round=>
  obtain⟨i,R0,hI,rfl⟩:=hrel;have HI:=aa hI.out.2;by_cases hi:i<xs.length
  ·have p1:((i:Int)<(xs.length:Int))=True:=aA (by omega);obtain⟨ga,oa,rfl,hga,Td⟩:=HCA.out i hi;obtain⟨x,hx⟩: ∃x,x=xs[i]:=⟨_,rfl⟩;have ar3:x<4294967296:=by rw[hx];exact HO.out.1 _ (jz hi)
   rw[←hx]at Td;have HX:=aa hx;have HXC:=aa Td;have bi:i≤1099511627:=by omega
   have HIL:=aa hi;clear hx Td hI;go_wp2_with fail;go_loopw [7,8] (fun t7 t8 wr=> ∃(j cy:Nat) (R:List Nat),Hid (j≤ys.length∧lf w wr xs ys R (xs.length+ys.length) i j cy)∧t7= .int .u64 (cy:Int)∧t8= .int .i64 (j:Int)) (fun _ t8 _=>ys.length-(intOf t8).toNat)
   case atStart=>
    have h0:=HI.out;exact⟨0,0,R0,aa ⟨dQ _,h0⟩,rfl,rfl⟩
   case round=>
    obtain⟨j,cy,R,hJ,rfl,rfl⟩:=hrel;have HJ:=aa hJ.out.2;have hRl:=HJ.out.len;have hcy:=HJ.out.lt;by_cases hj:j<ys.length
    ·have p2:((j:Int)<(ys.length:Int))=True:=aA (by omega);obtain⟨gb,ob,rfl,ZA,Te⟩:=HCB.out j hj;obtain⟨y,hy⟩: ∃y,y=ys[j]:=⟨_,rfl⟩;have ar4:y<4294967296:=by rw[hy];exact HO.out.2 _ (jz hj)
     rw[←hy]at Te;have Xs:i+j<R.length:=by omega
     obtain⟨z,hz⟩: ∃z,z=R[i+j]:=⟨_,rfl⟩;have ar5:z<4294967296:=by rw[hz];exact HJ.out.ok _ (jz Xs)
     have cR:=HJ.out.cell Xs;rw[←hz]at cR;have cX:=(HJ.out.below.cell (p:=⟨ga,oa+i,none⟩) hga).trans HXC.out;have cY:=(HJ.out.below.cell (p:=⟨gb,ob+j,none⟩) ZA).trans Te;have fR:=HJ.out.frozen (i+j);obtain⟨P,hP⟩: ∃P,P=x*y:=⟨_,rfl⟩;have hP2:P≤18446744065119617025:=by
      have:x*y≤4294967295*4294967295:=oA (by omega) (by omega);omega
     obtain⟨Q,hQ⟩: ∃Q,Q=z+P:=⟨_,rfl⟩;obtain⟨S,hS⟩: ∃S,S=cy+Q:=⟨_,rfl⟩;have aaY:S<18446744073709551616:=by omega
     have q1:IntKind.u64.wrap ((x:Int)*(y:Int))=(P:Int):=by rw[dc,←yQ,←hP];omega
     have q2:IntKind.u64.wrap ((z:Int)+(P:Int))=(Q:Int):=by rw[dc];omega
     have q3:IntKind.u64.wrap ((cy:Int)+(Q:Int))=(S:Int):=by rw[dc];omega
     obtain⟨lo,AT⟩: ∃lo,lo=S%4294967296:=⟨_,rfl⟩;have q4:IntKind.u32.wrap (S:Int)=(lo:Int):=by rw[rr];omega
     have rI: ∀n,lf w ((wr.drewN n).setCell ⟨w.heap.size,i+j,none⟩ (.int .u32 (lo:Int))) xs ys (R.set (i+j) lo) (xs.length+ys.length) i (j+1) (S/4294967296):=fun n=>by
      rw[AT];exact(HJ.out.drewN n).step HIL.out hj Xs (S:=S) (by rw[hS,hQ,hP,HX.out,hy,hz]) aaY
     have hdiv:(S:Int)/4294967296=((S/4294967296:Nat):Int):=by omega
     have afO:=aa rI;have ajE:=aa hdiv;have bj:j≤1099511627:=by omega
     have ar6:i+j<xs.length+ys.length:=by omega
     have HJL:=aa hj;clear rI hdiv hz hy hP hQ hS Te AT hP2 hRl;go_wp2_with fail;go_quiet (fail);go_wp2_with fail;exact⟨⟨j+1,S/4294967296,R.set (i+j) lo,aa ⟨HJL.out,afO.out nq⟩,(by apply Xj;exact ajE.out),rfl⟩,gN HJL.out⟩
    ·have hje:j=ys.length:=by have:=hJ.out.1;omega
     have p2:((j:Int)<(ys.length:Int))=False:=bU (by omega);have TE:=HJ.out;rw[hje]at TE;have Az:=TE.last HIL.out;have Zw:i+ys.length<R.length:=by have:=HIL.out;omega
     have cR:=HJ.out.cell Zw;have fR:=HJ.out.frozen (i+ys.length);have q4:IntKind.u32.wrap (cy:Int)=(cy:Int):=by rw[rr];omega
     have q5:(cy:Int)%4294967296=(cy:Int):=by omega
     have ar7:i+ys.length<xs.length+ys.length:=by have:=HIL.out;omega
     have HL2:=aa Az;have HJE:=aa hje;generalize R[i+ys.length]=zz at cR;clear TE Az hRl Zw;rw[HJE.out]at p2 ⊢
     go_wp2_with fail;exact⟨⟨i+1,_,aa ⟨HIL.out,HL2.out⟩,rfl⟩,gN HIL.out⟩
  ·have LO:i=xs.length:=by have:=hI.out.1;omega
   have p1:((i:Int)<(xs.length:Int))=False:=bU (by omega);have mA:=HI.out;have lT:aC R0=aC xs*aC ys:=by
    have h1:=mA.val;rw[LO,qO,show aC (List.take 0 ys)=0 from rfl]at h1;generalize 4294967296^(xs.length+0)=P1 at h1;generalize 4294967296^xs.length=P2 at h1;rw[nh,nh,nh,iK,iK]at h1;exact h1
   have hOO:=mA.own;have hlen:=mA.len;rw[hlen]at hOO;have HOO:=aa hOO;have HF:=aa (And.intro lT (And.intro mA.ok mA.below));have Iw:R0.length≤1099511627776:=by omega
   clear lT mA hOO hlen hI HI;go_wp2_with fail;refine(lN _ w.heap.size _ _ HOO.out Iw).mono ?_;rintro e w3 ⟨⟨v3,fs,rfl,f1,f2,f3,f4⟩,rfl⟩;have HR:=aa (show (∃v es,Ending.returned v3= .returned v∧jv w3 w.heap.size v es∧aC es=aC xs*aC ys∧Norm es∧eu es)∧Below w.heap.size w w3 from⟨⟨v3,fs,rfl,f1,f2.trans HF.out.1,f3,f4 HF.out.2.1⟩,HF.out.2.2⟩);clear f1 f2 f3 f4;go_wp2_with fail;go_ret;exact HR.out
theorem Gu (n:Nat):10^n<4294967296^(n+1):=by
 have h1:(10:Nat)^n≤4294967296^n:=Nat.pow_le_pow_left (by decide) n;have h2:(4294967296:Nat)^n<4294967296^(n+1):=Nat.pow_lt_pow_right (by decide) (vU n);omega
structure Qi (w wr:World) (v:Value) (n m:Nat) (es:List Nat):Prop where
 own:jv wr w.heap.size v es
 ok:eu es
 norm:Norm es
 val:aC es*10^m=10^n
 le:m≤n
 below:Below w.heap.size w wr
theorem Qi.len (h:Qi w wr v n m es):es.length≤n+1:=by
 apply mL h.norm;have h1:=Gu n;have h2:=h.val;have h3:aC es*1≤aC es*10^m:=uE _ (fb (by decide));omega
theorem Fs (w:World) (n:Nat) (hn:n≤1099511627):
  Calls prog 129 #[.int .u32 10,.int .i64 (n:Int)] w (iy w (10^n)):=by
 have vu:jv (w.alloc (.cells #[.int .u32 1] 184)) w.heap.size (.slice (some ⟨w.heap.size,0,none⟩) 1 1) [1]:=yM (e:=184) (size:=1) w #[.int .u32 1] 1 (aS _) (by unfold maxLen;omega) rfl;have HI0:=aa (show Qi w (w.alloc (.cells #[.int .u32 1] 184)) (.slice (some ⟨w.heap.size,0,none⟩) 1 1) n n [1]from
  ⟨vu,fun d hd=>by simp at hd;omega,fun _=>by simp,by show (1+4294967296*0)*_=_;rw[nh,iK,Bp],aS _,(aV _ _).alloc (aS _) _⟩)
 clear vu;go_enter func129,ntmps129;go_wp2_with fail;go_loopw [1,5] (fun t1 t5 wr=> ∃(m:Nat) (es:List Nat),Hid (Qi w wr t5 n m es)∧t1= .int .i64 (m:Int)) (fun t1 _ _=>(intOf t1).toNat)
 case atStart=>exact⟨n,[1],HI0,rfl⟩
 case round=>
  obtain⟨m,es,HI,rfl⟩:=hrel;obtain⟨rv,rc,hrv⟩:=oZ HI.own;subst hrv;have hmn:=HI.le;by_cases hm:0<m
  ·have p1:((0:Int)<(m:Int))=True:=aA (by omega);have HM:=aa hm;go_wp2_with fail;go_loopw [1,6,7] (fun t1 t6 t7 wx=> ∃(j m' k:Nat),Hid (j≤9∧m'+j=m∧k=10^j∧wx=wr)∧t1= .int .i64 (m':Int)∧t6= .int .u32 (k:Int)∧t7= .int .i64 (j:Int)) (fun _ _ t7 _=>9-(intOf t7).toNat)
   case atStart=>exact⟨0,m,1,aa ⟨by omega,rfl,rfl,rfl⟩,rfl,rfl,rfl⟩
   case round=>
    obtain⟨j,m',k,hJ,rfl,rfl,rfl⟩:=hrel;have hw:=hJ.2.2.2;subst hw;by_cases hj:j<9
    ·have p2:((j:Int)<9)=True:=aA (by omega);by_cases hm':0<m'
     ·have p3:((0:Int)<(m':Int))=True:=aA (by omega);have hk9:k≤100000000:=by
       have:k=10^j:=hJ.2.2.1;have h2:(10:Nat)^j≤10^8:=ek (by decide) (by omega);have h3:(10:Nat)^8=100000000:=by decide
       omega
      have q1:IntKind.u32.wrap ((k:Int)*10)=((k*10:Nat):Int):=by rw[rr];omega
      have bm:m'≤1099511627:=by have:=hJ.2.1;omega
      go_wp2_with fail;refine⟨⟨j+1,m'-1,k*10,aa ⟨by omega,by have:=hJ.2.1;omega,by rw[hJ.out.2.2.1,et],trivial⟩,?_,?_,rfl⟩,gN hj⟩
      ·apply Xj;omega
      ·apply Xj;omega
     ·have p3:((0:Int)<(m':Int))=False:=bU (by omega);go_wp2_with fail;have ht:Calls prog 139 #[.slice rv es.length rc,.int .u32 (k:Int),.int .u32 0] wr (iy wr (aC es*k+0)):=td wr _ es k 0 HI.own.r HI.ok (by have:=HI.len;omega) (by
       have h1:k=10^j:=hJ.2.2.1;have h2:(10:Nat)^j≤10^9:=ek (by decide) hJ.1;have h3:(10:Nat)^9=1000000000:=by decide
       omega) (by decide)
      refine ht.mono ?_;rintro e w2 ⟨⟨v2,fs,rfl,f1,f2,f3,f4⟩,hb⟩;have Gg:Qi w w2 v2 n m' fs:=by
       refine⟨bY f1 HI.below.size,f4,f3,?_,by have:=hJ.2.1;omega,HI.below.trans (hb.mono HI.below.size)⟩;have h1:k=10^j:=hJ.2.2.1;have h2:=HI.val;have h3:m=j+m':=by have:=hJ.2.1;omega
       rw[h3,ee]at h2;rw[f2,iK,h1,ct];exact h2
      have Tf:=aa Gg;have ax:m'<m:=by have:=hJ.2.1;have:=HM.out;omega
      clear f1 f2 f3 f4 hb Gg ht;go_wp2_with fail;exact⟨⟨m',fs,Tf,rfl⟩,by simp only[intOf];omega⟩
    ·have p2:((j:Int)<9)=False:=bU (by omega);go_wp2_with fail;have ht:Calls prog 139 #[.slice rv es.length rc,.int .u32 (k:Int),.int .u32 0] wr (iy wr (aC es*k+0)):=td wr _ es k 0 HI.own.r HI.ok (by have:=HI.len;omega) (by
      have h1:k=10^j:=hJ.2.2.1;have h2:(10:Nat)^j≤10^9:=ek (by decide) hJ.1;have h3:(10:Nat)^9=1000000000:=by decide
      omega) (by decide)
     refine ht.mono ?_;rintro e w2 ⟨⟨v2,fs,rfl,f1,f2,f3,f4⟩,hb⟩;have Gg:Qi w w2 v2 n m' fs:=by
      refine⟨bY f1 HI.below.size,f4,f3,?_,by have:=hJ.2.1;omega,HI.below.trans (hb.mono HI.below.size)⟩;have h1:k=10^j:=hJ.2.2.1;have h2:=HI.val;have h3:m=j+m':=by have:=hJ.2.1;omega
      rw[h3,ee]at h2;rw[f2,iK,h1,ct];exact h2
     have Tf:=aa Gg;have ax:m'<m:=by have:=hJ.2.1;have:=HM.out;omega
     clear f1 f2 f3 f4 hb Gg ht;go_wp2_with fail;exact⟨⟨m',fs,Tf,rfl⟩,by simp only[intOf];omega⟩
  ·have p1:((0:Int)<(m:Int))=False:=bU (by omega);have hm0:m=0:=by omega
   have hv:=HI.val;rw[hm0,pA,ow]at hv;have HV:=aa hv;clear hv;go_wp2_with fail;go_ret;exact⟨⟨_,es,rfl,HI.own,HV,HI.norm,HI.ok⟩,HI.below⟩
