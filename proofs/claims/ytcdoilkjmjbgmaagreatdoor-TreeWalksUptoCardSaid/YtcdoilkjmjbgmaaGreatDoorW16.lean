import Derived.Test.YtcdoilkjmjbgmaaGreatDoorRows
import Derived.SliceStrings
import Derived.Deep.Slices
import Derived.OpenShut
import Derived.Carry
import Derived.Test.YtcdoilkjmjbgmaaGreatDoorW08
/- Part of the proof of YtcdoilkjmjbgmaaGreatDoorCardX: OpenA LawI LawG RbA RbB RbC RbD RbE RbF. -/
set_option maxRecDepth 100000
set_option maxHeartbeats 4000000
set_option linter.unusedVariables false
set_option linter.unusedSimpArgs false
namespace Go.Proofs.YtcdoilkjmjbgmaaGreatDoor
open Go.ChangeShapes Go.WideShapes Go.RowKit Go.Deep
variable {W:World} {a:Addr} {v:Value}
theorem YV (h:W.cell? a=some v):a.block<W.heap.size:=by
 rcases dD a.block W.heap.size with au|lW
 ·exact au
 ·unfold World.cell? at h;rw[vq lW]at h;simp at h
end Go.Proofs.YtcdoilkjmjbgmaaGreatDoor
namespace Go.Proofs.YtcdoilkjmjbgmaaGreatDoor
open Go.RowKit
open Go.Proofs.Tryz
variable {v v' av bv wv:Value} {w0 w w' wr:World} {n1 n2 n3 n4 L base g n m c size k x d i j cy:Nat} {A B W X xs:List Value} {e:TypeId} {ao:Option Addr} {l ds es a b R ys:List Nat}
structure abv (w0 w:World) (n1 n2 n3 n4:Nat) (av bv wv:Value) (L:Nat) (A B W:List Value):Prop where
 a:w.ownsRow n1 139 3 av L A
 b:w.ownsRow n1 139 3 bv L B
 wt:w.ownsRow n1 139 3 wv L W
 a2: ∀x,av.ownBlock=some x→x<n2
 b2: ∀x,bv.ownBlock=some x→n2≤x∧x<n3
 w2: ∀x,wv.ownBlock=some x→n3≤x∧x<n4
 o12:n1≤n2
 o23:n2≤n3
 o34:n3≤n4
 o4:n4≤w.heap.size
 below:Below n1 w0 w
structure akE (w0 w:World) (n1 n2 n3 n4:Nat) (av bv wv gv hv:Value) (L:Nat) (A B W X Y:List Value) (gn hn:Nat):Prop where
 t:abv w0 w n1 n2 n3 n4 av bv wv L A B W
 g:w.ownsRow n1 139 3 gv gn (A++X)
 h:w.ownsRow n1 139 3 hv hn (B++Y)
 ga: ∀x,gv.ownBlock=some x→x<n2∨n4≤x
 hb: ∀x,hv.ownBlock=some x→(n2≤x∧x<n3)∨n4≤x
 gh: ∀x,gv.ownBlock=some x→hv.ownBlock≠some x
theorem fl.block (h:fl v v'):v'.ownBlock=v.ownBlock:=by
 obtain⟨g,n,m,cap,rfl,rfl⟩:=h;rfl
theorem abv.fN (h:abv w0 w n1 n2 n3 n4 av bv wv L A B W):akE w0 w n1 n2 n3 n4 av bv wv av bv L A B W [] [] L L:=
 ⟨h,by rw[mu];exact h.a,by rw[mu];exact h.b,fun x hx=>.inl (h.a2 x hx),fun x hx=>.inl (h.b2 x hx),fun x hx he=>by have:=h.a2 x hx;have:=h.b2 x he;omega⟩
def TI (w:World) (v:Value) (xs:List Row):Prop:=
 (v= .slice none 0 0∧xs=[])∨ ∃ad c,v= .slice (some ad) xs.length c∧ ∀j u,(QN xs)[j]? =some u→w.cell? (ad.add j)=some u
theorem TI.below {xs:List Row} (h:TI w v xs) (hb:Below w.heap.size w w'):TI w' v xs:=by
 rcases h with h|⟨ad,c,h1,h2⟩
 ·exact .inl h
 ·exact .inr ⟨ad,c,h1,fun j u hu=>by have h3:=h2 j u hu;rw[hb.cell (YV h3)];exact h3⟩
theorem Ve (h:w.ownsRow base e size (.slice (some ⟨g,0,none⟩) n c) n (A++X)) (hm:m≤n) (hA:A.length=m*size):w.ownsRow base e size (.slice (some ⟨g,0,none⟩) m c) m A:=by
 refine⟨hA,?_⟩;rcases h.2 with⟨hv,_⟩|⟨g',cap,cur,hv,d1,d2,d3,d4,d5,d6⟩
 ·cases hv
 ·simp only[Value.slice.injEq,vt,Addr.mk.injEq,jw,rz]at hv;obtain⟨rfl,rfl⟩:=hv;refine .inr ⟨g,c,cur,rfl,d1,d2,bn hm d3,d4,d5,?_⟩;have h1:=bT (List.take (m*size)) d6;rw[List.take_take,mr (fc _ hm),←hA,List.take_left]at h1;rw[←hA];exact h1
theorem YW (h:w.ownsRow base e size (.slice (some ⟨g,0,none⟩) n c) n xs):n≤c∧c≤maxLen:=by
 rcases h.2 with⟨hv,_⟩|⟨g',cap,cur,hv,d1,d2,d3,d4,d5,d6⟩
 ·cases hv
 ·simp only[Value.slice.injEq,vt,Addr.mk.injEq,jw,rz]at hv;obtain⟨rfl,rfl⟩:=hv;exact⟨d3,d4⟩
theorem oR.row {xs:List Row} (h:oR w (.slice ao n c) xs):n=xs.length∧ ∀j (h:j<xs.length),∃g o,ao=some ⟨g,o,none⟩∧g<w.heap.size∧w.cell? ⟨g,o+j*3,none⟩=some (.int .i64 xs[j].1)∧w.cell? ⟨g,o+j*3+1,none⟩=some (.string xs[j].2.1)∧w.cell? ⟨g,o+j*3+2,none⟩=some (.int .i64 xs[j].2.2):=by
 obtain⟨ao',c',he,hc⟩:=h;injection he with h1 h2 h3
 subst h1;exact⟨h2,hc⟩
theorem pj (h:w.ownsRow base e size v n xs): ∃ao c',v= .slice ao n c':=by
 rcases h.2 with⟨rfl,rfl⟩|⟨g,cap,cur,rfl,_⟩
 ·exact⟨_,_,rfl⟩
 ·exact⟨_,_,rfl⟩
def aA:List Nat→Nat
 |[]=>0
 |d::r=>d+4294967296*aA r
def ek (ds:List Nat):Prop:= ∀d∈ds,d<4294967296
def Norm (ds:List Nat):Prop:= ∀h:0<ds.length,ds[ds.length-1]≠0
def cV (ds:List Nat):List Value:=ds.map fun(d:Nat)=>.int .u32 (d:Int)
theorem wV (ds:List Nat):(cV ds).length=ds.length:=by simp[cV]
def pX (w:World) (v:Value) (ds:List Nat):Prop:=
 ∃ao c,v= .slice ao ds.length c∧ ∀j (h:j<ds.length),∃g o,ao=some ⟨g,o,none⟩∧g<w.heap.size∧w.cell? ⟨g,o+j,none⟩=some (.int .u32 (ds[j]:Int))
theorem pX.below (h:pX w v l) (hb:Below w.heap.size w w'):pX w' v l:=by
 obtain⟨ao,c,rfl,hc⟩:=h;refine⟨ao,c,rfl,fun j hj=>?_⟩;obtain⟨g,o,rfl,hg,h1⟩:=hc j hj;exact⟨g,o,rfl,gO hg hb.size,(hb.cell (p:=⟨g,_,none⟩) hg).trans h1⟩
def jr (w:World) (base:Nat) (v:Value) (ds:List Nat):Prop:=w.ownsRow base 184 1 v ds.length (cV ds)
theorem jr.own (h:jr w base v ds):w.ownsRow base 184 1 v ds.length (cV ds):=h
theorem jr.r (h:jr w base v ds):pX w v ds:=by
 obtain⟨ao,c,rfl⟩:=pj h;refine⟨ao,c,rfl,fun j hj=>?_⟩;obtain⟨g,rfl,_,hg⟩:=BQ h (by omega);refine⟨g,0,rfl,hg,?_⟩;rw[mw,IG h j (by omega)];simp[cV,hj]
theorem jr.below (h:jr w base v ds) (hb:Below w.heap.size w w'):jr w' base v ds:=aD h hb
theorem fK: ∀(a b:List Nat),aA (a++b)=aA a+4294967296^a.length*aA b
 |[],b=>by simp[aA]
 |d::r,b=>by
  rw[pJ,aA,aA,fK r b,dI,ef,ru,fu (4294967296^r.length) 4294967296,bV];omega
theorem qo: ∀(a:List Nat),(∀d∈a,d=0)→aA a=0
 |[],_=>rfl
 |d::r,h=>by rw[aA,qo r fun x hx=>h x (by simp[hx]),h d (by simp)]
theorem qk: ∀(a:List Nat),ek a→aA a<4294967296^a.length
 |[],_=>by simp[aA]
 |d::r,h=>by
  have ih:=qk r fun x hx=>h x (by simp[hx])
  have hd:=h d (by simp);rw[aA,dI,ef];omega
theorem GA (h:Norm ds) (hp:0<ds.length):4294967296^(ds.length-1)≤aA ds:=by
 have hl:=h hp;have e:ds=ds.take (ds.length-1)++[ds[ds.length-1]]:=by
  rw[←jM (by omega),show ds.length-1+1=ds.length by omega,rh]
 rw[e,fK];simp only[aA,nZ];rw[mr (by omega)];have h2:4294967296^(ds.length-1)*1≤4294967296^(ds.length-1)*(ds[ds.length-1]+4294967296*0):=uj _ (by omega);simp only[fT,nZ,dI,oB]at h2 ⊢
 rw[show min (ds.length-1) ds.length+(0+1)-1=ds.length-1 by omega];omega
theorem mM (h:Norm ds) {k:Nat} (hv:aA ds<4294967296^k):ds.length≤k:=by
 rcases jK ds.length with h0|h0
 ·omega
 ·have h1:=GA h h0;rcases dD k ds.length with hk|hk
  ·have:4294967296^k≤4294967296^(ds.length-1):=ee (by decide) (by omega);omega
  ·exact hk
def TJ (ds:List Nat) (k:Nat):Prop:=k≤ds.length∧(∀j (h:j<ds.length),k≤j→ds[j]=0)∧ ∀h:k-1<ds.length,0<k→ds[k-1]≠0
theorem TJ.val (h:TJ ds k):aA (ds.take k)=aA ds∧Norm (ds.take k)∧(ds.take k).length=k:=by
 obtain⟨h1,h2,h3⟩:=h;have hl:(ds.take k).length=k:=by simp;omega
 refine⟨?_,?_,hl⟩
 ·have e:ds=ds.take k++ds.drop k:=(tB k ds).symm
  conv=>rhs;rw[e]
  rw[fK,qo (ds.drop k),nz,iv];intro d hd;obtain⟨j,hj,rfl⟩:=List.mem_iff_getElem.1 hd;rw[vs];exact h2 _ _ (by omega)
 ·intro hp;rw[IL];simp only[hl];exact h3 _ (by omega)
theorem zl (w:World) (ao:Option Addr) (n c:Nat) (ds:List Nat) (h:pX w (.slice ao n c) ds) (hn:ds.length≤1099511627776) (hc:Norm ds∨ds.length≤c∧c≤maxLen):
  Calls prog 140 #[.slice ao n c] w fun e w'=>(∃k,TJ ds k∧e= .returned (.slice ao k c))∧w'=w:=by
 obtain⟨ao',c',he,eo⟩:=h;obtain⟨rfl,rfl,rfl⟩:ao=ao'∧n=ds.length∧c=c':=by injection he with h1 h2 h3;exact⟨h1,h2,h3⟩
 have HC:=aa eo;have HCC:=aa hc;clear eo he hc;go_enter func140,ntmps140;go_wp2_with fail;go_loopw [0] (fun t0 wr=> ∃k:Nat,Hid ((k≤ds.length∧ ∀j (h:j<ds.length),k≤j→ds[j]=0)∧wr=w)∧t0= .slice ao k c) (fun t0 _=>match t0 with| .slice _ k _=>k|_=>0)
 case atStart=>exact⟨ds.length,aa ⟨⟨aP _,fun j h1 h2=>by omega⟩,rfl⟩,rfl⟩
 case round=>
  obtain⟨k,hI,rfl⟩:=hrel;have hw:=hI.2;subst hw;by_cases hk:0<k
  ·have p1:((0:Int)<(k:Int))=True:=az (by omega);have nU:k-1<ds.length:=by have:=hI.1.1;omega
   obtain⟨g,o,rfl,hg,nu⟩:=HC (k-1) nU;have e1:((k:Int)-1).toNat=k-1:=by omega
   have bk:k≤1099511627776:=by omega
   by_cases hz:ds[k-1]=0
   ·rw[hz]at nu;have uu:k≤c∧c≤maxLen:=by
     rcases HCC.out with hn'|hn'
     ·exfalso;rcases dD k ds.length with au|lW
      ·have:=hI.1.2 (ds.length-1) (by omega) (by omega);exact hn' (by omega) this
      ·have:k=ds.length:=by have:=hI.1.1;omega
       subst this;exact hn' hk hz
     ·have:=hI.1.1;omega
    unfold maxLen at uu;go_wp2_with fail;exact⟨⟨k-1,aa ⟨⟨by omega,fun j h1 h2=>by
     by_cases hj:j=k-1
     ·subst hj;exact hz
     ·exact hI.1.2 j h1 (by omega)⟩,trivial⟩,rfl⟩,by show k-1<k;omega⟩
   ·have p2:(((ds[k-1]:Nat):Int)=0)=False:=bL (by omega);go_wp2_with fail;go_ret;exact⟨⟨k,⟨hI.1.1,hI.1.2,fun _ _=>hz⟩,rfl⟩,rfl⟩
  ·have lI:k=0:=by omega
   subst lI;go_wp2_with fail;go_ret;exact⟨⟨0,⟨aT _,hI.1.2,fun _ h=>absurd h (by decide)⟩,rfl⟩,rfl⟩
theorem lz (w:World) (base:Nat) (v:Value) (ds:List Nat) (h:jr w base v ds) (hn:ds.length≤1099511627776):
  Calls prog 140 #[v] w fun e w'=>(∃v' es,e= .returned v'∧jr w base v' es∧aA es=aA ds∧Norm es∧(ek ds→ek es))∧w'=w:=by
 obtain⟨ao,c,rfl⟩:=pj h;have uu:Norm ds∨ds.length≤c∧c≤maxLen:=by
  rcases jK ds.length with h0|h0
  ·exact .inl fun h=>by omega
  ·obtain⟨g,rfl,_⟩:=BQ h h0;exact .inr (YW h)
 refine(zl w ao ds.length c ds h.r hn uu).mono ?_;rintro e w' ⟨⟨k,hk,rfl⟩,rfl⟩;obtain⟨v1,v2,v3⟩:=hk.val;refine⟨⟨_,ds.take k,rfl,?_,v1,v2,fun cC d hd=>cC d (List.mem_of_mem_take hd)⟩,rfl⟩;rcases jK ds.length with h0|h0
 ·have lI:k=ds.length:=by have:=hk.1;omega
  rw[lI,rh];exact h
 ·obtain⟨g,rfl,_⟩:=BQ h h0;have e:cV ds=cV (ds.take k)++cV (ds.drop k):=by rw[cV,cV,cV,←mZ,tB]
  have h':=h;unfold jr at h';rw[e]at h';have:=Ve (m:=k) h' (by have:=hk.1;omega) (by rw[wV,v3];omega);unfold jr;rw[v3];exact this
theorem pA (w:World) (v:Value) (ds:List Nat) (h:pX w v ds) (hn:ds.length≤1099511627776) (hd:Norm ds):
  Calls prog 140 #[v] w fun e w'=>e= .returned v∧w'=w:=by
 obtain⟨ao,c,rfl,hc⟩:=h;refine(zl w ao ds.length c ds ⟨ao,c,rfl,hc⟩ hn (.inl hd)).mono ?_;rintro e w' ⟨⟨k,hk,rfl⟩,rfl⟩;have:k=ds.length:=by
  rcases dD k ds.length with au|lW
  ·exact absurd (hk.2.1 (ds.length-1) (by omega) (by omega)) (hd (by omega))
  ·have:=hk.1;omega
 rw[this];exact⟨rfl,rfl⟩
theorem oX:(prog.info? 184).map (fun i=>(i.zero,i.size,i.bytes))=some (some (.int .u32 0),1,4):=by kernel_rfl
def iz (w:World) (V:Nat) (e:Ending) (w':World):Prop:=
 (∃v es,e= .returned v∧jr w' w.heap.size v es∧aA es=V∧Norm es∧ek es)∧Below w.heap.size w w'
theorem sQ (h:w.ownsRow base 184 1 v (es.length+1) (cV es++[.int .u32 (x:Int)])):jr w base v (es++[x]):=by
 unfold jr;rw[fT];have:cV (es++[x])=cV es++[.int .u32 (x:Int)]:=by simp[cV]
 rw[this];exact h
theorem MY (hd:d<4294967296) (hm:m<4294967296) (hc:c<4294967296):c+d*m<18446744073709551616:=by
 have:d*m≤4294967295*4294967295:=oH (by omega) (by omega);omega
theorem sR (w:World) (v:Value) (ds:List Nat) (m c:Nat) (h:pX w v ds) (cC:ek ds) (hn:ds.length≤1099511627775) (hm:m<4294967296) (hc:c<4294967296):
  Calls prog 139 #[v,.int .u32 (m:Int),.int .u32 (c:Int)] w (iz w (aA ds*m+c)):=by
 obtain⟨ao,cap,rfl,eo⟩:=h;have HC:=aa eo;have FL:=aa cC;clear eo cC;obtain⟨i0,ti,yn,db,ej⟩:=mC oX;obtain⟨w1,Eh,aL,iu⟩:=run_make_own (P:=prog) w w.heap.size 181 184 i0 _ 1 underlying181 ti yn db .i64 .i64 (ds.length+1) (by rw[ej];omega) (by unfold maxLen;omega) (aP _);have afy:(Instr.makeSlice 181 (.int .i64 0) (.int .i64 ((ds.length:Int)+1))).run prog w= .ok (.slice (some ⟨w.heap.size,0,none⟩) 0 (ds.length+1)) w1:=Eh;have qB:=aa (show jr w1 w.heap.size (.slice (some ⟨w.heap.size,0,none⟩) 0 (ds.length+1)) []from aL);have bZ:=aa ((aS w.heap.size w).grown iu (aP _) (fun g hg=>by cases hg));clear Eh aL iu;go_enter func139,ntmps139;go_wp2_with fail;go_loopw [7,8,9] (fun t7 t8 t9 wr=> ∃(k cy:Nat) (es:List Nat),Hid (k≤ds.length∧cy<4294967296∧es.length=k∧ek es∧aA es+4294967296^k*cy=aA (ds.take k)*m+c)∧t8= .int .u64 (cy:Int)∧t9= .int .i64 (k:Int)∧Hid (jr wr w.heap.size t7 es∧Below w.heap.size w wr)) (fun _ _ t9 _=>ds.length-(intOf t9).toNat)
 case atStart=>exact⟨0,c,[],aa ⟨aT _,hc,rfl,(fun d hd=>by cases hd),by simp[aA]⟩,rfl,rfl,aa ⟨qB,bZ⟩⟩
 case round=>
  obtain⟨k,cy,es,hI,rfl,rfl,hB⟩:=hrel;have NW:=hI.2.2.1;subst NW;obtain⟨rv,rc,hrv⟩:=pj hB.1;subst hrv;have HO:=aa hB.1;have HB:=aa hB.2;have hcy:=hI.2.1;clear hB;by_cases hk:es.length<ds.length
  ·have p1:((es.length:Int)<(ds.length:Int))=True:=az (by omega);obtain⟨g,o,rfl,hg,nu⟩:=HC es.length hk;have P7:=(HB.cell (p:=⟨g,o+es.length,none⟩) hg).trans nu;obtain⟨d,hd⟩: ∃d,d=ds[es.length]:=⟨_,rfl⟩;have afz:d<4294967296:=by rw[hd];exact FL _ (gj hk)
   rw[←hd]at P7;have hmul:=MY afz hm hcy;obtain⟨P,hP⟩: ∃P,P=d*m:=⟨_,rfl⟩;obtain⟨S,hS⟩: ∃S,S=cy+P:=⟨_,rfl⟩;have q1:IntKind.u64.wrap ((d:Int)*(m:Int))=(P:Int):=by rw[cT,←yD,←hP];omega
   have q2:IntKind.u64.wrap ((cy:Int)+(P:Int))=(S:Int):=by rw[cT];omega
   obtain⟨lo,Aq⟩: ∃lo,lo=S%4294967296:=⟨_,rfl⟩;obtain⟨hi,sW⟩: ∃hi,hi=S/4294967296:=⟨_,rfl⟩;have q3:IntKind.u32.wrap (S:Int)=(lo:Int):=by rw[rn];omega
   have HD:=aa hd;have Oa:=aa (And.intro hP (And.intro hS (And.intro Aq (And.intro sW hmul))));clear nu hd hP hS Aq sW;go_wp2_with (at_builtin;refine iq rfl (.tmp 32) (.tmp 35) 181 rfl w.heap.size 184 (.int .u32 0) 1 4 oX underlying181 rfl (by omega) _ _ _ rfl HO.own [.int .u32 (lo:Int)] rfl rfl (zU rfl) (by unfold maxLen;omega) (by omega) HB.size ?_);intro v2 w2 kL pM;have bD:=aa (HB.grown pM HB.size (fun g hg=>(IQ HO g hg).1));have lD:=aa (sQ kL);clear kL pM;have ll:aA (es++[lo])+4294967296^(es.length+1)*hi=aA (ds.take (es.length+1))*m+c:=by
    obtain⟨h1,h2,h3,h4,_⟩:=Oa.out;have hv:=hI.2.2.2.2;have hT:aA (ds.take (es.length+1))=aA (ds.take es.length)+4294967296^es.length*d:=by
     rw[jM hk,fK,HD.out,nZ,mr (by omega)];simp[aA]
    have hS2:S=lo+4294967296*hi:=by omega
    rw[fK,hT,ef,oK];simp only[aA,nz,iv];generalize 4294967296^es.length=B at*
    have e1:B*lo+B*4294967296*hi=B*S:=by rw[hS2,ru,bV]
    have e2:B*S=B*cy+B*d*m:=by rw[h2,h1,ru,bV]
    omega
   have AX:ek (es++[lo]):=fun x hx=>by
    rcases tE.1 hx with hx|hx
    ·exact hI.2.2.2.1 x hx
    ·obtain rfl:=u9.1 hx;have:=Oa.2.2.1;omega
   have sW:hi<4294967296∧hi=S/4294967296:=⟨by have:=Oa.out;omega,Oa.2.2.2.1⟩;have HF:=aa (And.intro ll (And.intro AX sW));clear ll AX sW;go_wp2_with fail;refine⟨⟨es.length+1,hi,es++[lo],aa ⟨hk,HF.2.2.1,by simp,HF.2.1,HF.1⟩,?_,rfl,aa ⟨lD,bD⟩⟩,gH hk⟩;have:=HF.2.2.2;apply vi';omega
  ·have tX:es.length=ds.length:=by have:=hI.1;omega
   have p1:((es.length:Int)<(ds.length:Int))=False:=bL (by omega);have q3:IntKind.u32.wrap (cy:Int)=(cy:Int):=by rw[rn];omega
   have bl:es.length≤1099511627775:=by omega
   have HKE:=aa tX;clear tX;go_wp2_with (at_builtin;refine iq rfl (.tmp 39) (.tmp 42) 181 rfl w.heap.size 184 (.int .u32 0) 1 4 oX underlying181 rfl (by omega) _ _ _ rfl HO.own [.int .u32 (cy:Int)] rfl rfl (zU rfl) (by unfold maxLen;omega) (by omega) HB.size ?_);intro v2 w2 kL pM;have bD:=aa (HB.grown pM HB.size (fun g hg=>(IQ HO g hg).1));have lD:=aa (sQ kL);clear kL pM;have ll:aA (es++[cy])=aA ds*m+c:=by
    have hv:=hI.2.2.2.2;rw[HKE.out,rh]at hv;rw[fK,HKE.out];simp only[aA,nz,iv];exact hv
   have AX:ek (es++[cy]):=fun x hx=>by
    rcases tE.1 hx with hx|hx
    ·exact hI.2.2.2.1 x hx
    ·obtain rfl:=u9.1 hx;exact hcy
   have Ij:(es++[cy]).length≤1099511627776:=by simp only[fT,dI,oB];omega
   have HF:=aa (And.intro ll AX);clear ll AX;go_wp2_with fail;refine(lz _ w.heap.size _ _ lD Ij).mono ?_;rintro e w3 ⟨⟨v3,fs,rfl,f1,f2,f3,f4⟩,rfl⟩;have HR:=aa (show (∃v es,Ending.returned v3= .returned v∧jr w3 w.heap.size v es∧aA es=aA ds*m+c∧Norm es∧ek es)∧Below w.heap.size w w3 from⟨⟨v3,fs,rfl,f1,f2.trans HF.1,f3,f4 HF.2⟩,bD⟩);clear f1 f2 f3 f4;go_wp2_with fail;go_ret;exact HR
theorem C9 (k:Nat) (b:List Nat):aA (List.replicate k 0++b)=4294967296^k*aA b:=by
 rw[fK,qo _ fun d hd=>(Ov.1 hd).2,uh,mw]
theorem tT (w:World) (q c:Nat) (hq:q≤c) (hc:c≤1099511627776):
  ∃w1,(Instr.makeSlice 181 (.int .i64 (q:Int)) (.int .i64 (c:Int))).run prog w= .ok (.slice (some ⟨w.heap.size,0,none⟩) q c) w1∧jr w1 w.heap.size (.slice (some ⟨w.heap.size,0,none⟩) q c) (List.replicate q 0)∧Below w.heap.size w w1:=by
 obtain⟨i0,ti,yn,db,ej⟩:=mC oX;have hr:=run_make (P:=prog) w 181 184 i0 _ underlying181 ti yn .i64 .i64 (q:Int) (c:Int) (by omega) (by omega) (by rw[ej];omega) (by omega);rw[mq,mq,db,oC]at hr;refine⟨_,hr,?_,(aS _ _).alloc (aP _) _⟩;have nu:(madeCells (Value.int .u32 0).cells c).toList=List.replicate c (.int .u32 0):=toList_madeCells_one _ _;refine⟨by rw[wV];simp,.inr ⟨w.heap.size,c,_,by rw[uh],aP _,heap_alloc_new w _,by rw[uh];exact hq,by unfold maxLen;omega,?_,?_⟩⟩
 ·rw[←Array.length_toList,nu];simp
 ·rw[nu,uh,oC,List.take_replicate,mr hq];simp[cV]
theorem zm (w:World) (v:Value) (ds:List Nat) (n:Nat) (h:pX w v ds) (cC:ek ds) (hl:ds.length≤1099511627) (hn:n≤1099511627):
  Calls prog 153 #[v,.int .i64 (n:Int)] w (iz w (aA ds*2^n)):=by
 obtain⟨ao,cap,rfl,eo⟩:=h;have HC:=aa eo;have FL:=aa cC;clear eo cC;obtain⟨q,hq⟩: ∃q,q=n/32:=⟨_,rfl⟩;obtain⟨s,hs⟩: ∃s,s=n%32:=⟨_,rfl⟩;obtain⟨w1,Eh,uY,aU⟩:=tT w q (ds.length+q+1) (by omega) (by omega);have afy:(Instr.makeSlice 181 (.int .i64 (q:Int)) (.int .i64 ((ds.length:Int)+(q:Int)+1))).run prog w= .ok (.slice (some ⟨w.heap.size,0,none⟩) q (ds.length+q+1)) w1:=Eh;have eq1:(n:Int)/32=(q:Int):=by omega
 have eq2:(n:Int)%32=(s:Int):=by omega
 have qB:=aa uY;have bZ:=aa aU;have HN:=aa (show n=32*q+s∧s<32 by omega);have aso:s<32:=by omega
 have asp:q≤1099511627:=by omega
 clear Eh uY aU hq hs;go_enter func153,ntmps153;go_wp2_with fail;go_loopw [5,6,7] (fun t5 t6 t7 wr=> ∃(cy:Nat) (es:List Nat),Hid (es.length≤ds.length∧cy<2^s∧ek es∧aA es+4294967296^es.length*cy=aA (ds.take es.length)*2^s)∧t6= .int .u64 (cy:Int)∧t7= .int .i64 (es.length:Int)∧Hid (jr wr w.heap.size t5 (List.replicate q 0++es)∧Below w.heap.size w wr)) (fun _ _ t7 _=>ds.length-(intOf t7).toNat)
 case atStart=>exact⟨0,[],aa ⟨aT _,eX (by decide),(fun d hd=>by cases hd),by simp[aA]⟩,rfl,rfl,aa ⟨by rw[mu];exact qB,bZ⟩⟩
 case round=>
  obtain⟨cy,es,hI,rfl,rfl,hB⟩:=hrel;have Ik:=hB.1;have hRl:(List.replicate q 0++es).length≤2199023254:=by have:=hI.1;simp;omega
  obtain⟨R,hR⟩: ∃R,R=List.replicate q 0++es:=⟨_,rfl⟩;rw[←hR]at Ik hRl;obtain⟨rv,rc,hrv⟩:=pj Ik;subst hrv;have HO:=aa Ik;have HB:=aa hB.2;have FN:=aa hR;have hcy:=hI.2.1;clear hB Ik hR;by_cases hk:es.length<ds.length
  ·have p1:((es.length:Int)<(ds.length:Int))=True:=az (by omega);obtain⟨g,o,rfl,hg,nu⟩:=HC es.length hk;have P7:=(HB.cell (p:=⟨g,o+es.length,none⟩) hg).trans nu;obtain⟨d,hd⟩: ∃d,d=ds[es.length]:=⟨_,rfl⟩;have afz:d<4294967296:=by rw[hd];exact FL _ (gj hk)
   rw[←hd]at P7;have HD:=aa hd;clear nu hd;obtain⟨P,hP⟩: ∃P,P=d*2^s:=⟨_,rfl⟩;have h31:2^s≤2147483648:=by
    have:2^s≤2^31:=ee (by decide) (by omega);exact this
   have afA:P<9223372036854775808:=by
    have h1:d*2^s≤4294967295*2147483648:=oH (by omega) h31;omega
   obtain⟨S,hS⟩: ∃S,S=cy+P:=⟨_,rfl⟩;have q1:IntKind.u64.wrap ((d:Int)*2^s)=(P:Int):=by
    have e:(d:Int)*2^s=(P:Int):=by rw[hP];simp
    rw[e,cT];omega
   have q2:bits .or .u64 (cy:Int) (P:Int)=(S:Int):=by
    rw[bits_or_u64_nat cy P (by omega) (by omega),hS];have:=ID (i:=s) (b:=cy) hcy d;rw[Nat.or_comm,hP,fu d,←this,Bg]
   obtain⟨lo,Aq⟩: ∃lo,lo=S%4294967296:=⟨_,rfl⟩;obtain⟨hi,sW⟩: ∃hi,hi=S/4294967296:=⟨_,rfl⟩;have q3:(S:Int)%4294967296=(lo:Int):=by omega
   have q4:IntKind.u32.wrap (S:Int)=(lo:Int):=by rw[rn];omega
   have abw:S<18446744073709551616:=by omega
   have Oa:=aa (And.intro hP (And.intro hS (And.intro Aq (And.intro sW afA))));clear hP hS Aq sW afA;go_wp2_with (at_builtin;refine iq rfl (.tmp 33) (.tmp 36) 181 rfl w.heap.size 184 (.int .u32 0) 1 4 oX underlying181 rfl (by omega) _ _ _ rfl HO.own [.int .u32 (lo:Int)] rfl rfl (zU rfl) (by unfold maxLen;omega) (by omega) HB.size ?_);intro v2 w2 kL pM;have bD:=aa (HB.grown pM HB.size (fun g hg=>(IQ HO g hg).1));have lD:=aa (sQ kL);clear kL pM;have hS2:S=lo+4294967296*hi:=by have:=Oa.out;omega
   have Th:hi<2^s:=by
    obtain⟨h1,h2,_⟩:=Oa.out;have h4:S<2^s*4294967296:=by
     have:d*2^s≤4294967295*2^s:=fc _ (by omega);rw[h2,h1];generalize 2^s=B at*
     omega
    generalize 2^s=B at*
    omega
   have ll:aA (es++[lo])+4294967296^(es.length+1)*hi=aA (ds.take (es.length+1))*2^s:=by
    obtain⟨h1,h2,_⟩:=Oa.out;have hv:=hI.2.2.2;have hT:aA (ds.take (es.length+1))=aA (ds.take es.length)+4294967296^es.length*d:=by
     rw[jM hk,fK,HD.out,nZ,mr (by omega)];simp[aA]
    rw[fK,hT,ef,oK];simp only[aA,nz,iv];generalize 4294967296^es.length=B at*
    have e1:B*lo+B*4294967296*hi=B*S:=by rw[hS2,ru,bV]
    have e2:B*S=B*cy+B*d*2^s:=by rw[h2,h1,ru,bV]
    omega
   have AX:ek (es++[lo]):=fun x hx=>by
    rcases tE.1 hx with hx|hx
    ·exact hI.2.2.1 x hx
    ·obtain rfl:=u9.1 hx;have:=Oa.2.2.1;omega
   have HF:=aa (And.intro ll (And.intro AX (And.intro Th Oa.2.2.2.1)));clear ll AX Th hS2;go_wp2_with fail;refine⟨⟨hi,es++[lo],aa ⟨by simp;omega,HF.2.2.1,HF.2.1,by simp only[fT,dI,oB];exact HF.1⟩,?_,?_,aa ⟨?_,bD⟩⟩,?_⟩
   ·have:=HF.2.2.2;apply vi';omega
   ·apply vi';simp
   ·have:=lD.out;rw[FN.out,lj]at this;exact this
   ·exact gH hk
  ·have tX:es.length=ds.length:=by have:=hI.1;omega
   have p1:((es.length:Int)<(ds.length:Int))=False:=bL (by omega);have h31:2^s≤2147483648:=by
    have:2^s≤2^31:=ee (by decide) (by omega);exact this
   have agF:cy<4294967296:=by omega
   have q3:(cy:Int)%4294967296=(cy:Int):=by omega
   have q4:IntKind.u32.wrap (cy:Int)=(cy:Int):=by rw[rn];omega
   have HKE:=aa tX;clear tX;go_wp2_with (at_builtin;refine iq rfl (.tmp 40) (.tmp 43) 181 rfl w.heap.size 184 (.int .u32 0) 1 4 oX underlying181 rfl (by omega) _ _ _ rfl HO.own [.int .u32 (cy:Int)] rfl rfl (zU rfl) (by unfold maxLen;omega) (by omega) HB.size ?_);intro v2 w2 kL pM;have bD:=aa (HB.grown pM HB.size (fun g hg=>(IQ HO g hg).1));have lD:=aa (sQ kL);clear kL pM;have ll:aA (R++[cy])=aA ds*2^n:=by
    have hv:=hI.2.2.2;obtain⟨AK,_⟩:=HN.out;rw[HKE.out,rh]at hv;rw[FN.out,lj,C9,fK,HKE.out];simp only[aA,nz,iv];rw[hv,AK,dX,Nat.pow_mul,show (2:Nat)^32=4294967296 by decide,qD]
   have AX:ek (R++[cy]):=fun x hx=>by
    rw[FN.out,lj]at hx;rcases tE.1 hx with hx|hx
    ·have:=(Ov.1 hx).2;omega
    ·rcases tE.1 hx with hx|hx
     ·exact hI.2.2.1 x hx
     ·obtain rfl:=u9.1 hx;exact agF
   have Ij:(R++[cy]).length≤1099511627776:=by simp only[fT,dI,oB];omega
   have HF:=aa (And.intro ll AX);clear ll AX;go_wp2_with fail;refine(lz _ w.heap.size _ _ lD Ij).mono ?_;rintro e w3 ⟨⟨v3,fs,rfl,f1,f2,f3,f4⟩,rfl⟩;have HR:=aa (show (∃v es,Ending.returned v3= .returned v∧jr w3 w.heap.size v es∧aA es=aA ds*2^n∧Norm es∧ek es)∧Below w.heap.size w w3 from⟨⟨v3,fs,rfl,f1,f2.trans HF.1,f3,f4 HF.2⟩,bD⟩);clear f1 f2 f3 f4;go_wp2_with fail;go_ret;exact HR
def qW (a b:Nat):Int:=if a<b then-1 else if b<a then 1 else 0
theorem Fg (a:List Nat) {i:Nat} (h:i<a.length):aA a=aA (a.take i)+4294967296^i*(a[i]+4294967296*aA (a.drop (i+1))):=by
 have e:a=a.take i++(a[i]::a.drop (i+1)):=by
  rw[←nV h,tB]
 conv=>lhs;rw[e]
 rw[fK,nZ,mr (by omega),aA]
theorem Ud (ha:ek a) {i:Nat} (h1:i<a.length) (h2:i<b.length) (hd:a.drop (i+1)=b.drop (i+1)) (au:a[i]<b[i]):aA a<aA b:=by
 rw[Fg a h1,Fg b h2,hd];have ht:aA (a.take i)<4294967296^i:=by
  have:=qk (a.take i) fun x hx=>ha x (List.mem_of_mem_take hx)
  rw[nZ,mr (by omega)]at this;exact this
 generalize 4294967296^i=B at*
 generalize aA (b.drop (i+1))=R;have h3:B*(a[i]+4294967296*R+1)≤B*(b[i]+4294967296*R):=uj _ (by omega);rw[ru B _ 1]at h3;omega
theorem zn (ha:ek a) (hb:Norm b) (hl:a.length<b.length):aA a<aA b:=by
 have h1:=qk a ha;have h2:=GA hb (by omega);have h3:4294967296^a.length≤4294967296^(b.length-1):=ee (by decide) (by omega);omega
theorem zp (w:World) (va vb:Value) (xs ys:List Nat) (ha:pX w va xs) (hb:pX w vb ys) (Sj:ek xs) (Ik:ek ys) (han:Norm xs) (Sd:Norm ys) (hla:xs.length≤1099511627776) (Hr:ys.length≤1099511627776):
  Calls prog 152 #[va,vb] w fun e w'=>e= .returned (.int .i64 (qW (aA xs) (aA ys)))∧ ∃d,w'=w.drewN d:=by
 have Lv:=aa (pA w va xs ha hla han);have HTB:=aa (pA w vb ys hb Hr Sd);have HO:=aa (And.intro Sj (And.intro Ik (And.intro han Sd)));obtain⟨ao,ca,rfl,hca⟩:=ha;obtain⟨bo,cb,rfl,hcb⟩:=hb;have HCA:=aa hca;have HCB:=aa hcb;clear hca hcb Sj Ik han Sd;obtain⟨V,hV⟩: ∃V,V=qW (aA xs) (aA ys):=⟨_,rfl⟩;rw[←hV];have HV:=aa hV;clear hV;go_enter func152,ntmps152;go_wp2_with fail;refine Lv.mono ?_;rintro e w' ⟨rfl,rfl⟩;go_wp2_with fail;refine HTB.mono ?_;rintro e w1 ⟨rfl,rfl⟩;by_cases hlen:xs.length=ys.length
 ·have p1:((xs.length:Int)=(ys.length:Int))=True:=az (by omega);have WQ:((xs.length:Int) != (ys.length:Int))=false:=by rw[hlen];exact bne_self_eq_false _
  have tg:=aa hlen;clear hlen;go_wp2_with fail;go_loopw [5] (fun t5 wr=> ∃(k d:Nat),Hid (k≤xs.length∧xs.drop k=ys.drop k∧wr=w1.drewN d)∧t5= .int .i64 ((k:Int)-1)) (fun t5 _=>(intOf t5+1).toNat)
  case atStart=>exact⟨xs.length,0,aa ⟨aP _,by rw[List.drop_length,tg.out,List.drop_length],rfl⟩,rfl⟩
  case round=>
   obtain⟨k,d,hI,rfl⟩:=hrel;have hw:=hI.2.2;subst hw;by_cases hk:0<k
   ·obtain⟨i,rfl⟩: ∃i,k=i+1:=⟨k-1,by omega⟩;have hia:i<xs.length:=by have:=hI.1;omega
    have Z1:i<ys.length:=by have:=tg.out;omega
    have ei:((i+1:Nat):Int)-1=(i:Int):=by omega
    rw[ei];clear ei;have p2:((0:Int)≤(i:Int))=True:=az (by omega);obtain⟨ga,oa,rfl,hga,Ti⟩:=HCA i hia;obtain⟨gb,ob,rfl,hgb,Tj⟩:=HCB i Z1;have akF:=nV hia;obtain⟨x,hx⟩: ∃x,x=xs[i]:=⟨_,rfl⟩;obtain⟨y,hy⟩: ∃y,y=ys[i]:=⟨_,rfl⟩;rw[←hx]at Ti;rw[←hy]at Tj;have HXY:=aa (And.intro hx hy);have bi:i≤1099511627776:=by omega
    clear akF hx hy hk;rcases Et x y with WR|WR|WR
    ·have p3:((x:Int)<(y:Int))=True:=az (by omega);have xz:V= -1:=by
      have:aA xs<aA ys:=Ud HO.1 hia Z1 hI.2.1 (by rw[←HXY.out.1,←HXY.out.2];exact WR);rw[HV.out,qW,ar this]
     go_wp2_with fail;go_quiet (fail);go_wp2_with fail;go_ret;exact⟨(by first|rfl|(rw[xz];rfl)),_,(by first|rfl|(simp only[jN];rfl))⟩
    ·subst WR;have p3:((x:Int)<(x:Int))=False:=bL (by omega);go_wp2_with fail;go_quiet (fail);go_wp2_with fail;go_quiet (fail);go_wp2_with fail;have WT:xs.drop i=ys.drop i:=by
      rw[nV hia,nV Z1,hI.out.2.1,←HXY.out.1,←HXY.out.2]
     exact⟨⟨i,_,aa ⟨by omega,WT,rfl⟩,rfl⟩,by simp only[intOf];omega⟩
    ·have p3:((x:Int)<(y:Int))=False:=bL (by omega);have p4:((y:Int)<(x:Int))=True:=az (by omega);have xz:V=1:=by
      have:aA ys<aA xs:=Ud HO.2.1 Z1 hia hI.2.1.symm (by rw[←HXY.out.1,←HXY.out.2];exact WR);rw[HV.out,qW,af (by omega),ar this]
     go_wp2_with fail;go_quiet (fail);go_wp2_with fail;go_quiet (fail);go_wp2_with fail;go_ret;exact⟨(by first|rfl|(rw[xz];rfl)),_,(by first|rfl|(simp only[jN];rfl))⟩
   ·have lI:k=0:=by omega
    subst lI;have xz:V=0:=by
     have h1:=hI.2.1;rw[Bc,Bc]at h1;rw[HV.out,h1,qW,af (by omega),af (by omega)]
    go_wp2_with fail;go_ret;exact⟨(by first|rfl|(rw[xz];rfl)),_,rfl⟩
 ·have p1:((xs.length:Int)=(ys.length:Int))=False:=bL (by omega);have WQ:((xs.length:Int) != (ys.length:Int))=true:=by simpa using p1
  rcases dD xs.length ys.length with au|lW
  ·have p2:((xs.length:Int)<(ys.length:Int))=True:=az (by omega);have xz:V= -1:=by
    have:aA xs<aA ys:=zn HO.1 HO.2.2.2 au;rw[HV.out,qW,ar this]
   go_wp2_with fail;go_ret;exact⟨(by first|rfl|(rw[xz];rfl)),0,rfl⟩
  ·have p2:((xs.length:Int)<(ys.length:Int))=False:=bL (by omega);have xz:V=1:=by
    have:aA ys<aA xs:=zn HO.2.1 HO.2.2.1 (by omega);rw[HV.out,qW,af (by omega),ar this]
   go_wp2_with fail;go_ret;exact⟨(by first|rfl|(rw[xz];rfl)),0,rfl⟩
theorem BT: ∀(R:List Nat) (k x:Nat) (h:k<R.length),aA (R.set k x)+4294967296^k*R[k]=aA R+4294967296^k*x
 |[],k,x,h=>by simp at h
 |d::r,0,x,h=>by simp[aA];omega
 |d::r,k+1,x,h=>by
  have hk:k<r.length:=by simpa using h
  have ih:=BT r k x hk;simp only[dH,aA,List.getElem_cons_succ,ef];generalize 4294967296^k=B at*
  have e1:B*4294967296*r[k]=4294967296*(B*r[k]):=by simp only[bV,fu,qD]
  have e2:B*4294967296*x=4294967296*(B*x):=by simp only[bV,fu,qD]
  rw[e1,e2];omega
theorem G6 (R:List Nat) (k x:Nat):(cV R).set k (.int .u32 (x:Int))=cV (R.set k x):=by simp[cV,List.map_set]
theorem Fh (h:ek R) (hx:x<4294967296):ek (R.set k x):=fun d hd=>by
 rcases List.mem_or_eq_of_mem_set hd with h1|h1
 ·exact h d h1
 ·rw[h1];exact hx
theorem jr.set {w:World} {base g c:Nat} {R:List Nat} (h:jr w base (.slice (some ⟨g,0,none⟩) R.length c) R) (k x:Nat):jr (w.setCell ⟨g,k,none⟩ (.int .u32 (x:Int))) base (.slice (some ⟨g,0,none⟩) (R.set k x).length c) (R.set k x)∧w.grownBy (w.setCell ⟨g,k,none⟩ (.int .u32 (x:Int))) (some g):=by
 obtain⟨h1,h2⟩:=World.ownsRow.stored h.own k (.int .u32 (x:Int));rw[G6]at h1;refine⟨?_,h2⟩;unfold jr;rw[List.length_set];exact h1
structure kQ (w wr:World) (xs ys R:List Nat) (c:Nat) (i j cy:Nat):Prop where
 own:jr wr w.heap.size (.slice (some ⟨w.heap.size,0,none⟩) R.length c) R
 len:R.length=xs.length+ys.length
 ok:ek R
 zero: ∀k (h:k<R.length),i+ys.length≤k→R[k]=0
 lt:cy<4294967296
 val:aA R+4294967296^(i+j)*cy=aA (xs.take i)*aA ys+4294967296^i*(xs.getD i 0*aA (ys.take j))
 below:Below w.heap.size w wr
theorem kQ.drewN {w wr:World} {xs ys R:List Nat} {c i j cy:Nat} (h:kQ w wr xs ys R c i j cy) (n:Nat):kQ w (wr.drewN n) xs ys R c i j cy:=
 ⟨h.own,h.len,h.ok,h.zero,h.lt,h.val,bS h.below n⟩
theorem kQ.cell {w wr:World} {xs ys R:List Nat} {c i j cy:Nat} (h:kQ w wr xs ys R c i j cy) {k:Nat} (hk:k<R.length):wr.cell? ⟨w.heap.size,k,none⟩=some (.int .u32 (R[k]:Int)):=by
 rw[IG h.own.own k (by omega)];simp[cV,hk]
theorem kQ.frozen {w wr:World} {xs ys R:List Nat} {c i j cy:Nat} (h:kQ w wr xs ys R c i j cy) (k:Nat):wr.frozen? ⟨w.heap.size,k,none⟩=false:=World.ownsRow.frozenAt h.own.own k
theorem kQ.step {xs:List Nat} (h:kQ w wr xs ys R c i j cy) (hi:i<xs.length) (hj:j<ys.length) {S:Nat} (hx:i+j<R.length) (hS:S=cy+(R[i+j]+xs[i]*ys[j])) (abw:S<18446744073709551616):
  kQ w (wr.setCell ⟨w.heap.size,i+j,none⟩ (.int .u32 ((S%4294967296:Nat):Int))) xs ys (R.set (i+j) (S%4294967296)) c i (j+1) (S/4294967296):=by
 obtain⟨o1,o2⟩:=h.own.set (i+j) (S%4294967296);refine⟨o1,by rw[List.length_set];exact h.len,Fh h.ok (by omega),fun k hk hik=>?_,by omega,?_,h.below.grown o2 h.below.size (fun g hg=>by injection hg with hg;omega)⟩
 ·rw[List.getElem_set];rw[af (by omega)];exact h.zero k (by simpa using hk) hik
 ·have h1:=BT R (i+j) (S%4294967296) hx;have h2:=h.val;have hT:aA (ys.take (j+1))=aA (ys.take j)+4294967296^j*ys[j]:=by
   rw[jM hj,fK,nZ,mr (by omega)];simp[aA]
  have hg:xs.getD i 0=xs[i]:=by simp[List.getD,hi]
  rw[hg]at h2 ⊢
  rw[hT,ru,ru];have e0:4294967296^i*(xs[i]*(4294967296^j*ys[j]))=4294967296^(i+j)*(xs[i]*ys[j]):=by rw[dX];simp only[bV,fu,qD]
  rw[e0,←Bd i j 1,ef];generalize 4294967296^(i+j)=B at*
  have e1:B*S=B*cy+B*R[i+j]+B*(xs[i]*ys[j]):=by rw[hS,ru,ru];omega
  have e2:B*S=B*(S%4294967296)+B*4294967296*(S/4294967296):=by
   rw[bV,←ru,Nat.mod_add_div]
  omega
theorem kQ.last {xs:List Nat} (h:kQ w wr xs ys R c i ys.length cy) (hi:i<xs.length):
  kQ w (wr.setCell ⟨w.heap.size,i+ys.length,none⟩ (.int .u32 (cy:Int))) xs ys (R.set (i+ys.length) cy) c (i+1) 0 0:=by
 obtain⟨o1,o2⟩:=h.own.set (i+ys.length) cy;have hx:i+ys.length<R.length:=by rw[h.len];omega
 refine⟨o1,by rw[List.length_set];exact h.len,Fh h.ok h.lt,fun k hk hik=>?_,by omega,?_,h.below.grown o2 h.below.size (fun g hg=>by injection hg with hg;omega)⟩
 ·rw[List.getElem_set];rw[af (by omega)];exact h.zero k (by simpa using hk) (by omega)
 ·have h1:=BT R (i+ys.length) cy hx;have hz:=h.zero _ hx (aP _);rw[hz]at h1;have h2:=h.val;rw[rh]at h2;have hT:aA (xs.take (i+1))=aA (xs.take i)+4294967296^i*xs[i]:=by
   rw[jM hi,fK,nZ,mr (by omega)];simp[aA]
  have hg:xs.getD i 0=xs[i]:=by simp[List.getD,hi]
  rw[hg]at h2;rw[hT];clear hT hg hz o1 o2 hx;have e0:aA (List.take 0 ys)=0:=rfl;rw[e0];clear e0;generalize 4294967296^(i+1+0)=P0;generalize 4294967296^(i+1)=P1;generalize 4294967296^(i+ys.length)=P at h1 h2;generalize 4294967296^i=Q at h2 ⊢
  rw[nz,nz,nz,iv,iv];rw[nz,iv]at h1;generalize aA (R.set (i+ys.length) cy)=Z at h1 ⊢
  rw[h1,h2,oK,bV]
theorem zq (w:World) (va vb:Value) (xs ys:List Nat) (ha:pX w va xs) (hb:pX w vb ys) (Sj:ek xs) (Ik:ek ys) (hla:xs.length≤1099511627) (Hr:ys.length≤1099511627):
  Calls prog 130 #[va,vb] w (iz w (aA xs*aA ys)):=by
 obtain⟨ao,ca,rfl,hca⟩:=ha;obtain⟨bo,cb,rfl,hcb⟩:=hb;have HCA:=aa hca;have HCB:=aa hcb;have HO:=aa (And.intro Sj Ik);clear hca hcb Sj Ik;obtain⟨w1,Eh,uY,aU⟩:=tT w (xs.length+ys.length) (xs.length+ys.length) (aP _) (by omega);have afy:(Instr.makeSlice 181 (.int .i64 ((xs.length:Int)+(ys.length:Int))) (.int .i64 ((xs.length:Int)+(ys.length:Int)))).run prog w= .ok (.slice (some ⟨w.heap.size,0,none⟩) (xs.length+ys.length) (xs.length+ys.length)) w1:=Eh;have ZW:(List.replicate (xs.length+ys.length) 0).length=xs.length+ys.length:=uh;have HI0:=aa (show kQ w w1 xs ys (List.replicate (xs.length+ys.length) 0) (xs.length+ys.length) 0 0 0 from
  ⟨by rw[ZW];exact uY,ZW,fun d hd=>by have:=(Ov.1 hd).2;omega,fun k hk _=>by simp,by omega,by rw[qo _ fun d hd=>(Ov.1 hd).2];simp[aA],aU⟩)
 clear Eh uY aU ZW;go_enter func130,ntmps130;go_wp2_with fail;go_loopw [6] (fun t6 wr=> ∃(i:Nat) (R:List Nat),Hid (i≤xs.length∧kQ w wr xs ys R (xs.length+ys.length) i 0 0)∧t6= .int .i64 (i:Int)) (fun t6 _=>xs.length-(intOf t6).toNat)
 case atStart=>exact⟨0,_,aa ⟨aT _,HI0.out⟩,rfl⟩
 case round=>
  obtain⟨i,R0,hI,rfl⟩:=hrel;have HI:=aa hI.out.2;by_cases hi:i<xs.length
  ·have p1:((i:Int)<(xs.length:Int))=True:=az (by omega);obtain⟨ga,oa,rfl,hga,Ti⟩:=HCA.out i hi;obtain⟨x,hx⟩: ∃x,x=xs[i]:=⟨_,rfl⟩;have asq:x<4294967296:=by rw[hx];exact HO.out.1 _ (gj hi)
   rw[←hx]at Ti;have HX:=aa hx;have HXC:=aa Ti;have bi:i≤1099511627:=by omega
   have HIL:=aa hi;clear hx Ti hI;go_wp2_with fail;go_loopw [7,8] (fun t7 t8 wr=> ∃(j cy:Nat) (R:List Nat),Hid (j≤ys.length∧kQ w wr xs ys R (xs.length+ys.length) i j cy)∧t7= .int .u64 (cy:Int)∧t8= .int .i64 (j:Int)) (fun _ t8 _=>ys.length-(intOf t8).toNat)
   case atStart=>
    have h0:=HI.out;exact⟨0,0,R0,aa ⟨aT _,h0⟩,rfl,rfl⟩
   case round=>
    obtain⟨j,cy,R,hJ,rfl,rfl⟩:=hrel;have HJ:=aa hJ.out.2;have hRl:=HJ.out.len;have hcy:=HJ.out.lt;by_cases hj:j<ys.length
    ·have p2:((j:Int)<(ys.length:Int))=True:=az (by omega);obtain⟨gb,ob,rfl,hgb,Tj⟩:=HCB.out j hj;obtain⟨y,hy⟩: ∃y,y=ys[j]:=⟨_,rfl⟩;have asr:y<4294967296:=by rw[hy];exact HO.out.2 _ (gj hj)
     rw[←hy]at Tj;have XC:i+j<R.length:=by omega
     obtain⟨z,hz⟩: ∃z,z=R[i+j]:=⟨_,rfl⟩;have ass:z<4294967296:=by rw[hz];exact HJ.out.ok _ (gj XC)
     have cR:=HJ.out.cell XC;rw[←hz]at cR;have cX:=(HJ.out.below.cell (p:=⟨ga,oa+i,none⟩) hga).trans HXC.out;have cY:=(HJ.out.below.cell (p:=⟨gb,ob+j,none⟩) hgb).trans Tj;have fR:=HJ.out.frozen (i+j);obtain⟨P,hP⟩: ∃P,P=x*y:=⟨_,rfl⟩;have hP2:P≤18446744065119617025:=by
      have:x*y≤4294967295*4294967295:=oH (by omega) (by omega);omega
     obtain⟨Q,hQ⟩: ∃Q,Q=z+P:=⟨_,rfl⟩;obtain⟨S,hS⟩: ∃S,S=cy+Q:=⟨_,rfl⟩;have abw:S<18446744073709551616:=by omega
     have q1:IntKind.u64.wrap ((x:Int)*(y:Int))=(P:Int):=by rw[cT,←yD,←hP];omega
     have q2:IntKind.u64.wrap ((z:Int)+(P:Int))=(Q:Int):=by rw[cT];omega
     have q3:IntKind.u64.wrap ((cy:Int)+(Q:Int))=(S:Int):=by rw[cT];omega
     obtain⟨lo,Aq⟩: ∃lo,lo=S%4294967296:=⟨_,rfl⟩;have q4:IntKind.u32.wrap (S:Int)=(lo:Int):=by rw[rn];omega
     have rD: ∀n,kQ w ((wr.drewN n).setCell ⟨w.heap.size,i+j,none⟩ (.int .u32 (lo:Int))) xs ys (R.set (i+j) lo) (xs.length+ys.length) i (j+1) (S/4294967296):=fun n=>by
      rw[Aq];exact(HJ.out.drewN n).step HIL.out hj XC (S:=S) (by rw[hS,hQ,hP,HX.out,hy,hz]) abw
     have hdiv:(S:Int)/4294967296=((S/4294967296:Nat):Int):=by omega
     have agG:=aa rD;have akG:=aa hdiv;have bj:j≤1099511627:=by omega
     have ast:i+j<xs.length+ys.length:=by omega
     have HJL:=aa hj;clear rD hdiv hz hy hP hQ hS Tj Aq hP2 hRl;go_wp2_with fail;go_quiet (fail);go_wp2_with fail;exact⟨⟨j+1,S/4294967296,R.set (i+j) lo,aa ⟨HJL.out,agG.out nq⟩,(by apply vi';exact akG.out),rfl⟩,gH HJL.out⟩
    ·have hje:j=ys.length:=by have:=hJ.out.1;omega
     have p2:((j:Int)<(ys.length:Int))=False:=bL (by omega);have TK:=HJ.out;rw[hje]at TK;have Ar:=TK.last HIL.out;have ZV:i+ys.length<R.length:=by have:=HIL.out;omega
     have cR:=HJ.out.cell ZV;have fR:=HJ.out.frozen (i+ys.length);have q4:IntKind.u32.wrap (cy:Int)=(cy:Int):=by rw[rn];omega
     have q5:(cy:Int)%4294967296=(cy:Int):=by omega
     have asu:i+ys.length<xs.length+ys.length:=by have:=HIL.out;omega
     have HL2:=aa Ar;have HJE:=aa hje;generalize R[i+ys.length]=zz at cR;clear TK Ar hRl ZV;rw[HJE.out]at p2 ⊢
     go_wp2_with fail;exact⟨⟨i+1,_,aa ⟨HIL.out,HL2.out⟩,rfl⟩,gH HIL.out⟩
  ·have Ly:i=xs.length:=by have:=hI.out.1;omega
   have p1:((i:Int)<(xs.length:Int))=False:=bL (by omega);have kH:=HI.out;have ll:aA R0=aA xs*aA ys:=by
    have h1:=kH.val;rw[Ly,rh,show aA (List.take 0 ys)=0 from rfl]at h1;generalize 4294967296^(xs.length+0)=P1 at h1;generalize 4294967296^xs.length=P2 at h1;rw[nz,nz,nz,iv,iv]at h1;exact h1
   have hOO:=kH.own;have hlen:=kH.len;rw[hlen]at hOO;have HOO:=aa hOO;have HF:=aa (And.intro ll (And.intro kH.ok kH.below));have Ij:R0.length≤1099511627776:=by omega
   clear ll kH hOO hlen hI HI;go_wp2_with fail;refine(lz _ w.heap.size _ _ HOO.out Ij).mono ?_;rintro e w3 ⟨⟨v3,fs,rfl,f1,f2,f3,f4⟩,rfl⟩;have HR:=aa (show (∃v es,Ending.returned v3= .returned v∧jr w3 w.heap.size v es∧aA es=aA xs*aA ys∧Norm es∧ek es)∧Below w.heap.size w w3 from⟨⟨v3,fs,rfl,f1,f2.trans HF.out.1,f3,f4 HF.out.2.1⟩,HF.out.2.2⟩);clear f1 f2 f3 f4;go_wp2_with fail;go_ret;exact HR.out
theorem Gi (n:Nat):10^n<4294967296^(n+1):=by
 have h1:(10:Nat)^n≤4294967296^n:=Nat.pow_le_pow_left (by decide) n;have h2:(4294967296:Nat)^n<4294967296^(n+1):=Nat.pow_lt_pow_right (by decide) (vw n);omega
structure P8 (w wr:World) (v:Value) (n m:Nat) (es:List Nat):Prop where
 own:jr wr w.heap.size v es
 ok:ek es
 norm:Norm es
 val:aA es*10^m=10^n
 le:m≤n
 below:Below w.heap.size w wr
theorem P8.len (h:P8 w wr v n m es):es.length≤n+1:=by
 apply mM h.norm;have h1:=Gi n;have h2:=h.val;have h3:aA es*1≤aA es*10^m:=uj _ (eX (by decide));omega
theorem Fi (w:World) (n:Nat) (hn:n≤1099511627):
  Calls prog 129 #[.int .u32 10,.int .i64 (n:Int)] w (iz w (10^n)):=by
 have uY:jr (w.alloc (.cells #[.int .u32 1] 184)) w.heap.size (.slice (some ⟨w.heap.size,0,none⟩) 1 1) [1]:=yz (e:=184) (size:=1) w #[.int .u32 1] 1 (aP _) (by unfold maxLen;omega) rfl;have HI0:=aa (show P8 w (w.alloc (.cells #[.int .u32 1] 184)) (.slice (some ⟨w.heap.size,0,none⟩) 1 1) n n [1]from
  ⟨uY,fun d hd=>by simp at hd;omega,fun _=>by simp,by show (1+4294967296*0)*_=_;rw[nz,iv,Bi],aP _,(aS _ _).alloc (aP _) _⟩)
 clear uY;go_enter func129,ntmps129;go_wp2_with fail;go_loopw [1,5] (fun t1 t5 wr=> ∃(m:Nat) (es:List Nat),Hid (P8 w wr t5 n m es)∧t1= .int .i64 (m:Int)) (fun t1 _ _=>(intOf t1).toNat)
 case atStart=>exact⟨n,[1],HI0,rfl⟩
 case round=>
  obtain⟨m,es,HI,rfl⟩:=hrel;obtain⟨rv,rc,hrv⟩:=pj HI.own;subst hrv;have hmn:=HI.le;by_cases hm:0<m
  ·have p1:((0:Int)<(m:Int))=True:=az (by omega);have HM:=aa hm;go_wp2_with fail;go_loopw [1,6,7] (fun t1 t6 t7 wx=> ∃(j m' k:Nat),Hid (j≤9∧m'+j=m∧k=10^j∧wx=wr)∧t1= .int .i64 (m':Int)∧t6= .int .u32 (k:Int)∧t7= .int .i64 (j:Int)) (fun _ _ t7 _=>9-(intOf t7).toNat)
   case atStart=>exact⟨0,m,1,aa ⟨by omega,rfl,rfl,rfl⟩,rfl,rfl,rfl⟩
   case round=>
    obtain⟨j,m',k,hJ,rfl,rfl,rfl⟩:=hrel;have hw:=hJ.2.2.2;subst hw;by_cases hj:j<9
    ·have p2:((j:Int)<9)=True:=az (by omega);by_cases hm':0<m'
     ·have p3:((0:Int)<(m':Int))=True:=az (by omega);have hk9:k≤100000000:=by
       have:k=10^j:=hJ.2.2.1;have h2:(10:Nat)^j≤10^8:=ee (by decide) (by omega);have h3:(10:Nat)^8=100000000:=by decide
       omega
      have q1:IntKind.u32.wrap ((k:Int)*10)=((k*10:Nat):Int):=by rw[rn];omega
      have bm:m'≤1099511627:=by have:=hJ.2.1;omega
      go_wp2_with fail;refine⟨⟨j+1,m'-1,k*10,aa ⟨by omega,by have:=hJ.2.1;omega,by rw[hJ.out.2.2.1,ef],trivial⟩,?_,?_,rfl⟩,gH hj⟩
      ·apply vi';omega
      ·apply vi';omega
     ·have p3:((0:Int)<(m':Int))=False:=bL (by omega);go_wp2_with fail;have ht:Calls prog 139 #[.slice rv es.length rc,.int .u32 (k:Int),.int .u32 0] wr (iz wr (aA es*k+0)):=sR wr _ es k 0 HI.own.r HI.ok (by have:=HI.len;omega) (by
       have h1:k=10^j:=hJ.2.2.1;have h2:(10:Nat)^j≤10^9:=ee (by decide) hJ.1;have h3:(10:Nat)^9=1000000000:=by decide
       omega) (by decide)
      refine ht.mono ?_;rintro e w2 ⟨⟨v2,fs,rfl,f1,f2,f3,f4⟩,hb⟩;have F3:P8 w w2 v2 n m' fs:=by
       refine⟨bW f1 HI.below.size,f4,f3,?_,by have:=hJ.2.1;omega,HI.below.trans (hb.mono HI.below.size)⟩;have h1:k=10^j:=hJ.2.2.1;have h2:=HI.val;have h3:m=j+m':=by have:=hJ.2.1;omega
       rw[h3,dX]at h2;rw[f2,iv,h1,bV];exact h2
      have Tk:=aa F3;have au:m'<m:=by have:=hJ.2.1;have:=HM.out;omega
      clear f1 f2 f3 f4 hb F3 ht;go_wp2_with fail;exact⟨⟨m',fs,Tk,rfl⟩,by simp only[intOf];omega⟩
    ·have p2:((j:Int)<9)=False:=bL (by omega);go_wp2_with fail;have ht:Calls prog 139 #[.slice rv es.length rc,.int .u32 (k:Int),.int .u32 0] wr (iz wr (aA es*k+0)):=sR wr _ es k 0 HI.own.r HI.ok (by have:=HI.len;omega) (by
      have h1:k=10^j:=hJ.2.2.1;have h2:(10:Nat)^j≤10^9:=ee (by decide) hJ.1;have h3:(10:Nat)^9=1000000000:=by decide
      omega) (by decide)
     refine ht.mono ?_;rintro e w2 ⟨⟨v2,fs,rfl,f1,f2,f3,f4⟩,hb⟩;have F3:P8 w w2 v2 n m' fs:=by
      refine⟨bW f1 HI.below.size,f4,f3,?_,by have:=hJ.2.1;omega,HI.below.trans (hb.mono HI.below.size)⟩;have h1:k=10^j:=hJ.2.2.1;have h2:=HI.val;have h3:m=j+m':=by have:=hJ.2.1;omega
      rw[h3,dX]at h2;rw[f2,iv,h1,bV];exact h2
     have Tk:=aa F3;have au:m'<m:=by have:=hJ.2.1;have:=HM.out;omega
     clear f1 f2 f3 f4 hb F3 ht;go_wp2_with fail;exact⟨⟨m',fs,Tk,rfl⟩,by simp only[intOf];omega⟩
  ·have p1:((0:Int)<(m:Int))=False:=bL (by omega);have hm0:m=0:=by omega
   have hv:=HI.val;rw[hm0,pK,oC]at hv;have HV:=aa hv;clear hv;go_wp2_with fail;go_ret;exact⟨⟨_,es,rfl,HI.own,HV,HI.norm,HI.ok⟩,HI.below⟩
