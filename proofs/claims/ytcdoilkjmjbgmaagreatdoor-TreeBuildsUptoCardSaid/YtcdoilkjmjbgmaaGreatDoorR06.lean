import Derived.Laws.FloatArith
import Derived.Test.YtcdoilkjmjbgmaaGreatDoorR05
import Derived.Test.YtcdoilkjmjbgmaaGreatDoorR03
import Derived.Deep.CutRange
import Derived.Deep.RegionLaw
import Derived.BigRegion
import Derived.Deep.RegionHeld3
/- Part of the proof of YtcdoilkjmjbgmaaGreatDoorCardR: PlO PlQ PlR PlS PlT PlU PlUa PlN PlV PlW PlP PlX PlF PlG PlH LexC PlI RdA OvA OvB PlY. -/
set_option maxRecDepth 100000
set_option maxHeartbeats 4000000
set_option linter.unusedVariables false
set_option linter.unusedSimpArgs false
namespace Go.Proofs.YtcdoilkjmjbgmaaGreatDoor
open Go.RowKit
open Tryz
variable {y x l:List UInt8} {k F r nd K X d r0 j A B Y δ N M L m n mm sp np i base size p at' er J V:Nat} {D:Nat→Nat} {c:UInt8} {e:TypeId} {s t:ByteArray} {P:Int} {dt dg tr br sq b q:Bool} {ops:Array Oper} {o:Oper} {a:Act} {w0 w w':World} {v:Value} {xs:List Value} {cs:Array Value}
def Qe:List Nat:=[4607182418800017408,4621819117588971520,4636737291354636288,4652007308841189376,4666723172467343360,4681608360884174848,4696837146684686336,4711630319722168320,4726483295884279808,4741671816366391296,4756540486875873280,4771362005757984768,4786511204640096256,4801453603149578240,4816244402031689728,4831355200913801216,4846369599423283200,4861130398305394688,4876203697187506176,4891288408196988160,4906019910204099648,4921056587992461136,4936209963552724370]
def fa:Nat:=9218868437227405312
def IL (y:Nat):Bool:=match Ieee.double.read y with| .number false m _=>m != 0|_=>false
theorem JB {y:Nat} (h:IL y=true): ∃m e,Ieee.double.read y= .number false m e∧m≠0:=by
 unfold IL at h;split at h
 ·rename_i m e he;exact⟨m,e,he,by simpa using h⟩
 ·cases h
theorem UA: ∀y∈Qe,IL y=true:=by decide+kernel
theorem OZ {x:Nat} (h:x≤fa):(∃m e,Ieee.double.read x= .number false m e)∨Ieee.double.read x= .infinity false:=by
 have h0:x<9223372036854775808:=pw h (by decide);have hs:Ieee.double.signWeight=9223372036854775808:=by decide+kernel
 have hi:Ieee.double.infRung=fa:=by decide+kernel
 have e1:x/9223372036854775808=0:=tO h0;have e2:x%9223372036854775808=x:=tz h0;unfold Ieee.Format.read;rw[hs,hi,e1,e2];simp only[Nat.zero_mod];split
 ·exact .inl ⟨_,_,rfl⟩
 ·split
  ·exact .inl ⟨_,_,rfl⟩
  ·rename_i h1 h2;have:x=fa:=by omega
   rw[au this];exact .inr rfl
theorem uQ (m:Nat) (e:Int):Ieee.double.nearest false m e≤fa:=by
 have hi:Ieee.double.infRung=fa:=by decide+kernel
 unfold Ieee.Format.nearest;split
 ·simp[Ieee.Format.word]
 ·simp only[Ieee.Format.word,lE,iG,hi];exact Nat.min_le_right _ _
theorem E8:Ieee.double.write (.infinity false)≤fa:=by decide+kernel
theorem abD {x y:Nat} (hx:x≤fa) (hy:IL y=true): ∃r,floatBits .mul .f64 x y=some r∧r≤fa:=by
 obtain⟨n,j,hr,hn⟩:=JB hy;have LY:floatBits .mul .f64 x y=((Ieee.double.read x).product (Ieee.double.read y)).map Ieee.double.write:=rfl;rw[LY,hr];rcases OZ hx with⟨m,e,h⟩|h
 ·rw[h];exact⟨_,rfl,uQ _ _⟩
 ·rw[h];simp only[Ieee.Datum.product,af hn];exact⟨_,rfl,E8⟩
theorem abE {x y:Nat} (hx:x≤fa) (hy:IL y=true): ∃r,floatBits .quo .f64 x y=some r∧r≤fa:=by
 obtain⟨n,j,hr,hn⟩:=JB hy;have LY:floatBits .quo .f64 x y=((Ieee.double.read x).quotient (Ieee.double.fractionBits+2) (Ieee.double.read y)).map Ieee.double.write:=rfl;rw[LY,hr];rcases OZ hx with⟨m,e,h⟩|h
 ·rw[h];simp only[Ieee.Datum.quotient,af hn];exact⟨_,rfl,uQ _ _⟩
 ·rw[h];exact⟨_,rfl,E8⟩
theorem JC (m:Nat):floatOfInt .f64 (m:Int)≤fa:=by
 unfold floatOfInt FloatKind.nearest FloatKind.encode;have:decide ((m:Int)<0)=false:=by simp
 show Ieee.double.write (.number (decide ((m:Int)<0)) _ 0)≤fa;rw[this];exact uQ _ _
def vH (x y:Nat):Nat:=(floatBits .mul .f64 x y).getD 0
def Ge (x y:Nat):Nat:=(floatBits .quo .f64 x y).getD 0
theorem GF {x y:Nat} (hx:x≤fa) (hy:IL y=true):floatBits .mul .f64 x y=some (vH x y)∧vH x y≤fa:=by
 obtain⟨r,h1,h2⟩:=abD hx hy;unfold vH;rw[h1];exact⟨rfl,h2⟩
theorem O0 {x y:Nat} (hx:x≤fa) (hy:IL y=true):floatBits .quo .f64 x y=some (Ge x y)∧Ge x y≤fa:=by
 obtain⟨r,h1,h2⟩:=abE hx hy;unfold Ge;rw[h1];exact⟨rfl,h2⟩
def fl (k:Nat):Nat:=Qe.getD k 0
theorem rR (h:k<23):IL (fl k)=true:=by
 have hl:k<Qe.length:=h;rw[fl,lA,eG hl];exact UA _ (jz hl)
def Gf (x:Nat):Bool:=(FloatKind.f64.format.order x 4831355200913801216==some .gt)||(FloatKind.f64.format.order x 14054727237768577024==some .lt)
def fQ (m : Nat) (p : Int) : Option Nat :=
  if m/4503599627370496≠0 then none
  else if p=0 then some (floatOfInt .f64 (m:Int))
  else if 0 < p ∧ p ≤ 37 then
    (if Gf (if 22 < p then vH (floatOfInt .f64 (m : Int)) (fl (p - 22).toNat) else floatOfInt .f64 (m : Int)) then none
     else some (vH (if 22<p then vH (floatOfInt .f64 (m:Int)) (fl (p-22).toNat)else floatOfInt .f64 (m:Int)) (fl (if 22<p then 22 else p.toNat))))
  else if p<0∧ -22≤p then some (Ge (floatOfInt .f64 (m:Int)) (fl (-p).toNat))
  else none
def Ib (D:Nat→Nat) (i c:Nat):Nat→Nat:=fun j=>if j=i then c else D j
def eB (D:Nat→Nat):Nat→Nat
 |0=>0
 |m+1=>if D m=48 then eB D m else m+1
theorem mJ (D:Nat→Nat): ∀m,eB D m≤m
 |0=>aS _
 |m+1=>by have:=mJ D m;unfold eB;split<;>omega
def pP (D:Nat→Nat) (nd:Nat) (dp:Int):Int:=if eB D nd=0 then 0 else dp
def pH (p:Nat→Bool):Nat→Nat→Nat
 |0,r=>r
 |f+1,r=>if p r=true then r else pH p f (r+1)
theorem BP {p:Nat→Bool} (hF:r<F) (h:p r=true):pH p (F-r) r=r:=by
 obtain⟨f,hf⟩: ∃f,F-r=f+1:=⟨F-r-1,by omega⟩;rw[hf,pH,au h]
theorem yb {p:Nat→Bool} (hF:r<F) (h:p r=false):pH p (F-r) r=pH p (F-(r+1)) (r+1):=by
 obtain⟨f,hf⟩: ∃f,F-r=f+1:=⟨F-r-1,by omega⟩;have h2:F-(r+1)=f:=by omega
 rw[hf,h2,pH,af (by rw[h];simp)]
def sH (D:Nat→Nat) (nd r:Nat):Nat:=if r<nd then D r-48 else 0
def pre (D:Nat→Nat) (nd:Nat):Nat→Nat
 |0=>0
 |r+1=>pre D nd r*10+sH D nd r
def jE (D:Nat→Nat) (nd:Nat):Prop:=(∀i,i<nd→48≤D i∧D i≤57)∧(0<nd→D 0≠48)
theorem pQ (h:jE D nd) (r:Nat):sH D nd r≤9:=by
 unfold sH;split
 ·rename_i hr;have:=h.1 r hr;omega
 ·omega
theorem lW {D : Nat → Nat} {nd : Nat} (h : jE D nd) (hn : 0 < nd) : ∀ r, 10 ^ r ≤ pre D nd (r + 1)
  | 0 => by
    have h1:=h.1 0 hn
    have h2:=h.2 hn
    simp only[pre,sH,au hn]
    omega
  | r + 1 => by
    have ih:=lW h hn r
    rw[pre,et]
    omega
theorem xS {D:Nat→Nat} {nd:Nat} (h:jE D nd): ∀r,pre D nd r<10^r
 |0=>by simp[pre]
 |r+1=>by
  have ih:=xS h r;have:=pQ h r;rw[pre,et];omega
theorem ik (D:Nat→Nat) (nd:Nat): ∀m,pre D nd (nd+m)=pre D nd nd*10^m
 |0=>by simp
 |m+1=>by
  rw[←Bk,pre,ik D nd m,sH,af (by omega),et];simp[ct]
def tV (D:Nat→Nat) (nd k r:Nat):Bool:=decide (2^k≤pre D nd r)
def AS (D:Nat→Nat) (nd k:Nat):Nat:=pH (tV D nd k) 1000 0
def ji (D:Nat→Nat) (nd k r0 i:Nat):Nat:=pre D nd (r0+i)/2^k%10
def mF (D:Nat→Nat) (nd k r0 j:Nat):Bool:=decide (pre D nd (r0+j)%(10*2^k)=0)
def rsW (D:Nat→Nat) (nd k r0:Nat):Nat:=pH (mF D nd k r0) (2000-(nd-r0)) (nd-r0)
def sI (D:Nat→Nat) (nd k r0 j:Nat):Nat→Nat:=fun i=>if i<j∧i<800 then 48+ji D nd k r0 i else D i
def Xb (D:Nat→Nat) (nd k r0 j:Nat):Bool:=(List.range j).any fun i=>decide (800≤i)&&decide (0<ji D nd k r0 i)
theorem Yc (hK:0<K) (hd:d≤9):(X%(10*K))/K=X/K%10∧(X%(10*K))%K*10+d=(X*10+d)%(10*K):=by
 have h1:X%(10*K)=X%K+K*(X/K%10):=by
  rw[fA 10 K];exact Nat.mod_mul
 have ax:X%K<K:=mD _ hK;refine⟨?_,?_⟩
 ·rw[h1,Nat.add_mul_div_left _ _ hK,tO ax,kP]
 ·rw[h1,Tu,Nat.mod_mod];have h2:X=X%K+K*(X/K):=(Nat.mod_add_div X K).symm;have e:10*K*(X/K)=10*(K*(X/K)):=ct _ _ _;have h3:X*10+d=(X%K*10+d)+10*K*(X/K):=by
   rw[e];generalize K*(X/K)=Q at h2 ⊢
   generalize X%K=R at h2 ⊢
   omega
  have ajm:X%K*10+d<10*K:=by
   generalize X%K=R at ax ⊢
   omega
  rw[h3,Tu,tz ajm]
theorem JD (hj:j<800):Ib (sI D nd k r0 j) j (48+ji D nd k r0 j)=sI D nd k r0 (j+1):=by
 funext i;unfold Ib sI;by_cases e:i=j
 ·subst e;rw[au rfl,au ⟨by omega,hj⟩]
 ·rw[af e];by_cases h:i<j∧i<800
  ·rw[au h,au ⟨by omega,h.2⟩]
  ·rw[af h,af (by omega)]
theorem O1 (hj:800≤j):sI D nd k r0 (j+1)=sI D nd k r0 j:=by
 funext i;unfold sI;by_cases h:i<j∧i<800
 ·rw[au h,au ⟨by omega,h.2⟩]
 ·rw[af h,af (by omega)]
theorem UB (h:j≤r):sI D nd k r0 j r=D r:=by
 unfold sI;rw[af (by omega)]
theorem UC:sI D nd k r0 0=D:=by
 funext i;unfold sI;rw[af (by omega)]
theorem BQ:Xb D nd k r0 (j+1)=(Xb D nd k r0 j||(decide (800≤j)&&decide (0<ji D nd k r0 j))):=by
 unfold Xb;rw[ru,List.any_append];simp
theorem QJ (h:j≤800):Xb D nd k r0 j=false:=by
 unfold Xb;rw[List.any_eq_false];intro i hi;have:=qy.1 hi;rw[gA (by omega)];simp
def Br (D:Nat→Nat) (nd k:Nat):Nat:=min (rsW D nd k (AS D nd k)) 800
def xH (D:Nat→Nat) (nd k:Nat):Nat→Nat:=sI D nd k (AS D nd k) (rsW D nd k (AS D nd k))
def DQ (D:Nat→Nat) (nd k:Nat):Nat:=eB (xH D nd k) (Br D nd k)
def Qf (D:Nat→Nat) (nd k:Nat) (dp:Int):Int:=pP (xH D nd k) (Br D nd k) (dp-((AS D nd k:Int)-1))
def XL (D:Nat→Nat) (nd k:Nat) (tr:Bool):Bool:=tr||Xb D nd k (AS D nd k) (rsW D nd k (AS D nd k))
def ib (D:Nat→Nat) (nd:Nat):List UInt8→Nat→Bool
 |[],_=>false
 |c::r,i=>if nd≤i then true else if D i=c.toNat then ib D nd r (i+1)else decide (D i<c.toNat)
def SE (D:Nat→Nat):Nat→Nat→Nat
 |_,0=>0
 |i,m+1=>(D i-48)*10^m+SE D (i+1) m
def vl:List UInt8→Nat
 |[]=>0
 |c::r=>(c.toNat-48)*10^r.length+vl r
def xI:List UInt8→Prop
 |[]=>True
 |[c]=>49≤c.toNat∧c.toNat≤57
 |c::d::r=>48≤c.toNat∧c.toNat≤57∧xI (d::r)
theorem xI.head: ∀{r:List UInt8},xI (c::r)→48≤c.toNat∧c.toNat≤57
 |[],h=>⟨bP (by omega) h.1,h.2⟩
 |_::_,h=>⟨h.1,h.2.1⟩
theorem xI.tail: ∀{r:List UInt8},xI (c::r)→xI r
 |[],_=>trivial
 |_::_,h=>h.2.2
theorem TV {c:UInt8}: ∀{r:List UInt8},xI (c::r)→0<vl (c::r)
 |[],h=>by simp only[xI]at h;simp only[vl,nW,pA];omega
 |d::r,h=>by
  have:=TV h.2.2;rw[vl];omega
theorem Z3: ∀{r:List UInt8},xI r→vl r<10^r.length
 |[],_=>by simp[vl]
 |c::r,h=>by
  have ih:=Z3 h.tail;have hc:=h.head;rw[vl,dZ,et];have:(c.toNat-48)*10^r.length≤9*10^r.length:=fi _ (by omega);omega
theorem TW {D:Nat→Nat} {nd:Nat} (h:jE D nd): ∀(m i:Nat),i+m≤nd→SE D i m<10^m
 |0,_,_=>by simp[SE]
 |m+1,i,hi=>by
  have ih:=TW h m (i+1) (by omega);have hc:=h.1 i (by omega);rw[SE,et];have:(D i-48)*10^m≤9*10^m:=fi _ (by omega);omega
theorem O2 {D:Nat→Nat} {nd:Nat}: ∀(m i:Nat),i+m=nd→pre D nd nd=pre D nd i*10^m+SE D i m
 |0,i,hi=>by rw[←hi];simp[SE]
 |m+1,i,hi=>by
  have ih:=O2 (D:=D) (nd:=nd) m (i+1) (by omega);rw[ih,pre,SE,sH,au (by omega),et,oB,ct,fA 10 (10^m)];omega
theorem UD {e:Nat} (hX:X<A) (hY:Y<B):((d*A+X)*(B*10)<(e*B+Y)*(A*10))↔(d<e∨(d=e∧X*B<Y*A)):=by
 have hA:0<A:=by omega
 have hB:0<B:=by omega
 have e1:(d*A+X)*(B*10)=(d*(A*B)+X*B)*10:=by rw[←ct,oB,ct]
 have e2:(e*B+Y)*(A*10)=(e*(A*B)+Y*A)*10:=by rw[←ct,oB,ct,fA B A]
 rw[e1,e2];have hXB:X*B<A*B:=qN hX hB;have hYA:Y*A<A*B:=by rw[fA A B];exact qN hY hA
 obtain⟨P,hP⟩: ∃P,P=A*B:=⟨_,rfl⟩;rw[←hP]at hXB hYA ⊢
 rcases EA d e with h|h|h
 ·have:(d+1)*P≤e*P:=fi _ h;rw[oB]at this;constructor
  ·intro _;exact .inl h
  ·intro _;omega
 ·subst h;constructor
  ·intro h2;exact .inr ⟨rfl,by omega⟩
  ·rintro(h2|⟨_,h2⟩)
   ·omega
   ·omega
 ·have:(e+1)*P≤d*P:=fi _ h;rw[oB]at this;constructor
  ·intro h2;omega
  ·rintro(h2|⟨h2,_⟩)
   ·omega
   ·omega
theorem E9 {D:Nat→Nat} {nd:Nat} (h:jE D nd): ∀(r:List UInt8) (i m:Nat),i+m=nd→xI r→(ib D nd r i=true↔SE D i m*10^r.length<vl r*10^m)
 |[],i,m,_,_=>by simp[ib,vl]
 |c::r,i,0,hi,hr=>by
  have:=TV hr;rw[ib,au (by omega)];simp only[SE,yT,pA,ow,true_iff];exact this
 |c::r,i,m+1,hi,hr=>by
  have ih:=E9 h r (i+1) m (by omega) hr.tail;have hX:=TW h m (i+1) (by omega);have hY:=Z3 hr.tail;have hd:=h.1 i (by omega);have hc:=hr.head;rw[ib,af (by omega),SE,vl,dZ,et,et,UD hX hY];by_cases hD:D i=c.toNat
  ·rw[au hD,ih,hD];simp
  ·rw[af hD,zY];omega
theorem abF {s:List UInt8} (h:jE D nd) (hn:0<nd) (hs:xI s) (hv:vl s=5^k) (hl:s.length+δ=k+1) (hδ:1≤δ) (ajn:10^(δ-1)≤2^k) (ajo:2^k≤10^δ):
  (ib D nd s 0=false→10^(nd+δ-1)≤pre D nd nd*2^k∧pre D nd nd*2^k<10^(nd+δ))∧
  (ib D nd s 0=true→10^(nd+δ-2)≤pre D nd nd*2^k∧pre D nd nd*2^k<10^(nd+δ-1)):=by
 have hN:pre D nd nd=SE D 0 nd:=by have:=O2 (D:=D) (nd:=nd) nd 0 (by omega);simpa [pre]using this
 have hp:=E9 h s 0 nd (by omega) hs;rw[←hN,hv]at hp;have AT:10^(nd-1)≤pre D nd nd:=by
  have:=lW h hn (nd-1)
  rwa [I1 hn]at this
 have tj:=xS h nd;obtain⟨N,hNN⟩: ∃N,N=pre D nd nd:=⟨_,rfl⟩;rw[←hNN]at hp AT tj ⊢
 have Ia:(5:Nat)^k*2^k=10^k:=by rw[←Bo]
 constructor
 ·intro hf;have mg:5^k*10^nd≤N*10^s.length:=by
   rcases dF (N*10^s.length) (5^k*10^nd)with ax|mg
   ·have:=hp.2 ax;rw[hf]at this;simp at this
   ·exact mg
  constructor
  ·have h1:10^s.length*10^(nd+δ-1)≤10^s.length*(N*2^k):=by
    have e1:10^s.length*10^(nd+δ-1)=5^k*10^nd*2^k:=by
     rw[yK,Ia,←ee,←ee];congr 1;omega
    have e2:10^s.length*(N*2^k)=N*10^s.length*2^k:=by rw[←ct,fA (10^s.length) N]
    rw[e1,e2];exact fi _ mg
   exact Nat.le_of_mul_le_mul_left h1 (fb (by omega))
  ·rw[ee];exact gU (qN tj (fb (by omega))) (uE _ ajo)
 ·intro ht;have ax:=hp.1 ht;constructor
  ·have e1:(10:Nat)^(nd+δ-2)=10^(nd-1)*10^(δ-1):=by rw[←ee];congr 1;omega
   rw[e1];exact oA AT ajn
  ·have h1:10^s.length*(N*2^k)<10^s.length*10^(nd+δ-1):=by
    have e1:10^s.length*10^(nd+δ-1)=5^k*10^nd*2^k:=by
     rw[yK,Ia,←ee,←ee];congr 1;omega
    have e2:10^s.length*(N*2^k)=N*10^s.length*2^k:=by rw[←ct,fA (10^s.length) N]
    rw[e1,e2];exact qN ax (fb (by omega))
   exact Nat.lt_of_mul_lt_mul_left h1
def DG (k:Nat):Nat:=(Go.Pinned.cheatRows.getD k (0,[])).1
def LJ (k:Nat):List UInt8:=(Go.Pinned.cheatRows.getD k (0,[])).2
def Jj:List UInt8→Bool
 |[]=>true
 |[c]=>decide (49≤c.toNat)&&decide (c.toNat≤57)
 |c::d::r=>decide (48≤c.toNat)&&decide (c.toNat≤57)&&Jj (d::r)
theorem JE: ∀{l:List UInt8},Jj l=true→xI l
 |[],_=>trivial
 |[c],h=>by simp only[Jj,kN,uF]at h;exact h
 |c::d::r,h=>by
  rw[Jj,kN,kN]at h;exact⟨nT h.1.1,nT h.1.2,JE h.2⟩
def TX (k:Nat):Bool:=Jj (LJ k)&&decide (vl (LJ k)=5^k)&&decide ((LJ k).length+DG k=k+1)&&decide (1≤DG k)&&decide (10^(DG k-1)≤2^k)&&decide (2^k≤10^DG k)&&decide (DG k≤20)&&decide ((LJ k).length≤60)
theorem QK:((List.range 60).all fun k=>TX (k+1))=true:=by kernel_rfl
structure Yd (k:Nat):Prop where
 gT:xI (LJ k)
 val:vl (LJ k)=5^k
 len:(LJ k).length+DG k=k+1
 pos:1≤DG k
 lo:10^(DG k-1)≤2^k
 hi:2^k≤10^DG k
 small:DG k≤20
 short:(LJ k).length≤60
theorem BR (h1:1≤k) (h2:k≤60):Yd k:=by
 have:=rq.1 QK (k-1) (qy.2 (by omega));rw[I1 h1]at this;simp only[TX,kN,uF]at this;obtain⟨⟨⟨⟨⟨⟨⟨a,b⟩,c⟩,d⟩,e⟩,f⟩,g⟩,i⟩:=this;exact⟨JE a,b,c,d,e,f,g,i⟩
def Lw (D:Nat→Nat) (nd k:Nat):Nat:=pre D nd nd*2^k
def Mj (D:Nat→Nat) (nd k:Nat):Bool:=ib D nd (LJ k) 0
def tG (D:Nat→Nat) (nd k:Nat):Nat:=if Mj D nd k=true then nd+DG k-1 else nd+DG k
def tH (D:Nat→Nat) (M L j:Nat):Nat→Nat:=fun i=>if L-j≤i∧i<L∧i<800 then 48+M/10^(L-1-i)%10 else D i
def Wn (M L j:Nat):Bool:=(List.range j).any fun t=>decide (800≤L-1-t)&&decide (M/10^t%10≠0)
def Sg (N k j:Nat):Nat:=(N%10^j*2^k)/10^j
theorem j8 (h:jE D nd) (hn:0<nd) (h1:1≤k) (h2:k≤60):10^(tG D nd k-1)≤Lw D nd k∧Lw D nd k<10^tG D nd k∧nd≤tG D nd k∧tG D nd k≤nd+20:=by
 have c:=BR h1 h2;have hl:=abF h hn c.gT c.val c.len c.pos c.lo c.hi;have cp:=c.pos;have cs:=c.small;unfold tG Lw;cases hb:Mj D nd k
 ·rw[af (by simp)];have:=hl.1 hb;exact⟨this.1,this.2,by omega,by omega⟩
 ·rw[au rfl];have:=hl.2 hb;exact⟨by rw[show nd+DG k-1-1=nd+DG k-2 by omega];exact this.1,this.2,by omega,by omega⟩
theorem JF (hd:N/10^j%10=d):(Sg N k j+d*2^k)%10=N*2^k/10^j%10∧(Sg N k j+d*2^k)/10=Sg N k (j+1)∧Sg N k j<2^k:=by
 have hT:0<10^j:=fb (by omega);have hm:N%10^(j+1)=N%10^j+10^j*d:=by rw[et,Nat.mod_mul,hd]
 have h1:Sg N k j+d*2^k=N%10^(j+1)*2^k/10^j:=by
  rw[hm,oB,ct,Nat.add_mul_div_left _ _ hT,Sg]
 refine⟨?_,?_,?_⟩
 ·rw[h1];have h2:N=N%10^(j+1)+10^(j+1)*(N/10^(j+1)):=(Nat.mod_add_div _ _).symm;have h3:N*2^k=N%10^(j+1)*2^k+10^j*(10*(N/10^(j+1)*2^k)):=by
   conv=>lhs;rw[h2]
   rw[oB,et,ct (10^j) 10,ct (10^j),ct 10]
  rw[h3,Nat.add_mul_div_left _ _ hT,Tu]
 ·rw[h1,Sg,Ev,←et]
 ·rw[Sg,zX hT,fA (2^k)];exact qN (mD _ hT) (fb (by omega))
theorem AI {D:Nat→Nat} {nd:Nat} (h:jE D nd) (a:Nat): ∀j,pre D nd (a+j)/10^j=pre D nd a
 |0=>by simp
 |j+1=>by
  have ih:=AI h a j;have hd:=pQ h (a+j);rw[←Bk,pre,et,fA (10^j),←Ev,show (pre D nd (a+j)*10+sH D nd (a+j))/10=pre D nd (a+j)by omega,ih]
theorem Ye (h:jE D nd) {j:Nat} (hj:j<nd):pre D nd nd/10^j%10=D (nd-1-j)-48:=by
 have e:nd=(nd-1-j)+1+j:=by omega
 have h1:=AI h (nd-1-j+1) j;rw[←e]at h1;have hd:=pQ h (nd-1-j);rw[h1,pre];have h2:sH D nd (nd-1-j)=D (nd-1-j)-48:=by rw[sH,au (by omega)]
 omega
theorem MQ (h:N<10^nd) (hj:nd≤j):Sg N k j=N*2^k/10^j:=by
 rw[Sg,tz (gU h (ek (by omega) hj))]
theorem JG (hj:j<L) (h8:L-(j+1)<800):Ib (tH D M L j) (L-(j+1)) (48+M/10^j%10)=tH D M L (j+1):=by
 funext i;unfold Ib tH;by_cases e:i=L-(j+1)
 ·have e2:L-1-i=j:=by omega
  rw[au e,au ⟨by omega,by omega,by omega⟩,e2]
 ·rw[af e];by_cases h:L-j≤i∧i<L∧i<800
  ·rw[au h,au ⟨by omega,h.2⟩]
  ·rw[af h,af (by omega)]
theorem AJ (h8:800≤L-(j+1)):tH D M L (j+1)=tH D M L j:=by
 funext i;unfold tH;by_cases h:L-j≤i∧i<L∧i<800
 ·rw[au h,au ⟨by omega,h.2⟩]
 ·rw[af h,af (by omega)]
theorem UE (h:r<L-j):tH D M L j r=D r:=by
 unfold tH;rw[af (by omega)]
theorem UF:tH D M L 0=D:=by
 funext i;unfold tH;rw[af (by omega)]
theorem oJ:Wn M L (j+1)=(Wn M L j||(decide (800≤L-1-j)&&decide (M/10^j%10≠0))):=by
 unfold Wn;rw[ru,List.any_append];simp
def pI (D:Nat→Nat) (nd k:Nat):Nat→Nat:=tH D (Lw D nd k) (tG D nd k) (tG D nd k)
def xJ (D:Nat→Nat) (nd k:Nat):Nat:=eB (pI D nd k) (min (tG D nd k) 800)
def Qg (D:Nat→Nat) (nd k:Nat) (dp:Int):Int:=pP (pI D nd k) (min (tG D nd k) 800) (dp+((tG D nd k:Int)-nd))
def XM (D:Nat→Nat) (nd k:Nat) (tr:Bool):Bool:=tr||Wn (Lw D nd k) (tG D nd k) (tG D nd k)
structure cS where
 D:Nat→Nat
 nd:Nat
 dp:Int
 tr:Bool
structure cS.Ok (S:cS):Prop where
 gT:jE S.D S.nd
 pos:0<S.nd
 le:S.nd≤800
def cS.ls (S:cS) (k:Nat):cS:=⟨pI S.D S.nd k,xJ S.D S.nd k,Qg S.D S.nd k S.dp,XM S.D S.nd k S.tr⟩
def cS.rs (S:cS) (k:Nat):cS:=⟨xH S.D S.nd k,DQ S.D S.nd k,Qf S.D S.nd k S.dp,XL S.D S.nd k S.tr⟩
theorem yc {D:Nat→Nat} (h:D 0≠48): ∀m,0<m→0<eB D m
 |0,h0=>absurd h0 (by omega)
 |m+1,_=>by
  unfold eB;split
  ·rename_i he;cases m with
   |zero=>exact absurd he h
   |succ q=>exact yc h (q+1) (by omega)
  ·omega
theorem Cy (h1: ∀i,i<m→48≤D i∧D i≤57) (h0:D 0≠48):jE D (eB D m):=
 ⟨fun i hi=>h1 i (gU hi (mJ D m)),fun _=>h0⟩
theorem cS.yX {S:cS} (h:S.Ok) {k:Nat} (h1:1≤k) (h2:k≤60):(S.ls k).Ok∧(S.ls k).dp=S.dp+((tG S.D S.nd k:Int)-S.nd)∧(S.ls k).D 0=48+Lw S.D S.nd k/10^(tG S.D S.nd k-1):=by
 have hb:=j8 h.gT h.pos h1 h2;have hp:=h.pos;obtain⟨L,hL⟩: ∃L,L=tG S.D S.nd k:=⟨_,rfl⟩;obtain⟨M,hM⟩: ∃M,M=Lw S.D S.nd k:=⟨_,rfl⟩;rw[←hL,←hM]at hb;have eF:pI S.D S.nd k=tH S.D M L L:=by rw[pI,←hL,←hM]
 have oy: ∀i,i<min L 800→48≤tH S.D M L L i∧tH S.D M L L i≤57:=fun i hi=>by
  unfold tH;rw[au ⟨by omega,by omega,by omega⟩];omega
 have rE:M/10^(L-1)%10=M/10^(L-1)∧1≤M/10^(L-1):=by
  have hT:0<10^(L-1):=fb (by omega);constructor
  ·apply tz;rw[zX hT,fA,←et,show (L-1).succ=L by omega];exact hb.2.1
  ·exact Nat.div_pos hb.1 hT
 have h0:tH S.D M L L 0=48+M/10^(L-1):=by
  unfold tH;rw[au ⟨by omega,by omega,by omega⟩,Nat.sub_zero,rE.1]
 have bZ:tH S.D M L L 0≠48:=by have:=rE.2;omega
 have hm0:0<min L 800:=by omega
 have eN:xJ S.D S.nd k=eB (tH S.D M L L) (min L 800):=by rw[xJ,eF,←hL]
 have htp:=yc bZ _ hm0;refine⟨⟨?_,?_,?_⟩,?_,?_⟩
 ·show jE (pI S.D S.nd k) (xJ S.D S.nd k);rw[eF,eN];exact Cy oy bZ
 ·show 0<xJ S.D S.nd k;rw[eN];exact htp
 ·show xJ S.D S.nd k≤800;rw[eN];have:=mJ (tH S.D M L L) (min L 800);omega
 ·show Qg S.D S.nd k S.dp=_;rw[Qg,eF,←hL,pP,af (by omega)]
 ·show pI S.D S.nd k 0=_;rw[eF,h0,←hL,←hM]
theorem sT {p:Nat→Bool}: ∀(f r:Nat),(∃m,r≤m∧m<r+f∧p m=true)→p (pH p f r)=true∧r≤pH p f r∧ ∀m,r≤m→m<pH p f r→p m=false
 |0,r,h=>by obtain⟨m,h1,h2,_⟩:=h;omega
 |f+1,r,h=>by
  rw[pH];by_cases hp:p r=true
  ·rw[au hp];exact⟨hp,aS _,fun m h1 h2=>by omega⟩
  ·rw[af hp];obtain⟨m,h1,h2,h3⟩:=h;have hm:m≠r:=by rintro rfl;exact hp h3
   obtain⟨a,b,c⟩:=sT f (r+1) ⟨m,by omega,by omega,h3⟩;refine⟨a,by omega,fun q h4 h5=>?_⟩;by_cases hq:q=r
   ·subst hq;simpa using hp
   ·exact c q (by omega) h5
theorem oK (h:jE D nd) (hn:0<nd) (hk:k≤60):2^k≤pre D nd (AS D nd k)∧(∀m,m<AS D nd k→pre D nd m<2^k)∧1≤AS D nd k∧AS D nd k≤21:=by
 have hex:tV D nd k 21=true:=by
  rw[tV,zY];have h1:10^20≤pre D nd 21:=lW h hn 20;have h2:(2:Nat)^k≤2^60:=ek (by omega) hk;have h3:(2:Nat)^60≤10^20:=by decide
  omega
 obtain⟨a,b,c⟩:=sT (p:=tV D nd k) 1000 0 ⟨21,by omega,by omega,hex⟩;have a':2^k≤pre D nd (AS D nd k):=nT a;refine⟨a',fun m hm=>?_,?_,?_⟩
 ·have:=c m (dQ _) hm;have:=tw this;omega
 ·rcases jS (AS D nd k)with h0|h0
  ·rw[h0]at a';have:0<2^k:=fb (by omega);simp[pre]at a'
  ·exact h0
 ·rcases dF 21 (AS D nd k)with h0|h0
  ·have:=c 21 (by omega) h0;rw[hex]at this;cases this
  ·exact h0
theorem cS.we {S:cS} (h:S.Ok) {k:Nat} (h1:1≤k) (h2:k≤60):(S.rs k).Ok∧(S.rs k).dp=S.dp-((AS S.D S.nd k:Int)-1)∧(S.rs k).D 0=48+pre S.D S.nd (AS S.D S.nd k)/2^k:=by
 obtain⟨hr1,PL,SF,hr4⟩:=oK h.gT h.pos h2;obtain⟨R,hR⟩: ∃R,R=AS S.D S.nd k:=⟨_,rfl⟩;rw[←hR]at hr1 PL SF hr4;have hK:0<2^k:=fb (by omega);have ax:pre S.D S.nd R<10*2^k:=by
  obtain⟨q,rfl⟩: ∃q,R=q+1:=⟨R-1,by omega⟩;have h3:=PL q (by omega);have h4:=pQ h.gT q;rw[pre];omega
 obtain⟨W,hW⟩: ∃W,W=rsW S.D S.nd k R:=⟨_,rfl⟩;have mh:1≤W:=by
  rcases jS W with h0|h0
  ·exfalso;have hex: ∃m,S.nd-R≤m∧m<(S.nd-R)+(2000-(S.nd-R))∧mF S.D S.nd k R m=true:=by
    refine⟨S.nd+k+1,by omega,by have:=h.le;omega,?_⟩;rw[mF,zY,show R+(S.nd+k+1)=S.nd+(k+1+R)by omega,ik];have e:(10:Nat)^(k+1+R)=(10*2^k)*(5^k*10^R):=by
     rw[ee,et,show (10:Nat)^k=2^k*5^k by rw[←Bo]];simp only[ct,fA,qv]
    rw[e,←ct,fA (pre S.D S.nd S.nd),ct];exact Nat.mul_mod_right _ _
   obtain⟨a,_,_⟩:=sT (p:=mF S.D S.nd k R) _ _ hex;have hz:mF S.D S.nd k R 0=true:=by
    have:mF S.D S.nd k R W=true:=by rw[hW];exact a
    rwa [h0]at this
   have:=nT hz;rw[iK,tz ax]at this;omega
  ·exact h0
 have eF:xH S.D S.nd k=sI S.D S.nd k R W:=by rw[xH,←hR,←hW]
 have e0:Br S.D S.nd k=min W 800:=by rw[Br,←hR,←hW]
 have oy: ∀i,i<min W 800→48≤sI S.D S.nd k R W i∧sI S.D S.nd k R W i≤57:=fun i hi=>by
  unfold sI ji;rw[au ⟨by omega,by omega⟩];omega
 have hl:pre S.D S.nd R/2^k<10∧1≤pre S.D S.nd R/2^k:=⟨by rw[zX hK];exact ax,Nat.div_pos hr1 hK⟩;have h0:sI S.D S.nd k R W 0=48+pre S.D S.nd R/2^k:=by
  unfold sI ji;rw[au ⟨by omega,by omega⟩,iK,tz hl.1]
 have bZ:sI S.D S.nd k R W 0≠48:=by have:=hl.2;omega
 have hm0:0<min W 800:=by omega
 have eN:DQ S.D S.nd k=eB (sI S.D S.nd k R W) (min W 800):=by rw[DQ,eF,e0]
 have htp:=yc bZ _ hm0;refine⟨⟨?_,?_,?_⟩,?_,?_⟩
 ·show jE (xH S.D S.nd k) (DQ S.D S.nd k);rw[eF,eN];exact Cy oy bZ
 ·show 0<DQ S.D S.nd k;rw[eN];exact htp
 ·show DQ S.D S.nd k≤800;rw[eN];have:=mJ (sI S.D S.nd k R W) (min W 800);omega
 ·show Qf S.D S.nd k S.dp=_;rw[Qf,eF,e0,pP,af (by omega),←hR]
 ·show xH S.D S.nd k 0=_;rw[eF,h0,←hR]
def cS.Xc (k:Nat) (S:cS):cS:=if h:60<k then cS.Xc (k-60) (S.ls 60)else S.ls k
termination_by k
def cS.LK (k:Nat) (S:cS):cS:=if h:60<k then cS.LK (k-60) (S.rs 60)else S.rs k
termination_by k
theorem cS.UG {S:cS} (h:60<k):cS.Xc k S=cS.Xc (k-60) (S.ls 60):=by rw[cS.Xc,dif_pos h]
theorem cS.wJ {S:cS} (h:k≤60):cS.Xc k S=S.ls k:=by rw[cS.Xc,dif_neg (by omega)]
theorem cS.JH {S:cS} (h:60<k):cS.LK k S=cS.LK (k-60) (S.rs 60):=by rw[cS.LK,dif_pos h]
theorem cS.wK {S:cS} (h:k≤60):cS.LK k S=S.rs k:=by rw[cS.LK,dif_neg (by omega)]
def gK (n:Nat):Nat:=if 9≤n then 27 else[1,3,6,9,13,16,19,23,26].getD n 0
theorem jo (n:Nat):1≤gK n∧gK n≤27:=by
 unfold gK;by_cases h:9≤n
 ·rw[au h];omega
 ·rw[af h];have: ∀m,m<9→1≤[1,3,6,9,13,16,19,23,26].getD m 0∧[1,3,6,9,13,16,19,23,26].getD m 0≤27:=by decide
  exact this n (by omega)
theorem MR (h:1≤n):3≤gK n:=by
 unfold gK;by_cases h9:9≤n
 ·rw[au h9];omega
 ·rw[af h9];have: ∀m,m<9→1≤m→3≤[1,3,6,9,13,16,19,23,26].getD m 0:=by decide
  exact this n (by omega) h
theorem UH (h:2≤n):6≤gK n:=by
 unfold gK;by_cases h9:9≤n
 ·rw[au h9];omega
 ·rw[af h9];have: ∀m,m<9→2≤m→6≤[1,3,6,9,13,16,19,23,26].getD m 0:=by decide
  exact this n (by omega) h
def uz:Nat→cS→Int→cS×Int
 |0,S,e=>(S,e)
 |f+1,S,e=>if 0<S.dp then uz f (S.rs (gK S.dp.toNat)) (e+gK S.dp.toNat)else(S,e)
def Zn (S:cS):Nat:=2*S.dp.toNat+(if 56≤S.D 0 then 1 else 0)
theorem GG {S:cS} (h: ¬0<S.dp) (f:Nat) (e:Int):uz f S e=(S,e):=by
 cases f with
 |zero=>rfl
 |succ f=>rw[uz,af h]
theorem JI {S:cS} (h:0<S.dp) (f:Nat) (e:Int):uz (f+1) S e=uz f (S.rs (gK S.dp.toNat)) (e+gK S.dp.toNat):=by rw[uz,au h]
theorem JJ {S:cS} (cJ:S.Ok) (h:0<S.dp):Zn (S.rs (gK S.dp.toNat))<Zn S:=by
 obtain⟨k,hk⟩: ∃k,k=gK S.dp.toNat:=⟨_,rfl⟩;have hb:=jo S.dp.toNat;have h3:=MR (n:=S.dp.toNat) (by omega);rw[←hk]at hb h3 ⊢
 obtain⟨_,h2,h4⟩:=cS.we cJ (k:=k) hb.1 (by omega);obtain⟨f1,f2,f3,f4⟩:=oK cJ.gT cJ.pos (k:=k) (by omega);obtain⟨R,hR⟩: ∃R,R=AS S.D S.nd k:=⟨_,rfl⟩;rw[←hR]at h2 h4 f1 f2 f3;unfold Zn;rw[h2];by_cases hR1:R=1
 ·have hpr:pre S.D S.nd 1=S.D 0-48:=by simp[pre,sH,cJ.pos]
  rw[hR1,hpr]at f1 h4;have hd:=cJ.gT.1 0 cJ.pos;have hp8:(8:Nat)≤2^k:=ek (n:=2) (by omega) h3;have h56:56≤S.D 0:=by omega
  have Gg: ¬56≤(S.rs k).D 0:=by
   rw[h4];have:(S.D 0-48)/2^k≤(S.D 0-48)/8:=OG hp8 (by omega);omega
  rw[au h56,af Gg,hR1];omega
 ·have:(S.dp-((R:Int)-1)).toNat+1≤S.dp.toNat:=by omega
  split<;>split<;>omega
def yY (S:cS):Prop:=S.dp<0∨(S.dp=0∧S.D 0<53)
instance (S:cS):Decidable (yY S):=inferInstanceAs (Decidable (_∨_))
def zQ:Nat→cS→Int→cS×Int
 |0,S,e=>(S,e)
 |f+1,S,e=>if yY S then zQ f (S.ls (gK (-S.dp).toNat)) (e-gK (-S.dp).toNat)else(S,e)
def SG (S:cS):Nat:=if S.dp<0 then 100*(-S.dp).toNat+(if S.D 0=49 then 1 else 0)else 60-S.D 0
theorem GH {S:cS} (h: ¬yY S) (f:Nat) (e:Int):zQ f S e=(S,e):=by
 cases f with
 |zero=>rfl
 |succ f=>rw[zQ,af h]
theorem BS {S:cS} (h:yY S) (f:Nat) (e:Int):zQ (f+1) S e=zQ f (S.ls (gK (-S.dp).toNat)) (e-gK (-S.dp).toNat):=by rw[zQ,au h]
theorem JK {S:cS} (cJ:S.Ok) (h:yY S):SG (S.ls (gK (-S.dp).toNat))<SG S:=by
 obtain⟨k,hk⟩: ∃k,k=gK (-S.dp).toNat:=⟨_,rfl⟩;have hb:=jo (-S.dp).toNat;rw[←hk]at hb ⊢
 obtain⟨_,h2,h4⟩:=cS.yX cJ (k:=k) hb.1 (by omega);have Ic:=j8 cJ.gT cJ.pos (k:=k) hb.1 (by omega);have hd:=cJ.gT.1 0 cJ.pos;have Xd:=cJ.gT.2 cJ.pos;have hD:48≤(S.ls k).D 0:=by rw[h4];exact Nat.le_add_right _ _
 have cok:=BR hb.1 (by omega:k≤60);have AT:10^(S.nd-1)≤pre S.D S.nd S.nd:=by
  have:=lW cJ.gT cJ.pos (S.nd-1)
  rwa [I1 cJ.pos]at this
 have rE:pre S.D S.nd S.nd/10^(S.nd-1)=S.D 0-48:=by
  have:=AI cJ.gT 1 (S.nd-1);rw[show 1+(S.nd-1)=S.nd by have:=cJ.pos;omega]at this;rw[this];simp[pre,sH,cJ.pos]
 have hT:0<10^(S.nd-1):=fb (by omega);have hnT:10^S.nd=10*10^(S.nd-1):=by
  rw[←Bl]
  congr 1
  have:=cJ.pos;omega
 obtain⟨N,hN⟩: ∃N,N=pre S.D S.nd S.nd:=⟨_,rfl⟩;obtain⟨L,hL⟩: ∃L,L=tG S.D S.nd k:=⟨_,rfl⟩;have hM:Lw S.D S.nd k=N*2^k:=by rw[Lw,hN]
 rw[←hL]at h2 h4 Ic;rw[hM]at h4 Ic;rw[←hN]at AT rE;obtain⟨A,hA⟩: ∃A,A=10^(S.nd-1):=⟨_,rfl⟩;rw[←hA]at AT rE hT hnT;rcases h with h|⟨h,h5⟩
 ·unfold SG;rw[au h];by_cases hg:L=S.nd
  ·
   have Sh:k=3:=by
    have hle:tG S.D S.nd k=S.nd+DG k-1∨tG S.D S.nd k=S.nd+DG k:=by
     unfold tG;split
     ·exact .inl rfl
     ·exact .inr rfl
    have jQ:DG k≤1:=by rw[←hL,hg]at hle;omega
    have uA:S.dp= -1:=by
     rcases dF 1 (-S.dp).toNat with hh|hh
     ·have h6:=UH (n:=(-S.dp).toNat) hh;rw[←hk]at h6;have Ia:=cok.hi;have:2^k≤10^1:=bP Ia (ek (by omega) jQ);have h64:2^6≤2^k:=ek (by omega) h6;omega
     ·omega
    rw[hk,uA];rfl
   subst Sh;have ax:N*8<10*A:=by
    have:=Ic.2.1;rw[hg,hnT]at this;exact this
   have ajp:S.D 0=49:=by
    have h7:N/A≤1:=by
     rw[←Nat.lt_succ_iff,zX hT];omega
    rw[rE]at h7;omega
   have Gg:56≤(S.ls 3).D 0:=by
    rw[h4,hg,←hA];have:8≤N*2^3/A:=by
     rw[Ex hT];have:N*2^3=N*8:=rfl;omega
    omega
   rw[h2,hg,au ajp];have e:S.dp+((S.nd:Int)-S.nd)=S.dp:=by omega
   rw[e,au h,af (by omega)];omega
  ·have aqU:S.dp<(S.ls k).dp:=by rw[h2];have:=Ic.2.2.1;omega
   by_cases hn:(S.ls k).dp<0
   ·rw[au hn];split<;>split<;>omega
   ·rw[af hn];split<;>omega
 ·have mU:k=1:=by rw[hk,h];rfl
  subst mU;have ax:N*2<10*A:=by
   have h8:N<(S.D 0-48+1)*A:=by
    rw[←rE];exact(zX hT).1 (vU _)
   have h9:(S.D 0-48+1)*A≤5*A:=fi _ (by omega);omega
  have hLe:L=S.nd:=by
   rcases dF S.nd L with hh|hh
   ·exfalso;have Ia:10^S.nd≤10^(L-1):=ek (by omega) (by omega);have h11:=Ic.1;rw[hnT]at Ia;have:N*2^1=N*2:=rfl;omega
   ·have:=Ic.2.2.1;omega
  have Gg:(S.ls 1).D 0≥48+2*(S.D 0-48):=by
   rw[h4,hLe,←hA];have:2*(S.D 0-48)≤N*2^1/A:=by
    rw[Ex hT];have h12:(S.D 0-48)*A≤N:=by rw[←rE];exact IZ _ _
    have:N*2^1=N*2:=rfl;rw[ct];omega
   omega
  unfold SG;have e:(S.ls 1).dp=0:=by rw[h2,hLe,h];omega
  rw[af (by omega),af (by omega)];omega
def EJ (D:Nat→Nat) (i:Nat):Bool:=decide (0<i)&&decide ((D (i-1)-48)%2≠0)
def Bs (S:cS) (i:Nat):Bool:=if S.D i=53∧i+1=S.nd then(S.tr||EJ S.D i)else decide (53≤S.D i)
def Xe (S:cS) (n:Int):Bool:=if n<0∨(S.nd:Int)≤n then false else Bs S n.toNat
def lR (S:cS) (i:Nat):Nat:=pre S.D S.nd i%18446744073709551616
def FU (S:cS):Nat:=if 20<S.dp then 18446744073709551615 else if Xe S S.dp=true then(lR S S.dp.toNat+1)%18446744073709551616 else lR S S.dp.toNat
def gL (m x:Int):Int:=bits .or .u64 (bits .and .u64 m 4503599627370495) (IntKind.u64.wrap (IntKind.u64.wrap (bits .and .i64 x 2047)*4503599627370496))
def Bt:Int×Bool:=(gL 0 2047,true)
def pR (m:Nat) (e:Int):Int×Bool:=if (m&&&4503599627370496)=0 then(gL m 0,false)else(gL m (e+1023),false)
def uI (m:Nat) (e:Int):Int×Bool:=if m=9007199254740992 then(if 2047≤e+1+1023 then Bt else pR 4503599627370496 (e+1))else pR m e
def pS (S:cS) (e:Int):Int×Bool:=if 2047≤e+1023 then Bt else uI (FU (S.ls 53)) e
def tW (S:cS) (e:Int):Int×Bool:=if e< -1022 then pS (cS.LK (-1022-e).toNat S) (-1022)else pS S e
def FV (S:cS):Int×Bool:=
 if S.nd=0 then(gL 0 0,false)
 else if 310<S.dp then Bt
 else if S.dp< -330 then(gL 0 0,false)
 else tW (zQ 34000 (uz 1000 S 0).1 (uz 1000 S 0).2).1 ((zQ 34000 (uz 1000 S 0).1 (uz 1000 S 0).2).2-1)
structure RF where
 fm:Nat
 tI:Nat
 nd:Nat
 dp:Int
 dot:Bool
 gT:Bool
 tr:Bool
def gM (s:RF) (c:UInt8):RF:=
 if c.toNat=46 then⟨s.fm,s.tI,s.nd,s.nd,true,s.gT,s.tr⟩
 else if c.toNat=48∧s.nd=0 then⟨s.fm,s.tI,s.nd,s.dp-1,s.dot,true,s.tr⟩
 else if s.tI<19 then⟨s.fm*10+(c.toNat-48),s.tI+1,s.nd+1,s.dp,s.dot,true,s.tr⟩
 else⟨s.fm,s.tI,s.nd+1,s.dp,s.dot,true,s.tr||c.toNat != 48⟩
def rf0:RF:=⟨0,0,0,0,false,false,false⟩
def fo (l:List UInt8) (k:Nat):RF:=(l.take k).foldl gM rf0
theorem oU (l:List UInt8):fo l 0=rf0:=rfl
theorem iz (h:k<l.length):fo l (k+1)=gM (fo l k) (aq l k):=by
 have:l[k]=aq l k:=by rw[aq,lA,eG h];rfl
 rw[fo,jy h,yL,this];rfl
def lH (l:List UInt8) (m:Nat):Prop:=m≤l.length∧ ∀i,i<m→digit (aq l i)=true∨((aq l i).toNat=46∧ ∀j,j<i→(aq l j).toNat≠46)
structure aaR (k:Nat) (s:RF):Prop where
 tI:s.tI≤19∧s.tI≤s.nd∧s.nd≤k
 fm:s.fm<10^s.tI
 dp: -(k:Int)≤s.dp∧s.dp≤k
theorem aI (h:digit c=true):48≤c.toNat∧c.toNat≤57:=by simpa [digit]using h
theorem QL {s:RF} (h:aaR k s) (hc:digit c=true∨c.toNat=46):aaR (k+1) (gM s c):=by
 obtain⟨⟨h1,h2,h3⟩,h4,h5,h6⟩:=h;unfold gM;split
 ·exact⟨⟨h1,h2,by show s.nd≤k+1;omega⟩,h4,by constructor<;>(simp only;omega)⟩
 ·rename_i hn;have hd:=aI (hc.resolve_right hn);split
  ·exact⟨⟨h1,h2,by show s.nd≤k+1;omega⟩,h4,by constructor<;>(simp only;omega)⟩
  ·split
   ·refine⟨⟨by show s.tI+1≤19;omega,by show s.tI+1≤s.nd+1;omega,by show s.nd+1≤k+1;omega⟩,?_,by constructor<;>(simp only;omega)⟩;show s.fm*10+(c.toNat-48)<10^(s.tI+1);rw[et];omega
   ·exact⟨⟨h1,by show s.tI≤s.nd+1;omega,by show s.nd+1≤k+1;omega⟩,h4,by constructor<;>(simp only;omega)⟩
theorem AK {l:List UInt8} {m:Nat} (h:lH l m): ∀k,k≤m→aaR k (fo l k)
 |0,_=>⟨⟨by simp[oU,rf0],by simp[oU,rf0],by simp[oU,rf0]⟩,by simp[oU,rf0],by simp[oU,rf0]⟩
 |k+1,hk=>by
  have hl:=h.1;rw[iz (by omega)];refine QL (AK h k (by omega)) ?_;rcases h.2 k (by omega)with hd|hd
  ·exact .inl hd
  ·exact .inr hd.1
theorem MS (s:RF) (c:UInt8):(gM s c).dot=(s.dot||c.toNat==46):=by
 unfold gM;split
 ·rename_i h;simp[h]
 ·rename_i h;have h':(c.toNat==46)=false:=by simpa using h
  rw[h',qz]
  repeat' split
  all_goals rfl
theorem JL {l:List UInt8}: ∀k,k≤l.length→(∀j,j<k→(aq l j).toNat≠46)→(fo l k).dot=false
 |0,_,_=>rfl
 |k+1,hk,h=>by
  have h1:((aq l k).toNat==46)=false:=by simpa using h k (by omega)
  rw[iz (by omega),MS,JL k (by omega) fun j hj=>h j (by omega),h1];rfl
theorem Cz {s:RF} (h:digit c=true∨s.gT=true):(gM s c).gT=true∨(c.toNat=46∧(gM s c).gT=s.gT):=by
 unfold gM;split
 ·rename_i hc;exact .inr ⟨hc,rfl⟩
 ·left
  repeat' split
  all_goals rfl
theorem JM {l:List UInt8} {m:Nat} (h:lH l m) {i:Nat} (hd:digit (aq l i)=true): ∀k,k≤m→i<k→(fo l k).gT=true
 |0,_,hi=>by omega
 |k+1,hk,hi=>by
  have hl:=h.1;rw[iz (by omega)];by_cases he:i=k
  ·subst he;rcases Cz (s:=fo l i) (.inl hd)with h1|⟨h1,_⟩
   ·exact h1
   ·have:=aI hd;omega
  ·have ih:=JM h hd k (by omega) (by omega);rcases Cz (c:=aq l k) (.inr ih)with h1|⟨_,h1⟩
   ·exact h1
   ·rw[h1,ih]
theorem afA {D:Nat} (h:fo l k=⟨M,N,D,P,dt,dg,tr⟩) (hk:k<l.length) (hc:(aq l k).toNat=46):fo l (k+1)=⟨M,N,D,D,true,dg,tr⟩:=by
 rw[iz hk,h,gM,au hc]
theorem Yf {D:Nat} (h:fo l k=⟨M,N,D,P,dt,dg,tr⟩) (hk:k<l.length) (hc:(aq l k).toNat=48) (hD:D=0):fo l (k+1)=⟨M,N,D,P-1,dt,true,tr⟩:=by
 rw[iz hk,h,gM,af (by omega),au ⟨hc,hD⟩]
theorem afB {D:Nat} (h:fo l k=⟨M,N,D,P,dt,dg,tr⟩) (hk:k<l.length) (hc:digit (aq l k)=true) (hD: ¬((aq l k).toNat=48∧D=0)) (hN:N<19):
  fo l (k+1)=⟨M*10+((aq l k).toNat-48),N+1,D+1,P,dt,true,tr⟩:=by
 have:=aI hc;rw[iz hk,h,gM,af (by omega),af hD,au hN]
theorem Yg {D:Nat} (h:fo l k=⟨M,N,D,P,dt,dg,tr⟩) (hk:k<l.length) (hc:(aq l k).toNat=48) (hD: ¬((aq l k).toNat=48∧D=0)) (hN: ¬N<19):
  fo l (k+1)=⟨M,N,D+1,P,dt,true,tr⟩:=by
 have hb:((aq l k).toNat != 48)=false:=by rw[hc];rfl
 rw[iz hk,h,gM,af (by omega),af hD,af hN];simp only[hb,qz]
theorem Yh {D:Nat} (h:fo l k=⟨M,N,D,P,dt,dg,tr⟩) (hk:k<l.length) (hc:digit (aq l k)=true) (Si:(aq l k).toNat≠48) (hN: ¬N<19):
  fo l (k+1)=⟨M,N,D+1,P,dt,true,true⟩:=by
 have:=aI hc;have hb:((aq l k).toNat != 48)=true:=by simpa using Si
 rw[iz hk,h,gM,af (by omega),af (by omega),af hN];simp only[hb,vW]
def mG (e:Nat) (c:UInt8):Nat:=if e<10000 then e*10+(c.toNat-48)else e
def zR (l:List UInt8) (j k:Nat):Nat:=((l.drop j).take (k-j)).foldl mG 0
theorem oV (l:List UInt8) (j:Nat):zR l j j=0:=by simp[zR]
theorem wL (hj:j≤k) (h:k<l.length):zR l j (k+1)=mG (zR l j k) (aq l k):=by
 have hk:k-j<(l.drop j).length:=by simp;omega
 have:(l.drop j)[k-j]=aq l k:=by
  rw[vR,aq,lA,eG h];simp[show j+(k-j)=k by omega]
 rw[zR,show k+1-j=k-j+1 by omega,jy hk,yL,this];rfl
theorem UI (e:Nat) (c:UInt8) (h:e≤100009) (hc:digit c=true):mG e c≤100009:=by
 have:=aI hc;unfold mG;split<;>omega
theorem Gp: ∀k,j≤k→k≤l.length→(∀i,j≤i→i<k→digit (aq l i)=true)→zR l j k≤100009:=by
 intro k hj;induction k with
 |zero=>intro _ _;simp[zR]
 |succ k ih=>
  intro hk h;by_cases he:j=k+1
  ·subst he;rw[oV];omega
  ·rw[wL (by omega) (by omega)];exact UI _ _ (ih (by omega) (by omega) fun i h1 h2=>h i h1 (by omega)) (h k (by omega) (by omega))
structure Jk (l:List UInt8) (m j:Nat) (neg:Bool):Prop where
 lt:m<l.length
 tF:tF (aq l m)=true
 sign:(j=m+1∧neg=false∧digit (aq l j)=true)∨(j=m+2∧neg=false∧(aq l (m+1)).toNat=43)∨(j=m+2∧neg=true∧(aq l (m+1)).toNat=45)
 some:j<l.length
 fk: ∀i,j≤i→i<l.length→digit (aq l i)=true
def oE (r:RF) (e:Int):Int:=if r.fm≠0 then(if r.dot then r.dp else(r.nd:Int))+e-(r.tI:Int)else 0
structure DS where
 D:Nat→Nat
 nd:Nat
 dp:Int
 dot:Bool
def lI (s:DS) (c:UInt8):DS:=
 if c.toNat=46 then⟨s.D,s.nd,s.nd,true⟩
 else if c.toNat=48∧s.nd=0 then⟨s.D,s.nd,s.dp-1,s.dot⟩
 else⟨Ib s.D s.nd c.toNat,s.nd+1,s.dp,s.dot⟩
def ds0:DS:=⟨fun _=>0,0,0,false⟩
def dT (l:List UInt8) (k:Nat):DS:=(l.take k).foldl lI ds0
theorem mn (l:List UInt8):dT l 0=ds0:=rfl
theorem mq (h:k<l.length):dT l (k+1)=lI (dT l k) (aq l k):=by
 have:l[k]=aq l k:=by rw[aq,lA,eG h];rfl
 rw[dT,jy h,yL,this];rfl
structure aaS (k:Nat) (s:DS):Prop where
 nd:s.nd≤k
 gT:jE s.D s.nd
 dp: -(k:Int)≤s.dp∧s.dp≤k
theorem QM {s:DS} (h:aaS k s) (hc:digit c=true∨c.toNat=46):aaS (k+1) (lI s c):=by
 obtain⟨h1,h2,h3,h4⟩:=h;unfold lI;split
 ·exact⟨by show s.nd≤k+1;omega,h2,by constructor<;>(simp only;omega)⟩
 ·rename_i hn;have hd:=aI (hc.resolve_right hn);split
  ·exact⟨by show s.nd≤k+1;omega,h2,by constructor<;>(simp only;omega)⟩
  ·rename_i hz;refine⟨by show s.nd+1≤k+1;omega,⟨fun i hi=>?_,fun _=>?_⟩,by constructor<;>(simp only;omega)⟩
   ·show 48≤Ib s.D s.nd c.toNat i∧Ib s.D s.nd c.toNat i≤57;unfold Ib;split
    ·omega
    ·rename_i bZ;exact h2.1 i (by simp only at hi;omega)
   ·show Ib s.D s.nd c.toNat 0≠48;unfold Ib;split
    ·omega
    ·exact h2.2 (by omega)
theorem wu {l:List UInt8} {m:Nat} (h:lH l m): ∀k,k≤m→aaS k (dT l k)
 |0,_=>⟨by simp[mn,ds0],⟨fun i hi=>by simp[mn,ds0]at hi,fun hi=>by simp[mn,ds0]at hi⟩,by simp[mn,ds0]⟩
 |k+1,hk=>by
  have hl:=h.1;rw[mq (by omega)];refine QM (wu h k (by omega)) ?_;rcases h.2 k (by omega)with hd|hd
  ·exact .inl hd
  ·exact .inr hd.1
theorem MT {s:DS} (h:c.toNat≠46):(lI s c).dot=s.dot:=by
 unfold lI;rw[af h];split<;>rfl
theorem BT {l:List UInt8}: ∀k,k≤l.length→(∀j,j<k→(aq l j).toNat≠46)→(dT l k).dot=false
 |0,_,_=>rfl
 |k+1,hk,h=>by
  rw[mq (by omega),MT (h k (by omega))];exact BT k (by omega) fun j hj=>h j (by omega)
theorem afC (h:dT l k=⟨D,N,P,dt⟩) (hk:k<l.length) (hc:(aq l k).toNat=46):dT l (k+1)=⟨D,N,N,true⟩:=by
 rw[mq hk,h,lI,au hc]
theorem Yi (h:dT l k=⟨D,0,P,dt⟩) (hk:k<l.length) (hc:(aq l k).toNat=48):dT l (k+1)=⟨D,0,P-1,dt⟩:=by
 rw[mq hk,h,lI,af (by omega),au ⟨hc,rfl⟩]
theorem afD (h:dT l k=⟨D,N,P,dt⟩) (hk:k<l.length) (hc:(aq l k).toNat≠46) (hz: ¬((aq l k).toNat=48∧N=0)):dT l (k+1)=⟨Ib D N (aq l k).toNat,N+1,P,dt⟩:=by
 rw[mq hk,h,lI,af hc,af hz]
def Io (l:List UInt8) (mm:Nat) (e:Int):cS:=⟨(dT l mm).D,(dT l mm).nd,(if (dT l mm).dot then(dT l mm).dp else((dT l mm).nd:Int))+e,false⟩
theorem abG (h:lH l mm) (hm:mm≤700) {e:Int} (he: -100009≤e∧e≤100009):((Io l mm e).nd=0∨(Io l mm e).Ok)∧ -200000≤(Io l mm e).dp∧(Io l mm e).dp≤200000:=by
 have h1:=wu h mm (aS _);have h2:=h1.nd;have h3:=h1.dp;refine⟨?_,?_⟩
 ·rcases jS (dT l mm).nd with h0|h0
  ·exact .inl h0
  ·exact .inr ⟨h1.gT,h0,by show (dT l mm).nd≤800;omega⟩
 ·unfold Io;simp only;split<;>omega
def lC:Nat→Nat→Int→Nat×Int
 |0,m,e=>(m,e)
 |f+1,m,e=>if m≠0∧m<18014398509481984 then lC f (m*2) (e-1)else(m,e)
theorem O3 (h: ¬(m≠0∧m<18014398509481984)) (e:Int): ∀f,lC f m e=(m,e)
 |0=>rfl
 |f+1=>by rw[lC,af h]
def mx:Nat→Nat→Int→Nat×Int
 |0,m,e=>(m,e)
 |f+1,m,e=>if 36028797018963968≤m then mx f (m/2|||m%2) (e+1)else(m,e)
theorem Yj (h: ¬36028797018963968≤m) (e:Int): ∀f,mx f m e=(m,e)
 |0=>rfl
 |f+1=>by rw[mx,af h]
theorem BU: ∀(f m:Nat) (e:Int),(m≠0→18014398509481984≤m*2^f)→m<18446744073709551616→(lC f m e).1<18446744073709551616∧((lC f m e).1≠0→18014398509481984≤(lC f m e).1)∧e-f≤(lC f m e).2∧(lC f m e).2≤e
 |0,m,e,h,hm=>⟨hm,fun h0=>by have:=h h0;rw[lC];simpa using this,by rw[lC];simp,by rw[lC];simp⟩
 |f+1,m,e,h,hm=>by
  rw[lC];split
  ·rename_i h2;have:=BU f (m*2) (e-1) (fun _=>by have:=h h2.1;rw[et]at this;rw[ct,fA 2];exact this) (by omega);refine⟨this.1,this.2.1,?_,?_⟩<;>omega
  ·rename_i h2;refine⟨hm,fun h0=>?_,by simp only;omega,Int.le_refl _⟩;simp only at h0 ⊢
   omega
theorem GI (h:m<2*2^n) (hn:1≤n):m/2|||m%2<2^n:=by
 apply EB
 ·omega
 ·have:(2:Nat)^1≤2^n:=ek (by omega) hn;omega
theorem BV: ∀(f m:Nat) (e:Int),m<2^(55+f)→(mx f m e).1<36028797018963968∧e≤(mx f m e).2∧(mx f m e).2≤e+f
 |0,m,e,h=>⟨by rw[mx];simpa using h,by rw[mx];simp,by rw[mx];simp⟩
 |f+1,m,e,h=>by
  rw[mx];split
  ·have:=BV f (m/2|||m%2) (e+1) (GI (by rw[show 55+(f+1)=(55+f)+1 by omega,et]at h;omega) (by omega));refine⟨this.1,?_,?_⟩<;>omega
  ·rename_i h2;refine⟨by simp only;omega,Int.le_refl _,by simp only;omega⟩
def hxR (m:Nat):Nat:=(m&&&3)|||(m/4%2)
def wg (m:Nat) (e:Int):Nat×Bool:=if 1023<e then((gL 4503599627370496 2047).toNat,true)else((gL m (e+1023)).toNat,false)
def qB (m:Nat) (e:Int):Nat×Bool:=if m<4503599627370496 then wg m (-1023)else wg m e
def yZ (m:Nat) (e:Int):Nat×Bool:=
 if hxR m=3 then(if m/4+1=9007199254740992 then qB 4503599627370496 (e+3)else qB (m/4+1) (e+2))else qB (m/4) (e+2)
def Ab (m:Nat) (tr:Bool):Nat:=if tr=true then m|||1 else m
def SH (m:Nat) (p:Int) (tr:Bool):Nat×Bool:=
 yZ (mx 9 (Ab (lC 54 m (p+52)).1 tr) (lC 54 m (p+52)).2).1 (mx 9 (Ab (lC 54 m (p+52)).1 tr) (lC 54 m (p+52)).2).2
structure RX where
 fm:Nat
 tI:Nat
 nd:Nat
 tr:Bool
def mB (c:UInt8):Nat:=if digit c=true then c.toNat-48 else(c.toNat|||32)-87
def oc (s:RX) (c:UInt8):RX:=
 if c.toNat=48∧s.nd=0 then s
 else if s.tI<16 then⟨s.fm*16+mB c,s.tI+1,s.nd+1,s.tr⟩
 else⟨s.fm,s.tI,s.nd+1,s.tr||c.toNat != 48⟩
def eJ (l:List UInt8) (k:Nat):RX:=((l.drop 2).take (k-2)).foldl oc ⟨0,0,0,false⟩
theorem BW (l:List UInt8):eJ l 2=⟨0,0,0,false⟩:=by simp[eJ]
theorem mr (hj:2≤k) (h:k<l.length):eJ l (k+1)=oc (eJ l k) (aq l k):=by
 have hk:k-2<(l.drop 2).length:=by simp;omega
 have:(l.drop 2)[k-2]=aq l k:=by
  rw[vR,aq,lA,eG h];simp[show 2+(k-2)=k by omega]
 rw[eJ,show k+1-2=k-2+1 by omega,jy hk,yL,this];rfl
theorem BX: ∀c:UInt8,gX c=true→digit c=false→97≤c.toNat|||32∧c.toNat|||32≤102:=by
 have: ∀n:Fin 256,gX (UInt8.ofNat n.val)=true→digit (UInt8.ofNat n.val)=false→97≤(UInt8.ofNat n.val).toNat|||32∧(UInt8.ofNat n.val).toNat|||32≤102:=by decide+kernel
 intro c h1 h2;have hc:UInt8.ofNat c.toNat=c:=by simp
 have:=this ⟨c.toNat,uG c⟩;simp only[hc]at this;exact this h1 h2
theorem GJ (c:UInt8) (h:gX c=true):mB c<16:=by
 unfold mB;split
 ·rename_i hd;have:=aI hd;omega
 ·rename_i hd;have:=BX c h (by simpa using hd);omega
structure ajq (k:Nat) (s:RX):Prop where
 tI:s.tI≤16∧s.tI≤s.nd∧s.nd≤k
 fm:s.fm<16^s.tI
def EK (l:List UInt8) (m:Nat):Prop:=m≤l.length∧ ∀i,2≤i→i<m→gX (aq l i)=true
theorem GK (h:EK l m): ∀k,2≤k→k≤m→ajq k (eJ l k):=by
 intro k hk;induction k with
 |zero=>omega
 |succ k ih=>
  intro hm;have hl:=h.1;by_cases he:k+1=2
  ·rw[he,BW];exact⟨⟨by simp,by simp,by simp⟩,by simp⟩
  ·have ih:=ih (by omega) (by omega);have hv:=GJ _ (h.2 k (by omega) (by omega));rw[mr (by omega) (by omega)];cases hr:eJ l k with
   |mk M N D T=>
    rw[hr]at ih;obtain⟨⟨h1,h2,h3⟩,h4⟩:=ih;simp only at h1 h2 h3 h4;unfold oc;split
    ·exact⟨⟨h1,h2,by show D≤k+1;omega⟩,h4⟩
    ·split
     ·refine⟨⟨by show N+1≤16;simp only at*;omega,by show N+1≤D+1;omega,by show D+1≤k+1;omega⟩,?_⟩;show M*16+_<16^(N+1);rw[et];omega
     ·exact⟨⟨h1,by show N≤D+1;omega,by show D+1≤k+1;omega⟩,h4⟩
theorem Yk {D:Nat} (h:eJ l k=⟨M,N,D,tr⟩) (hj:2≤k) (hk:k<l.length) (hc:(aq l k).toNat=48) (hD:D=0):eJ l (k+1)=⟨M,N,D,tr⟩:=by
 rw[mr hj hk,h,oc,au ⟨hc,hD⟩]
theorem Z4 {D:Nat} (h:eJ l k=⟨M,N,D,tr⟩) (hj:2≤k) (hk:k<l.length) (hD: ¬((aq l k).toNat=48∧D=0)) (hN:N<16):eJ l (k+1)=⟨M*16+mB (aq l k),N+1,D+1,tr⟩:=by
 rw[mr hj hk,h,oc,af hD,au hN]
theorem Yl {D:Nat} (h:eJ l k=⟨M,N,D,tr⟩) (hj:2≤k) (hk:k<l.length) (hc:(aq l k).toNat=48) (hD: ¬((aq l k).toNat=48∧D=0)) (hN: ¬N<16):eJ l (k+1)=⟨M,N,D+1,tr⟩:=by
 have hb:((aq l k).toNat != 48)=false:=by rw[hc];rfl
 rw[mr hj hk,h,oc,af hD,af hN];simp only[hb,qz]
theorem O4 {D:Nat} (h:eJ l k=⟨M,N,D,tr⟩) (hj:2≤k) (hk:k<l.length) (hc:(aq l k).toNat≠48) (hN: ¬N<16):eJ l (k+1)=⟨M,N,D+1,true⟩:=by
 have hb:((aq l k).toNat != 48)=true:=by simpa using hc
 rw[mr hj hk,h,oc,af (by omega),af hN];simp only[hb,vW]
def S8 (x:Nat):Nat:=x%18446744073709551616&&&9223372036854775807
def dU (x:Nat):Bool:=(FloatKind.f64.format.order (S8 x) 9218868437227405311==some .gt)
structure SM where
 n:Nat
 behind:Nat
 Bu:Bool
def jZ (s:SM) (c:UInt8):SM:=
 if c.toNat=46 then⟨s.n,s.behind,true⟩
 else⟨s.n*10+(c.toNat-48),if s.Bu=true then s.behind+1 else s.behind,s.Bu⟩
def dG (l:List UInt8) (k:Nat):SM:=(l.take k).foldl jZ ⟨0,0,false⟩
def oW (l:List UInt8):Bool:=l.all fun c=>digit c||c.toNat==46
def ic (l:List UInt8):Bool:=decide (l.length≤15)&&oW l
def xT (l:List UInt8):Nat:=Ge (floatOfInt .f64 ((dG l l.length).n:Int)) (fl (dG l l.length).behind)
def L3 (l:List UInt8):Nat:=
 (SH (eJ l l.length).fm (if (eJ l l.length).fm≠0 then 4*((eJ l l.length).nd:Int)-4*((eJ l l.length).tI:Int)else 0) (eJ l l.length).tr).1
def bO (l:List UInt8):Nat:=(l.takeWhile fun c=> !tF c).length
def xK (l:List UInt8):Bool:=(aq l (bO l+1)).toNat==45
def pJ (l:List UInt8):Nat:=if (aq l (bO l+1)).toNat=43∨(aq l (bO l+1)).toNat=45 then bO l+2 else bO l+1
def gm (l:List UInt8):Int:=if bO l<l.length then(if xK l=true then-(zR l (pJ l) l.length:Int)else(zR l (pJ l) l.length:Int))else 0
def DR (d:Nat) (p:Int) (tr:Bool) (full:cS):Nat:=
 if d=0 then 0
 else if 310<p then fa
 else if p< -345 then 0
 else if tr=true then(if (FloatKind.f64.format.order (lF d p) (lF (d+1) p)==some .eq)=true then lF d p else(FV full).1.toNat)
 else match fQ d p with|some x=>x|none=>lF d p
def L4 (l:List UInt8):Nat:=DR (fo l (bO l)).fm (oE (fo l (bO l)) (gm l)) (fo l (bO l)).tr (Io l (bO l) (gm l))
def j0 (l:List UInt8):Nat:=if ic l=true then xT l else if ux (aq l 1)=true then L3 l else L4 l
def rL (t:List UInt8):Bool:=(t.take 4).map low==[105,110,102]||(t.take 4).map low==[110,97,110]
def cg (br:Bool) (t:List UInt8):Nat:=if t.contains 58 then 2 else if !br&&rL t then 3 else 1
def JN (l:List UInt8):List UInt8:=l.takeWhile fun c=> !tF c
def abH (l:List UInt8):Nat:=l.foldl (fun n c=>n*10+(c.toNat-48)) 0
def fm (l:List UInt8):Nat:=abH ((JN l).filter digit)
def behind (l:List UInt8):Nat:=((JN l).dropWhile fun c=>c.toNat != 46).length-1
def vI (l:List UInt8):Bool:= !ic l&&dU (j0 l)
def dE (l:List UInt8) (a b c:Nat):Bool:=l.length==3&&((aq l 0).toNat|||32)==a&&((aq l 1).toNat|||32)==b&&((aq l 2).toNat|||32)==c
def bK (l:List UInt8):Nat:=
 if 512<l.length then 1
 else if dE l 105 110 102||dE l 110 97 110 then 0
 else if l=[]∨ag l≠l.length then 20
 else if vI l then 21 else 0
inductive A6 where
 |bad (e:Nat)
 |tok (kind n:Nat) (br sq:Bool)
def kG (l:List UInt8):Nat:=if ag l<aY l then 4 else 3
def cH (l:List UInt8):Nat:=if ag l<aY l then aY l else ag l
def cx (l:List UInt8):Bool:=decide (cH l<l.length)&&(letter (aq l (cH l))||digit (aq l (cH l))||(aq l (cH l)).toNat==46)
def iX (l:List UInt8):Nat:=if ag l<aY l then(bG (l.take (cH l))).2 else bK (l.take (cH l))
def bI (l:List UInt8) (br sq:Bool):A6:=if cx l=true then .bad 112 else if iX l≠0 then .bad 112 else .tok (kG l) (cH l) br sq
theorem QN (l:List UInt8):cH l≤l.length:=by
 unfold cH;split
 ·exact kI l
 ·exact ql l
theorem A7 (h:((n:Int) != 0)=false):n=0:=by
 have:(n:Int)=0:=by simpa using h
 omega
theorem Ac (h:((n:Int) != 0)=true):n≠0:=by
 have: ¬(n:Int)=0:=by simpa using h
 omega
theorem zp (hn:cH t.data.toList=n) (h:n<t.size):cx t.data.toList=(letter t[n]||digit t[n]||(t[n].toNat==46)):=by
 rw[cx,hn,ab,dR h,mC,ar h]
theorem xe (hn:cH t.data.toList=n) (h: ¬n<t.size):cx t.data.toList=false:=by
 rw[cx,hn,ab,gA h,rA]
theorem fK (h:cx l=true):bI l br sq= .bad 112:=by rw[bI,au h]
theorem ln (h:cx l=false) (h2:iX l≠0):bI l br sq= .bad 112:=by
 rw[bI,h,af (by simp),au h2]
theorem mR (hk:kG l=k) (hn:cH l=n) (h:cx l=false) (h2:iX l=0):bI l br sq= .tok k n br sq:=by
 rw[bI,h,af (by simp),af (by omega),hk,hn]
theorem JO (hs:aY l=sp) (h:ag l<sp):kG l=4∧cH l=sp∧iX l=(bG (l.take sp)).2:=by
 subst hs;refine⟨?_,?_,?_⟩
 ·rw[kG,au h]
 ·rw[cH,au h]
 ·rw[iX,au h,cH,au h]
theorem O5 (hn:ag l=np) (h: ¬np<aY l):kG l=3∧cH l=np∧iX l=bK (l.take np):=by
 subst hn;refine⟨?_,?_,?_⟩
 ·rw[kG,af h]
 ·rw[cH,af h]
 ·rw[iX,af h,cH,af h]
def S9:List (List UInt8):=[[61,61],[33,61],[61,126],[33,126],[60,61],[62,61]]
def Ie (l:List UInt8):Bool:=decide (1<l.length)&&S9.contains (l.take 2)
def L5:List Nat:=[40,41,44,58,61,60,62,43,45,42,47,37,94,64]
def sJ (l:List UInt8) (br sq:Bool):A6:=
 if Ie l=true then .tok 6 2 br sq
 else if (aq l 0).toNat=123 then .tok 6 1 true sq
 else if (aq l 0).toNat=125 then .tok 6 1 false sq
 else if (aq l 0).toNat=91 then .tok 6 1 br true
 else if (aq l 0).toNat=93 then .tok 6 1 br false
 else if L5.contains (aq l 0).toNat=true then .tok 6 1 br sq
 else .bad 110
theorem Ym (h:Ie l=true):sJ l br sq= .tok 6 2 br sq:=by rw[sJ,au h]
theorem iV (h:Ie l=false) {c:Nat} (hc:(aq l 0).toNat=c):sJ l br sq=
  if c=123 then .tok 6 1 true sq else if c=125 then .tok 6 1 false sq else if c=91 then .tok 6 1 br true else if c=93 then .tok 6 1 br false
  else if L5.contains c=true then .tok 6 1 br sq else .bad 110:=by
 rw[sJ,h,hc,af (by simp)]
def tA (l:List UInt8) (br sq:Bool):A6:=
 match bH l 0 with
 |none=>.bad 111
 |some n=>if (lV (l.take n)).1=0 then .tok 5 n br sq else .bad 111
def bg (l:List UInt8) (br sq:Bool):A6:=
 if letter (aq l 0)=true then .tok (cg br (l.take (ae (bu (!br&& !sq)) l 0))) (ae (bu (!br&& !sq)) l 0) br sq
 else if (aq l 0).toNat=58∧(!br&& !sq)=true then .tok 2 (ae (bu true) l 1) br sq
 else if digit (aq l 0)=true∨((aq l 0).toNat=46∧1<l.length∧digit (aq l 1)=true)then bI l br sq
 else if dD (aq l 0)=true then tA l br sq
 else sJ l br sq
theorem mK (q : UInt8) : ∀ (l : List UInt8) (n : Nat), eK q l = some n → 1 ≤ n ∧ n ≤ l.length
  | [], n, h => by simp [eK] at h
  | [c], n, h => by
    simp only[eK]at h
    split at h
    · simp at h; subst h; simp
    · simp at h
  | c :: d :: r, n, h => by
    simp only[eK]at h
    split at h
    · simp at h; subst h; simp
    · split at h
      · obtain ⟨m, hm, rfl⟩ := xC.1 h
        have:=mK q (d::r) m hm
        simp at*;omega
      · split at h
        · simp at h
        · split at h
          · split at h
            · simp at h
            · obtain ⟨m, hm, rfl⟩ := xC.1 h
              have:=mK q r m hm
              simp at*;omega
          · obtain ⟨m, hm, rfl⟩ := xC.1 h
            have:=mK q (d::r) m hm
            simp at*;omega
theorem yd (h:bH l i=some n):i+2≤n∧n≤l.length:=by
 unfold bH at h;split at h
 ·obtain⟨m,hm,rfl⟩:=xC.1 h;have:=mK _ _ m hm;simp at this;omega
 ·simp at h
theorem gE (l:List UInt8) (i j:Nat):aq (l.drop i) j=aq l (i+j):=by
 simp[aq,lA]
theorem zq (l:List UInt8) (i:Nat):bH l i=(bH (l.drop i) 0).map (· +i):=by
 rw[bH,bH,gE,yS,nV];by_cases h:i<l.length∧dD (aq l i)=true
 ·rw[au h,au ⟨by omega,h.2⟩];cases eK (aq l i) (l.drop (i+1))
  ·rfl
  ·simp;omega
 ·rw[af h,af (by intro h2;exact h ⟨by omega,h2.2⟩)];rfl
structure Tok where
 kind:Nat
 text:List UInt8
 pos:Nat
def jC (c:UInt8):Bool:=c.toNat==9||c.toNat==10||c.toNat==13||c.toNat==32
def eL (c:UInt8):Bool:=c.toNat != 10
def db (l:List UInt8):Nat:=min (ae eL l 0+1) l.length
def qC:Nat→List UInt8→Nat→Bool→Bool→List Tok×Option (Nat×Nat)
 |0,_,_,_,_=>([],none)
 |f+1,l,p,br,sq=>
  if l=[]then([],none)
  else if jC (aq l 0)=true then qC f (l.drop 1) (p+1) br sq
  else if (aq l 0).toNat=35 then qC f (l.drop (db l)) (p+db l) br sq
  else match bg l br sq with
   | .bad e=>([],some (p,e))
   | .tok k n b q=>(⟨k,l.take n,p⟩::(qC f (l.drop n) (p+n) b q).1,(qC f (l.drop n) (p+n) b q).2)
def cO (l:List UInt8) (p:Nat) (br sq:Bool):List Tok×Option (Nat×Nat):=qC l.length l p br sq
theorem lX (h:l≠[]):0<l.length:=Ez.2 h
theorem kh (h:l≠[]):1≤db l∧db l≤l.length:=by
 have:=lX h;unfold db;omega
theorem UJ (h:l≠[]):l=aq l 0::l.drop 1:=by
 cases l with
 |nil=>exact absurd rfl h
 |cons c r=>rfl
theorem ua {p:UInt8→Bool} (h:l≠[]) (hp:p (aq l 0)=true):1≤ae p l 0:=by
 cases l with
 |nil=>exact absurd rfl h
 |cons c r=>
  have hp':p c=true:=hp;simp[ae,rf,hp']
theorem Ao (h:l≠[]) (hd:digit (aq l 0)=true∨((aq l 0).toNat=46∧1<l.length∧digit (aq l 1)=true)):1≤ag l:=by
 unfold ag;split
 ·have:=aX gX l 2;omega
 ·have h1:1≤aJ l:=by
   rcases hd with hd|⟨h1,h2,h3⟩
   ·have hs:=ua h hd;unfold aJ;split
    ·have:=aX digit l (ae digit l 0+1);omega
    ·rw[af (by omega)];exact hs
   ·have h0:ae digit l 0=0:=by
     cases l with
     |nil=>exact absurd rfl h
     |cons c r=>
      have:digit c=false:=by
       have h1':c.toNat=46:=h1;simp[digit,h1']
      simp[ae,rf,this]
    rw[aJ,h0,af (by omega),au ⟨rfl,h2,h1,h3⟩];exact aX digit l 1
  rw[af (by omega)];have:=mj l (aJ l) (ml l);omega
theorem jc (h:l≠[]) (ht:bg l br sq= .tok k n b q):1≤n∧n≤l.length:=by
 have hl:=lX h;unfold bg at ht;split at ht
 ·rename_i h1;injection ht with _ h2
  subst h2;exact⟨ua h (tZ h1),bL _ l 0 (dQ _)⟩
 ·split at ht
  ·injection ht with _ h2
   subst h2;exact⟨aX _ l 1,bL _ l 1 hl⟩
  ·split at ht
   ·rename_i h1;have hp:=Ao h h1;have hle:=QN l;unfold bI at ht;split at ht
    ·cases ht
    ·split at ht
     ·cases ht
     ·injection ht with _ h2
      subst h2;refine⟨?_,hle⟩;unfold cH;split<;>omega
   ·split at ht
    ·unfold tA at ht;split at ht
     ·cases ht
     ·rename_i m hm;have:=yd hm;split at ht
      ·injection ht with _ h2
       omega
      ·cases ht
    ·unfold sJ at ht;split at ht
     ·rename_i h2;simp[Ie]at h2;injection ht with _ h3
      omega
     ·repeat' split at ht
      all_goals first
       |(injection ht with _ h3;omega)
       |cases ht
theorem ki : ∀ (f g : Nat) (l : List UInt8) (p : Nat) (br sq : Bool), l.length ≤ f → l.length ≤ g → qC f l p br sq = qC g l p br sq
  | 0, g, l, p, br, sq, hf, _ => by
    have:l=[]:=Bc (by omega)
    subst this
    cases g<;>simp[qC]
  | f + 1, 0, l, p, br, sq, _, hg => by
    have:l=[]:=Bc (by omega)
    subst this
    simp[qC]
  | f + 1, g + 1, l, p, br, sq, hf, hg => by
    rw[qC,qC]
    by_cases h:l=[]
    · rw [au h, au h]
    · have hl := lX h
      have hr:=kh h
      rw[af h,af h,ki f g (l.drop 1) _ _ _ (by simp;omega) (by simp;omega),ki f g (l.drop (db l)) _ _ _ (by simp;omega) (by simp;omega)]
      cases ht:bg l br sq with
      | bad e => rfl
      | tok k n b q =>
        have hn:=jc h ht
        dsimp only
        rw[ki f g (l.drop n) _ _ _ (by simp;omega) (by simp;omega)]
theorem sU (p:Nat) (br sq:Bool):cO [] p br sq=([],none):=rfl
theorem oL (h:l≠[]) (p:Nat) (br sq:Bool):cO l p br sq=
  if jC (aq l 0)=true then cO (l.drop 1) (p+1) br sq
  else if (aq l 0).toNat=35 then cO (l.drop (db l)) (p+db l) br sq
  else match bg l br sq with
   | .bad e=>([],some (p,e))
   | .tok k n b q=>(⟨k,l.take n,p⟩::(cO (l.drop n) (p+n) b q).1,(cO (l.drop n) (p+n) b q).2):=by
 have hl:=lX h;have hr:=kh h;obtain⟨f,hf⟩: ∃f,l.length=f+1:=⟨l.length-1,by omega⟩;unfold cO;rw[hf,qC,af h,ki f (l.drop 1).length (l.drop 1) _ _ _ (by simp;omega) (aS _),ki f (l.drop (db l)).length (l.drop (db l)) _ _ _ (by simp;omega) (aS _)];cases ht:bg l br sq with
 |bad e=>rfl
 |tok k n b q=>
  have hn:=jc h ht;dsimp only;rw[ki f (l.drop n).length (l.drop n) _ _ _ (by simp;omega) (aS _)]
theorem cT (h:l≠[]) (hb:jC (aq l 0)=true) (p:Nat) (br sq:Bool):cO l p br sq=cO (l.drop 1) (p+1) br sq:=by
 rw[oL h,au hb]
theorem ajr (h:c.toNat=35):jC c=false:=by simp[jC,h]
theorem jL (h:l≠[]) (hc:(aq l 0).toNat=35) (p:Nat) (br sq:Bool):cO l p br sq=cO (l.drop (db l)) (p+db l) br sq:=by
 rw[oL h,ajr hc,af (by simp),au hc]
theorem sV (h:l≠[]) {br sq:Bool} {e:Nat} (hb:jC (aq l 0)=false) (hc:(aq l 0).toNat≠35) (ht:bg l br sq= .bad e) (p:Nat):cO l p br sq=([],some (p,e)):=by
 rw[oL h,hb,af (by simp),af hc,ht]
theorem oX (h:l≠[]) {br sq b q:Bool} {k n:Nat} (hb:jC (aq l 0)=false) (hc:(aq l 0).toNat≠35) (ht:bg l br sq= .tok k n b q) (p:Nat):
  cO l p br sq=(⟨k,l.take n,p⟩::(cO (l.drop n) (p+n) b q).1,(cO (l.drop n) (p+n) b q).2):=by
 rw[oL h,hb,af (by simp),af hc,ht]
def nr (w:World) (p:Nat):Nat:=match w.cell? ⟨p,1,none⟩with|some (.int _ k)=>k.toNat|_=>0
def Tok.cells (t:Tok):List Value:=[.int .i64 (t.kind:Int),.string ⟨t.text.toArray⟩,.int .i64 (t.pos:Int)]
def aP (ts:List Tok):List Value:=ts.flatMap Tok.cells
theorem jO (ts:List Tok) (t:Tok):aP (ts++[t])=aP ts++t.cells:=by simp[aP]
theorem sW {P:Program} {K:Act → World → Prop} {Q:Exit → Act → World → Prop} {E:Prop} 
    (hg : o.guard = none) (s x : Operand) (t : TypeId) (vp : o.op = Op.call { callee := Callee.builtin Builtin.append, args := #[s, x], argTypes := #[t, t] })
    (base : Nat) (e : TypeId) (z : Value) (size bytes : Nat) (jD : (P.info? e).map (fun i => (i.zero, i.size, i.bytes)) = some (some z, size, bytes)) (h1 : P.underlying t = some (.slice e)) (yA : z.cells.size = size) (iE : 0 < size)
    (v : Value) (n : Nat) (xs : List Value) (hs : a.eval s = v) (aL : w0.ownsRow base e size v n xs) (us : List Value) (WV : us.length = size)
    (hx : a.eval x = .slice (some ⟨w0.heap.size, 0, none⟩) 1 1) (PD : ∀ u ∈ us, u.oneCell' = true) (pC : n + 1 ≤ maxLen) (hb : (n + 1) * bytes ≤ 140737488355328) (cN : base ≤ w0.heap.size)
    (hK : ∀ v' w', w'.ownsRow base e size v' (n + 1) (xs ++ us) → w0.grownBy w' v.ownBlock → K (a.put o.dst v') w') :
    if Region.wanted o (yielded ops a.tmps)=true then Oper.wp P o a (w0.alloc (.cells us.toArray e)) K Q else E:=by
  have hw:Region.wanted o (yielded ops a.tmps)=true:=by simp[Region.wanted,hg]
  rw[au hw]
  obtain⟨i,hi,hz,H8,H9⟩:=kR jD
  obtain ⟨v', w', aaN, r1, r2, _⟩ := run_append_own (P := P) (w0.alloc (.cells us.toArray e)) base t o.type e i z size bytes h1 hi hz H8 H9 yA iE v n xs (aL.alloc _) ⟨w0.heap.size, 0, none⟩ 1 1 us (by omega)
    (by intro j u hu
        have hj:j<us.length:=(yF.1 hu).1
        rw[ri,kP,vC _ _ _ _ rfl]
        simpa using hu) PD pC hb (by simp;omega)
  unfold Oper.wp
  simp[execOp,vp,resolve,invoke,builtin,hs,hx,aaN,Result.andThen]
  exact hK v' w' r1 (aM (tN w0 _ _) r2)
def qV (w:World) (p:Nat) (s:ByteArray) (at':Nat) (br sq:Bool) (v:Value):Prop:=aK w p 191 #[.string s,.int .i64 (at':Int),.bool br,.bool sq,v]
theorem wM:(prog.info? 139).map (fun i=>(i.zero,i.size,i.bytes))=some (some (.agg #[.int .i64 0,.string ⟨#[]⟩,.int .i64 0]),3,32):=by
 kernel_rfl
theorem QO {row:Option Nat} (h:w.ownsRow base e size v n xs) (hb:w.grownBy w' row) (hg: ∀g,v.ownBlock=some g→some g≠row):w'.ownsRow base e size v n xs:=by
 refine⟨h.1,?_⟩;rcases h.2 with hn|⟨g,cap,cur,rfl,h1,h2,h3,h4,h5,h6⟩
 ·exact .inl hn
 ·have ax:g<w.heap.size:=by
   rcases dF g w.heap.size with ax|mg
   ·exact ax
   ·rw[Be mg]at h2;cases h2
  exact .inr ⟨g,cap,cur,rfl,h1,(hb.block g ax (hg g rfl)).trans h2,h3,h4,h5,h6⟩
theorem wN (h:w.ownsRow base e size v n xs): ∃ao n' c',v= .slice ao n' c':=by
 rcases h.2 with⟨rfl,_⟩|⟨g,cap,cur,rfl,_⟩
 ·exact⟨_,_,_,rfl⟩
 ·exact⟨_,_,_,rfl⟩
theorem JP (hz:qV w p s at' br sq v) (ho:w.ownsRow base 139 3 v n xs) (hg:w.drew.grownBy w' v.ownBlock):qV w' p s at' br sq v:=
 aK.grown (w:=w.drew) hz hg (cI (e:=139) ho hz (by decide)).symm
def nA (base p:Nat) (s:ByteArray) (at':Nat) (br sq:Bool) (ts:List Tok) (w:World) (e:Ending) (w':World):Prop:=
 e= .returned (.int .i64 0)∧ ∃v,qV w' p s at' br sq v∧w'.ownsRow base 139 3 v ts.length (aP ts)∧Below base w w'
theorem eW (w:World) (base p:Nat) (s:ByteArray) (at' k n:Nat) (x y:Int) (hx:x=(k:Int)) (hy:y=(n:Int)) (br sq:Bool) (v:Value) (ts:List Tok) (hs:s.size≤281474976710656) (hn:at'+n≤s.size) (hk:k≤6)
  (hz:qV w p s at' br sq v) (aL:w.ownsRow base 139 3 v ts.length (aP ts)) (hlen:ts.length≤1099511627776) (gW:base≤p):
  Calls prog 147 #[.pointer (some ⟨p,0,none⟩),.int .i64 x,.int .i64 y] w (nA base p s (at'+n) br sq (ts++[⟨k,(s.data.toList.drop at').take n,at'⟩]) w):=by
 subst hx hy;have hw:IntKind.i64.wrap ((at':Int)+(n:Int))=((at'+n:Nat):Int):=by rw[xE];omega
 have q1:(0≤(at':Int)+(n:Int))=True:=by simp;omega
 have q2:((at':Int)+(n:Int)≤(s.size:Int))=True:=by simp;omega
 have q3:((at':Int)≤(at':Int)+(n:Int))=True:=by simp;omega
 have q4:((at':Int)+(n:Int)).toNat=at'+n:=by omega
 have c0:w.cell? ⟨p,0,none⟩=some (.string s):=by rw[hz.cell];rfl
 have c1:w.cell? ⟨p,1,none⟩=some (.int .i64 (at':Int)):=by rw[hz.cell];rfl
 have c4:w.cell? ⟨p,4,none⟩=some v:=by rw[hz.cell];rfl
 have e4: ∀o,(w.alloc o).cell? ⟨p,4,none⟩=some v:=fun o=>((aK.alloc hz o).cell 4).trans rfl
 have e4': ∀o,(w.drew.alloc o).cell? ⟨p,4,none⟩=some v:=fun o=>((aK.alloc (w:=w.drew) hz o).cell 4).trans rfl
 have HZ:=aa hz;have HO:=aa aL;clear hz aL;go_enter func147,ntmps147;go_wp2_with fail;refine wp_region_noPanic ?_;refine wp_region_held_drew (S:=fun w'=>w'.cell? ⟨p,0,none⟩=some (.string s)∧w'.cell? ⟨p,1,none⟩=some (.int .i64 (at':Int))) (by kernel_rfl) ?_ (fun hHeld=>?_)
 ·(try dsimp only)
  first|done|go_keep|(refine⟨?_,?_⟩<;>(rw[mV _ _ _ _ (by simp)];assumption))
 refine wpAnyH_take (i:=0) (v:=?_) rfl (by kernel_rfl) (by kernel_rfl) (by kernel_rfl) (fun _ _ _ h=>h) (Or.inl ⟨by rfl,?_⟩) (by assumption) ?_
 rotate_left
 ·intro w hSw
  try dsimp only at hSw
  go_simp
  first|done|(with_reducible rfl)
 try simp only[Act.put,kq,dM,dI]
 refine wpAnyH_take (i:=1) (v:=?_) rfl (by kernel_rfl) (by kernel_rfl) (by kernel_rfl) (fun _ _ _ h=>h) (Or.inl ⟨by rfl,?_⟩) (by assumption) ?_
 rotate_left
 ·intro w hSw
  try dsimp only at hSw
  go_simp
  first|done|(with_reducible rfl)
 try simp only[Act.put,kq,dM,dI]
 refine wpAnyH_take (i:=2) (v:=?_) rfl (by kernel_rfl) (by kernel_rfl) (by kernel_rfl) (fun _ _ _ h=>h) (Or.inl ⟨by rfl,?_⟩) (by assumption) ?_
 rotate_left
 ·intro w hSw
  try dsimp only at hSw
  go_simp
  first|done|(with_reducible rfl)
 try simp only[Act.put,kq,dM,dI]
 refine wpAnyH_take (i:=3) (v:=?_) rfl (by kernel_rfl) (by kernel_rfl) (by kernel_rfl) (fun _ _ _ h=>h) (Or.inl ⟨by rfl,?_⟩) (by assumption) ?_
 rotate_left
 ·intro w hSw
  try dsimp only at hSw
  go_simp
  first|done|(with_reducible rfl)
 try simp only[Act.put,kq,dM,dI]
 refine wpAnyH_take (i:=5) (v:=?_) rfl (by kernel_rfl) (by kernel_rfl) (by kernel_rfl) (fun _ _ _ h=>h) (Or.inl ⟨by rfl,?_⟩) (by assumption) ?_
 rotate_left
 ·intro w hSw
  try dsimp only at hSw
  go_simp
  first|done|(with_reducible rfl)
 try simp only[Act.put,kq,dM,dI]
 refine wpAnyH_take (i:=6) (v:=?_) rfl (by kernel_rfl) (by kernel_rfl) (by kernel_rfl) (fun _ _ _ h=>h) (Or.inl ⟨by rfl,?_⟩) (by assumption) ?_
 rotate_left
 ·intro w hSw
  try dsimp only at hSw
  go_simp
  first|done|(with_reducible rfl)
 try simp only[Act.put,kq,dM,dI]
 refine wpAnyH_take (i:=7) (v:=?_) rfl (by kernel_rfl) (by kernel_rfl) (by kernel_rfl) (fun _ _ _ h=>h) (Or.inl ⟨by rfl,?_⟩) (by assumption) ?_
 rotate_left
 ·intro w hSw
  try dsimp only at hSw
  go_simp
  first|done|(with_reducible rfl)
 try simp only[Act.put,kq,dM,dI]
 refine wpAnyH_take (i:=8) (v:=?_) rfl (by kernel_rfl) (by kernel_rfl) (by kernel_rfl) (fun _ _ _ h=>h) (Or.inl ⟨by rfl,?_⟩) (by assumption) ?_
 rotate_left
 ·intro w hSw
  try dsimp only at hSw
  go_simp
  first|done|(with_reducible rfl)
 try simp only[Act.put,kq,dM,dI]
 refine wpAnyH_take (i:=9) (v:=?_) rfl (by kernel_rfl) (by kernel_rfl) (by kernel_rfl) (fun _ _ _ h=>h) (Or.inl ⟨by rfl,?_⟩) (by assumption) ?_
 rotate_left
 ·intro w hSw
  try dsimp only at hSw
  go_simp
  first|done|(with_reducible rfl)
 try simp only[Act.put,kq,dM,dI]
 refine wpAnyH_take (i:=10) (v:=?_) rfl (by kernel_rfl) (by kernel_rfl) (by kernel_rfl) (fun _ _ _ h=>h) (Or.inl ⟨by rfl,?_⟩) (by assumption) ?_
 rotate_left
 ·intro w hSw
  try dsimp only at hSw
  go_simp
  first|done|(with_reducible rfl)
 try simp only[Act.put,kq,dM,dI]
 refine wpAnyH_take (i:=11) (v:=?_) rfl (by kernel_rfl) (by kernel_rfl) (by kernel_rfl) (fun _ _ _ h=>h) (Or.inl ⟨by rfl,?_⟩) (by assumption) ?_
 rotate_left
 ·intro w hSw
  try dsimp only at hSw
  go_simp
  first|done|(with_reducible rfl)
 try simp only[Act.put,kq,dM,dI]
 refine wpAnyH_take (i:=12) (v:=?_) rfl (by kernel_rfl) (by kernel_rfl) (by kernel_rfl) (fun _ _ _ h=>h) (Or.inl ⟨by rfl,?_⟩) (by assumption) ?_
 rotate_left
 ·intro w hSw
  try dsimp only at hSw
  go_simp
  first|done|(with_reducible rfl)
 try simp only[Act.put,kq,dM,dI]
 refine wpAnyH_take (i:=13) (v:=?_) rfl (by kernel_rfl) (by kernel_rfl) (by kernel_rfl) (fun _ _ _ h=>h) (Or.inl ⟨by rfl,?_⟩) (by assumption) ?_
 rotate_left
 ·intro w hSw
  try dsimp only at hSw
  go_simp
  first|done|(with_reducible rfl)
 try simp only[Act.put,kq,dM,dI]
 refine wpAnyH_take (i:=14) (v:=?_) rfl (by kernel_rfl) (by kernel_rfl) (by kernel_rfl) (fun _ _ _ h=>h) (Or.inl ⟨by rfl,?_⟩) (by assumption) ?_
 rotate_left
 ·intro w hSw
  try dsimp only at hSw
  go_simp
  first|done|(with_reducible rfl)
 try simp only[Act.put,kq,dM,dI]
 refine wpAnyH_take (i:=15) (v:=?_) rfl (by kernel_rfl) (by kernel_rfl) (by kernel_rfl) (fun _ _ _ h=>h) (Or.inl ⟨by rfl,?_⟩) (by assumption) ?_
 rotate_left
 ·intro w hSw
  try dsimp only at hSw
  go_simp
  first|done|(with_reducible rfl)
 try simp only[Act.put,kq,dM,dI]
 refine wpAnyH_take (i:=16) (v:=?_) rfl (by kernel_rfl) (by kernel_rfl) (by kernel_rfl) (fun _ _ _ h=>h) (Or.inl ⟨by rfl,?_⟩) (by assumption) ?_
 rotate_left
 ·intro w hSw
  try dsimp only at hSw
  go_simp
  first|done|(with_reducible rfl)
 try simp only[Act.put,kq,dM,dI]
 refine wpAnyH_take (i:=17) (v:=?_) rfl (by kernel_rfl) (by kernel_rfl) (by kernel_rfl) (fun _ _ _ h=>h) (Or.inl ⟨by rfl,?_⟩) (by assumption) ?_
 rotate_left
 ·intro w hSw
  try dsimp only at hSw
  go_simp
  first|done|(with_reducible rfl)
 try simp only[Act.put,kq,dM,dI]
 refine wpAnyH_take (i:=18) (v:=?_) rfl (by kernel_rfl) (by kernel_rfl) (by kernel_rfl) (fun _ _ _ h=>h) (Or.inl ⟨by rfl,?_⟩) (by assumption) ?_
 rotate_left
 ·intro w hSw
  try dsimp only at hSw
  go_simp
  first|done|(with_reducible rfl)
 try simp only[Act.put,kq,dM,dI]
 refine wpAnyH_take (i:=19) (v:=?_) rfl (by kernel_rfl) (by kernel_rfl) (by kernel_rfl) (fun _ _ _ h=>h) (Or.inl ⟨by rfl,?_⟩) (by assumption) ?_
 rotate_left
 ·intro w hSw
  try dsimp only at hSw
  go_simp
  first|done|(with_reducible rfl)
 try simp only[Act.put,kq,dM,dI]
 refine wpAnyH_take (i:=20) (v:=?_) rfl (by kernel_rfl) (by kernel_rfl) (by kernel_rfl) (fun _ _ _ h=>h) (Or.inl ⟨by rfl,?_⟩) (by assumption) ?_
 rotate_left
 ·intro w hSw
  try dsimp only at hSw
  go_simp
  first|done|(with_reducible rfl)
 try simp only[Act.put,kq,dM,dI]
 refine wpAnyH_take (i:=21) (v:=?_) rfl (by kernel_rfl) (by kernel_rfl) (by kernel_rfl) (fun _ _ _ h=>h) (Or.inl ⟨by rfl,?_⟩) (by assumption) ?_
 rotate_left
 ·intro w hSw
  try dsimp only at hSw
  go_simp
  first|done|(with_reducible rfl)
 try simp only[Act.put,kq,dM,dI]
 refine wpAnyH_take (i:=22) (v:=?_) rfl (by kernel_rfl) (by kernel_rfl) (by kernel_rfl) (fun _ _ _ h=>h) (Or.inl ⟨by rfl,?_⟩) (by assumption) ?_
 rotate_left
 ·intro w hSw
  try dsimp only at hSw
  go_simp
  first|done|(with_reducible rfl)
 try simp only[Act.put,kq,dM,dI]
 refine wpAnyH_take (i:=23) (v:=?_) rfl (by kernel_rfl) (by kernel_rfl) (by kernel_rfl) (fun _ _ _ h=>h) (Or.inl ⟨by rfl,?_⟩) (by assumption) ?_
 rotate_left
 ·intro w hSw
  try dsimp only at hSw
  go_simp
  first|done|(with_reducible rfl)
 try simp only[Act.put,kq,dM,dI]
 refine wpAnyH_take (i:=24) (v:=?_) rfl (by kernel_rfl) (by kernel_rfl) (by kernel_rfl) (fun _ _ _ h=>h) (Or.inl ⟨by rfl,?_⟩) (by assumption) ?_
 rotate_left
 ·intro w hSw
  try dsimp only at hSw
  go_simp
  first|done|(with_reducible rfl)
 try simp only[Act.put,kq,dM,dI]
 refine wpAnyH_take (i:=25) (v:=?_) rfl (by kernel_rfl) (by kernel_rfl) (by kernel_rfl) (fun _ _ _ h=>h) (Or.inl ⟨by rfl,?_⟩) (by assumption) ?_
 rotate_left
 ·intro w hSw
  try dsimp only at hSw
  go_simp
  first|done|(with_reducible rfl)
 try simp only[Act.put,kq,dM,dI]
 refine wpAnyH_ready (rs:=[4,26]) (by kernel_rfl) (by simp) ?_;refine AllReadyH.cons (i:=4) rfl (fun K hK=>?_) ?_
 ·go_simp
  refine hK.out _ _ ?_ (fun hHeld=>?_)
  ·(try dsimp only)
   first|done|go_keep|(refine⟨?_,?_⟩<;>(rw[mV _ _ _ _ (by simp)];assumption))
  clear hK K
  try simp only[Act.put,kq,dM,dI]
  refine wpAnyH_ready (rs:=[26]) (by kernel_rfl) (by simp) ?_;refine AllReadyH.cons (i:=26) rfl (fun K hK=>?_) ?_
  ·go_simp
   refine hK.out _ _ ?_ (fun hHeld=>?_)
   ·(try dsimp only)
    first|done|go_keep|(refine⟨?_,?_⟩<;>(rw[mV _ _ _ _ (by simp)];assumption))
   clear hK K
   try simp only[Act.put,kq,dM,dI]
   refine wpAnyH_ready (rs:=[27]) (by kernel_rfl) (by simp) ?_;refine AllReadyH.cons (i:=27) rfl (fun K hK=>?_) ?_
   ·refine sW (w0:=w.drew) rfl (.tmp 11) (.tmp 33) 135 rfl base 139 (.agg #[.int .i64 0,.string ⟨#[]⟩,.int .i64 0]) 3 32 wM underlying135 rfl (by omega) v _ _ (by rfl) HO.out [.int .i64 (k:Int),.string (s.extract at' (at'+n)),.int .i64 (at':Int)] rfl (by rfl) (by intro u hu;simp at hu;rcases hu with rfl|rfl|rfl<;>rfl) (by unfold maxLen;omega) (by omega) (ju (pw gW HZ.out.lt)) ?_;intro v' w' ho hg;obtain⟨ao,n',c',rfl⟩:=wN ho;have ep:=JP HZ.out HO.out hg;have d4:w'.cell? ⟨p,4,none⟩=some v:=(ep.cell 4).trans rfl;have f4:w'.frozen? ⟨p,4,none⟩=false:=ep.frozen 4;have f1:w'.frozen? ⟨p,1,none⟩=false:=ep.frozen 1;have d0:w'.cell? ⟨p,0,none⟩=some (.string s):=(ep.cell 0).trans rfl;have d1:w'.cell? ⟨p,1,none⟩=some (.int .i64 (at':Int)):=(ep.cell 1).trans rfl;have jh:=aa ep;have kt:=aa ho;have HG2:=aa hg;clear ep ho hg;refine hK.out _ _ ?_ (fun hHeld=>?_)
    ·(try dsimp only)
     first|done|go_keep|(refine⟨?_,?_⟩<;>(rw[mV _ _ _ _ (by simp)];assumption))
    clear hK K
    try simp only[Act.put,kq,dM,dI]
    refine wpAnyH_take (i:=28) (v:=?_) rfl (by kernel_rfl) (by kernel_rfl) (by kernel_rfl) (fun _ _ _ h=>h) (Or.inl ⟨by rfl,?_⟩) (by assumption) ?_
    rotate_left
    ·intro w hSw
     try dsimp only at hSw
     go_simp
     first|done|(with_reducible rfl)
    try simp only[Act.put,kq,dM,dI]
    refine wpAnyH_take (i:=29) (v:=?_) rfl (by kernel_rfl) (by kernel_rfl) (by kernel_rfl) (fun _ _ _ h=>h) (Or.inl ⟨by rfl,?_⟩) (by assumption) ?_
    rotate_left
    ·intro w hSw
     try dsimp only at hSw
     go_simp
     first|done|(with_reducible rfl)
    try simp only[Act.put,kq,dM,dI]
    refine wpAnyH_ready (rs:=[30]) (by kernel_rfl) (by simp) ?_;refine AllReadyH.cons (i:=30) rfl (fun K hK=>?_) ?_
    ·go_simp
     refine hK.out _ _ ?_ (fun hHeld=>?_)
     ·(try dsimp only)
      first|done|go_keep|(refine⟨?_,?_⟩<;>(rw[mV _ _ _ _ (by simp)];assumption))
     clear hK K
     try simp only[Act.put,kq,dM,dI]
     refine wpAnyH_done (by kernel_rfl) ?_ _;refine NoPanic.normal ?_;go_wp2_with fail;go_ret;have jU:=(aK.bT (aK.bT jh.out 4 (.slice ao n' c')) 1 (.int .i64 ((at':Int)+(n:Int))));refine⟨rfl,.slice ao n' c',?_,?_,?_⟩
     ·simpa [qV]using jU
     ·have h:=aD (i:=1) (aD (i:=4) kt.out jh.out (by decide) (.slice ao n' c')) (aK.bT jh.out 4 (.slice ao n' c')) (by decide) (.int .i64 ((at':Int)+(n:Int)));have e:(aP (ts++[⟨k,(s.data.toList.drop at').take n,at'⟩]))=aP ts++[.int .i64 (k:Int),.string (s.extract at' (at'+n)),.int .i64 (at':Int)]:=by
       rw[jO,Tok.cells];have:(⟨((s.data.toList.drop at').take n).toArray⟩:ByteArray)=s.extract at' (at'+n):=by
        rw[←mk_data (s.extract at' (at'+n)),Lib.extract_data,show at'+n-at'=n by omega]
       rw[this]
      rw[e,iJ];exact h
     ·have ax:=HZ.out.lt;have hb:=((aV base w).drew).grown HG2.out (ju (pw gW ax)) (fun g hg=>(HO.out.lt g hg).1);exact(hb.setCell (p:=⟨p,4,none⟩) gW _).setCell (p:=⟨p,1,none⟩) gW _
    exact AllReadyH.nil
   exact AllReadyH.nil
  exact AllReadyH.nil
 refine AllReadyH.cons (i:=26) rfl (fun K hK=>?_) ?_
 ·go_simp
  refine hK.out _ _ ?_ (fun hHeld=>?_)
  ·(try dsimp only)
   first|done|go_keep|(refine⟨?_,?_⟩<;>(rw[mV _ _ _ _ (by simp)];assumption))
  clear hK K
  try simp only[Act.put,kq,dM,dI]
  refine wpAnyH_ready (rs:=[4]) (by kernel_rfl) (by simp) ?_;refine AllReadyH.cons (i:=4) rfl (fun K hK=>?_) ?_
  ·go_simp
   refine hK.out _ _ ?_ (fun hHeld=>?_)
   ·(try dsimp only)
    first|done|go_keep|(refine⟨?_,?_⟩<;>(rw[mV _ _ _ _ (by simp)];assumption))
   clear hK K
   try simp only[Act.put,kq,dM,dI]
   refine wpAnyH_ready (rs:=[27]) (by kernel_rfl) (by simp) ?_;refine AllReadyH.cons (i:=27) rfl (fun K hK=>?_) ?_
   ·refine sW (w0:=w.drew) rfl (.tmp 11) (.tmp 33) 135 rfl base 139 (.agg #[.int .i64 0,.string ⟨#[]⟩,.int .i64 0]) 3 32 wM underlying135 rfl (by omega) v _ _ (by rfl) HO.out [.int .i64 (k:Int),.string (s.extract at' (at'+n)),.int .i64 (at':Int)] rfl (by rfl) (by intro u hu;simp at hu;rcases hu with rfl|rfl|rfl<;>rfl) (by unfold maxLen;omega) (by omega) (ju (pw gW HZ.out.lt)) ?_;intro v' w' ho hg;obtain⟨ao,n',c',rfl⟩:=wN ho;have ep:=JP HZ.out HO.out hg;have d4:w'.cell? ⟨p,4,none⟩=some v:=(ep.cell 4).trans rfl;have f4:w'.frozen? ⟨p,4,none⟩=false:=ep.frozen 4;have f1:w'.frozen? ⟨p,1,none⟩=false:=ep.frozen 1;have d0:w'.cell? ⟨p,0,none⟩=some (.string s):=(ep.cell 0).trans rfl;have d1:w'.cell? ⟨p,1,none⟩=some (.int .i64 (at':Int)):=(ep.cell 1).trans rfl;have jh:=aa ep;have kt:=aa ho;have HG2:=aa hg;clear ep ho hg;refine hK.out _ _ ?_ (fun hHeld=>?_)
    ·(try dsimp only)
     first|done|go_keep|(refine⟨?_,?_⟩<;>(rw[mV _ _ _ _ (by simp)];assumption))
    clear hK K
    try simp only[Act.put,kq,dM,dI]
    refine wpAnyH_take (i:=28) (v:=?_) rfl (by kernel_rfl) (by kernel_rfl) (by kernel_rfl) (fun _ _ _ h=>h) (Or.inl ⟨by rfl,?_⟩) (by assumption) ?_
    rotate_left
    ·intro w hSw
     try dsimp only at hSw
     go_simp
     first|done|(with_reducible rfl)
    try simp only[Act.put,kq,dM,dI]
    refine wpAnyH_take (i:=29) (v:=?_) rfl (by kernel_rfl) (by kernel_rfl) (by kernel_rfl) (fun _ _ _ h=>h) (Or.inl ⟨by rfl,?_⟩) (by assumption) ?_
    rotate_left
    ·intro w hSw
     try dsimp only at hSw
     go_simp
     first|done|(with_reducible rfl)
    try simp only[Act.put,kq,dM,dI]
    refine wpAnyH_ready (rs:=[30]) (by kernel_rfl) (by simp) ?_;refine AllReadyH.cons (i:=30) rfl (fun K hK=>?_) ?_
    ·go_simp
     refine hK.out _ _ ?_ (fun hHeld=>?_)
     ·(try dsimp only)
      first|done|go_keep|(refine⟨?_,?_⟩<;>(rw[mV _ _ _ _ (by simp)];assumption))
     clear hK K
     try simp only[Act.put,kq,dM,dI]
     refine wpAnyH_done (by kernel_rfl) ?_ _;refine NoPanic.normal ?_;go_wp2_with fail;go_ret;have jU:=(aK.bT (aK.bT jh.out 4 (.slice ao n' c')) 1 (.int .i64 ((at':Int)+(n:Int))));refine⟨rfl,.slice ao n' c',?_,?_,?_⟩
     ·simpa [qV]using jU
     ·have h:=aD (i:=1) (aD (i:=4) kt.out jh.out (by decide) (.slice ao n' c')) (aK.bT jh.out 4 (.slice ao n' c')) (by decide) (.int .i64 ((at':Int)+(n:Int)));have e:(aP (ts++[⟨k,(s.data.toList.drop at').take n,at'⟩]))=aP ts++[.int .i64 (k:Int),.string (s.extract at' (at'+n)),.int .i64 (at':Int)]:=by
       rw[jO,Tok.cells];have:(⟨((s.data.toList.drop at').take n).toArray⟩:ByteArray)=s.extract at' (at'+n):=by
        rw[←mk_data (s.extract at' (at'+n)),Lib.extract_data,show at'+n-at'=n by omega]
       rw[this]
      rw[e,iJ];exact h
     ·have ax:=HZ.out.lt;have hb:=((aV base w).drew).grown HG2.out (ju (pw gW ax)) (fun g hg=>(HO.out.lt g hg).1);exact(hb.setCell (p:=⟨p,4,none⟩) gW _).setCell (p:=⟨p,1,none⟩) gW _
    exact AllReadyH.nil
   exact AllReadyH.nil
  exact AllReadyH.nil
 exact AllReadyH.nil
theorem df (h:i<x.length):aq (x++y) i=aq x i:=by
 simp[aq,lA,Tv h]
theorem eE {p:UInt8→Bool} (hi:i≤x.length) (h:ae p (x++y) i≤x.length):ae p x i=ae p (x++y) i:=by
 have e:(x++y).drop i=x.drop i++y:=IT hi;unfold ae at h ⊢
 rw[e]at h ⊢
 obtain⟨z,hz⟩: ∃z,z=x.drop i:=⟨_,rfl⟩;have hzl:z.length=x.length-i:=by rw[hz];simp
 rw[←hz]at h ⊢
 clear hz e;have h2:((z++y).takeWhile p).length≤z.length:=by omega
 have h3: ∀z:List UInt8,((z++y).takeWhile p).length≤z.length→(z.takeWhile p).length=((z++y).takeWhile p).length:=by
  intro z;induction z with
  |nil=>intro h;exact(Nat.le_zero.1 h).symm
  |cons c r ih=>
   intro h;simp only[py,rf]at*
   split
   ·rename_i hp;rw[au hp]at h;simp at h;simp[ih h]
   ·rfl
 rw[h3 z h2]
theorem zt {p:UInt8→Bool} (hi:i≤x.length) (hc:p c=false):ae p (x++c::y) i=ae p x i:=by
 refine(eE hi ?_).symm;unfold ae;rw[IT hi];have h3: ∀z:List UInt8,((z++c::y).takeWhile p).length≤z.length:=by
  intro z;induction z with
  |nil=>simp[rf,hc]
  |cons d r ih=>
   simp only[py,rf];split
   ·simp;omega
   ·simp
 have:=h3 (x.drop i);simp at this ⊢
 omega
theorem MU {p:UInt8→Bool} : ∀{l:List UInt8} {i:Nat},ae p l i<l.length→p (aq l (ae p l i))=false:=by
 intro l i;unfold ae;obtain⟨z,hz⟩: ∃z,z=l.drop i:=⟨_,rfl⟩;intro h;have h1:aq l (i+(z.takeWhile p).length)=aq z (z.takeWhile p).length:=by rw[hz,gE]
 rw[←hz]at h ⊢
 rw[h1];have hl:(z.takeWhile p).length<z.length:=by rw[hz]at h ⊢;simp at h ⊢;omega
 clear h h1 hz;induction z with
 |nil=>simp at hl
 |cons c r ih=>
  simp only[rf]at*
  split
  ·rename_i hp;rw[au hp]at hl;simp only[dZ,Nat.add_lt_add_iff_right]at hl;exact ih hl
  ·rename_i hp;simpa [aq]using hp
theorem dx {p:UInt8→Bool} (h:i<l.length) (hp:p (aq l i)=false):ae p l i=i:=by
 refine xa h ?_;rw[←hp,aq,lA,eG h];rfl
theorem Kv (h:2<x.length):aR (x++y)=aR x:=by
 unfold aR;rw[df (by omega),df (by omega),df h,dR h,dR (by simp;omega)]
theorem CA (h:aJ (x++y)≤x.length):aJ x=aJ (x++y):=by
 have h0:ae digit (x++y) 0≤aJ (x++y):=by
  unfold aJ;split
  ·have:=aX digit (x++y) (ae digit (x++y) 0+1);omega
  ·split
   ·omega
   ·omega
 have h1:=eE (p:=digit) (x:=x) (y:=y) (dQ _) (by omega);unfold aJ at*
 rw[h1];generalize ae digit (x++y) 0=k at*
 by_cases c1:k<(x++y).length∧(aq (x++y) k).toNat=46∧0<k
 ·rw[au c1]at h ⊢
  have h2:=aX digit (x++y) (k+1);have hk:k<x.length:=by omega
  rw[df hk]at c1;rw[au ⟨hk,c1.2⟩];exact eE (by omega) h
 ·rw[af c1]at h ⊢
  rw[af (by rintro⟨a,b,c⟩;exact c1 ⟨by simp;omega,by rw[df a];exact b,c⟩)];by_cases c2:k=0∧1<(x++y).length∧(aq (x++y) 0).toNat=46∧digit (aq (x++y) 1)=true
  ·rw[au c2]at h ⊢
   have h2:2≤ae digit (x++y) 1:=by
    have:=iC (p:=digit) (l:=x++y) (i:=1) c2.2.1 (by
     have:=c2.2.2.2;rw[aq,lA,eG c2.2.1]at this;exact this)
    rw[←this];exact aX digit _ 2
   rw[df (by omega),df (by omega)]at c2;rw[au ⟨c2.1,by omega,c2.2.2⟩];exact eE (by omega) h
  ·rw[af c2];rw[af (by rintro⟨a,b,c,d⟩;exact c2 ⟨a,by simp;omega,by rw[df (by omega)];exact c,by rw[df b];exact d⟩)]
theorem CB (hi:i≤x.length) (h:da (x++y) i≤x.length):da x i=da (x++y) i:=by
 by_cases hx:x.length≤i
 ·have h1:da x i=i:=by rw[da,au (.inl hx)]
  have h2:=mj (x++y) i (by simp;omega);omega
 ·have ha:aq (x++y) i=aq x i:=df (by omega);unfold da at h ⊢
  rw[ha]at h ⊢
  cases he:tF (aq x i)
  ·rw[au (.inr rfl),au (.inr rfl)]
  ·rw[he]at h;have n1: ¬((x++y).length≤i∨true=false):=by simp;omega
   have n2: ¬(x.length≤i∨true=false):=by simp;omega
   rw[af n1]at h;rw[af n1,af n2];by_cases hs:i+1<x.length
   ·have hj:dH (x++y) i=dH x i:=by
     unfold dH;rw[df hs];by_cases hp:Aa (aq x (i+1))=true
     ·rw[au ⟨by simp;omega,hp⟩,au ⟨hs,hp⟩]
     ·rw[af (by intro h;exact hp h.2),af (by intro h;exact hp h.2)]
    have hb:=nH x i (by omega);rw[hj]at h ⊢
    by_cases hd:ae digit (x++y) (dH x i)≤x.length
    ·rw[eE hb.2 hd]
    ·have mg:dH x i<ae digit (x++y) (dH x i):=by omega
     rw[au mg]at h;omega
   ·
    have hj:dH x i=i+1:=by rw[dH,af (by intro h;exact hs h.1)]
    rw[hj,bR (by omega),af (by omega)];have hb:=nH (x++y) i (by simp;omega);by_cases hd:dH (x++y) i<ae digit (x++y) (dH (x++y) i)
    ·rw[au hd]at h;omega
    ·rw[af hd]
theorem D2 (h:ag (x++y)≤x.length):ag x=ag (x++y):=by
 by_cases h2:2<x.length
 ·unfold ag at h ⊢
  rw[Kv h2]at h ⊢
  cases hh:aR x
  ·rw[hh]at h;simp only[lE,iG]at h ⊢
   have hle:aJ (x++y)≤x.length:=by
    by_cases h0:aJ (x++y)=0
    ·omega
    ·rw[af h0]at h;have:=mj (x++y) _ (ml (x++y));omega
   rw[CA hle];by_cases h0:aJ (x++y)=0
   ·rw[au h0,au h0]
   ·rw[af h0]at h;rw[af h0,af h0];exact CB hle h
  ·rw[hh]at h;simp only[kT]at h ⊢
   exact eE (by omega) h
 ·have hn:aR x=false:=by simp[aR];omega
  have xz:aR (x++y)=false:=by
   cases hh:aR (x++y)
   ·rfl
   ·have h3:3≤ag (x++y):=by
     have Wo:=hh;simp only[aR,kN,uF]at Wo;rw[ag,hh,au rfl];have:=iC (p:=gX) (l:=x++y) (i:=2) Wo.1.1.1 (by
      have:=Wo.2;rw[aq,lA,eG Wo.1.1.1]at this;exact this)
     rw[←this];exact aX gX _ 3
    omega
  unfold ag at h ⊢
  rw[xz]at h;rw[hn,xz];simp only[lE,iG]at h ⊢
  have hle:aJ (x++y)≤x.length:=by
   by_cases h0:aJ (x++y)=0
   ·omega
   ·rw[af h0]at h;have:=mj (x++y) _ (ml (x++y));omega
  rw[CA hle];by_cases h0:aJ (x++y)=0
  ·rw[au h0,au h0]
  ·rw[af h0]at h;rw[af h0,af h0];exact CB hle h
theorem Gq: ∀(f:Nat) (l:List UInt8) (fin next sum:Nat),fin≤(En f l fin next sum).1
 |0,_,_,_,_=>aS _
 |f+1,l,fin,next,sum=>by
  rw[En];split
  ·exact aS _
  ·have h1:=Gq f l (aO l (ae digit l fin)).2 ((aO l (ae digit l fin)).1+1) (jF (sat ((l.drop fin).take (ae digit l fin-fin))) (aO l (ae digit l fin)).1 sum);have h2:=(j7 l (ae digit l fin)).1;have h3:=aX digit l fin;omega
theorem CD (h:l.length≤i):aO l i=(7,i):=by rw[aO,au h]
theorem MV (hi:i<x.length) (h:(aO (x++y) i).2≤x.length):aO x i=aO (x++y) i:=by
 have h1: ¬(x++y).length≤i:=by simp;omega
 unfold aO at h ⊢
 rw[af h1]at h;rw[af h1,af (by omega)];rw[df hi]at h ⊢
 by_cases hm:aq x i=109∧i+1<(x++y).length∧aq (x++y) (i+1)=115
 ·rw[au hm]at h;simp only at h;rw[au hm,au ⟨hm.1,by omega,by rw[←df (y:=y) (by omega)];exact hm.2.2⟩]
 ·rw[af hm,af (by rintro⟨a,b,c⟩;exact hm ⟨a,by simp;omega,by rw[df b];exact c⟩)]
theorem Kw (hi:i<x.length) (h:x.length<(aO (x++y) i).2):(aO x i).1=4∧(aO (x++y) i).1=6:=by
 have h1: ¬(x++y).length≤i:=by simp;omega
 unfold aO at h ⊢
 rw[af h1]at h;rw[af h1,af (by omega)];rw[df hi]at h ⊢
 by_cases hm:aq x i=109∧i+1<(x++y).length∧aq (x++y) (i+1)=115
 ·rw[au hm]at h;simp only at h;rw[au hm,af (by omega),hm.1];exact⟨by rw[af (by decide)];show WY 109=4;decide,rfl⟩
 ·rw[af hm]at h;split at h<;>(simp only at h;omega)
theorem uc (h:i+n≤x.length):((x++y).drop i).take n=(x.drop i).take n:=by
 rw[IT (by omega),Bd (by simp;omega)]
theorem O6 {x y:List UInt8}: ∀(f fin next sum:Nat),fin≤x.length→next≤7→(En f (x++y) fin next sum).1≤x.length→En f x fin next sum=En f (x++y) fin next sum
 |0,_,_,_,_,_,_=>rfl
 |f+1,fin,next,sum,hf,hn,h=>by
  rw[En]at h;rw[En,En];have mg:=aX digit (x++y) fin;by_cases hk:ae digit (x++y) fin≤x.length
  ·have uv:=eE hf hk;rw[uv];rcases dF (ae digit (x++y) fin) x.length with ax|L6
   ·generalize ae digit (x++y) fin=k at*
    by_cases hu:(aO (x++y) k).2≤x.length
    ·rw[MV ax hu];by_cases hc:k=fin∨(aO (x++y) k).1<next∨(aO (x++y) k).1=7
     ·rw[au hc,au hc]
     ·rw[af hc]at h;rw[af hc,af hc,uc (by omega)];have hu7:=(j7 (x++y) k).2.2;rw[uc (by omega)]at h;exact O6 f _ _ _ hu (by omega) h
    ·obtain⟨h4,h6⟩:=Kw (x:=x) (y:=y) ax (by omega);by_cases hc:k=fin∨(aO (x++y) k).1<next∨(aO (x++y) k).1=7
     ·rw[au hc,au (by rw[h4];omega)]
     ·rw[af hc]at h;have:=Gq f (x++y) (aO (x++y) k).2 ((aO (x++y) k).1+1) (jF (sat (((x++y).drop fin).take (k-fin))) (aO (x++y) k).1 sum);omega
   ·have ajs:ae digit (x++y) fin=x.length:=by omega
    rw[ajs]at h ⊢
    rw[CD (aS _),au (.inr (.inr rfl))];by_cases hc:x.length=fin∨(aO (x++y) x.length).1<next∨(aO (x++y) x.length).1=7
    ·rw[au hc]
    ·rw[af hc]at h;have h1:=Gq f (x++y) (aO (x++y) x.length).2 ((aO (x++y) x.length).1+1) (jF (sat (((x++y).drop fin).take (x.length-fin))) (aO (x++y) x.length).1 sum);have h2:x.length<(aO (x++y) x.length).2:=by
      unfold aO at hc ⊢
      split
      ·rename_i h3;rw[au h3]at hc;simp at hc
      ·rename_i h3;rw[af h3]at hc;split
       ·simp
       ·rename_i h4;rw[af h4]at hc;split
        ·rename_i h5;rw[au h5]at hc;simp at hc
        ·simp
     omega
  ·
   have hx:ae digit x fin=x.length:=by
    have h1:=bL digit x fin hf;rcases dF (ae digit x fin) x.length with ax|L6
    ·exfalso;have h2:=MU ax;have h3:ae digit (x++y) fin=ae digit x fin:=by
      obtain⟨c,r,hcr⟩: ∃c r,x.drop (ae digit x fin)=c::r:=by
       cases hd:x.drop (ae digit x fin)with
       |nil=>have:=cz List.length hd;simp at this;omega
       |cons c r=>exact⟨c,r,rfl⟩
      have hc:c=aq x (ae digit x fin):=by
       have:=gE x (ae digit x fin) 0;rw[hcr]at this;simpa [aq]using this
      have hx:x++y=x.take (ae digit x fin)++c::(r++y):=by
       conv=>lhs;rw[←DN (ae digit x fin) x,hcr]
       simp
      have mx:x=x.take (ae digit x fin)++c::r:=by
       conv=>lhs;rw[←DN (ae digit x fin) x,hcr]
      have hfl:fin≤(x.take (ae digit x fin)).length:=by
       have:=aX digit x fin;simp;omega
      have hd:digit c=false:=by rw[hc];exact h2
      have e1:=zt (p:=digit) (y:=r++y) hfl hd;have e2:=zt (p:=digit) (y:=r) hfl hd;rw[←hx]at e1;rw[←mx]at e2;rw[e1,←e2]
     omega
    ·omega
   rw[hx,CD (aS _),au (.inr (.inr rfl))];by_cases hc:ae digit (x++y) fin=fin∨(aO (x++y) (ae digit (x++y) fin)).1<next∨(aO (x++y) (ae digit (x++y) fin)).1=7
   ·rw[au hc]
   ·rw[af hc]at h;have h1:=Gq f (x++y) (aO (x++y) (ae digit (x++y) fin)).2 ((aO (x++y) (ae digit (x++y) fin)).1+1) (jF (sat (((x++y).drop fin).take (ae digit (x++y) fin-fin))) (aO (x++y) (ae digit (x++y) fin)).1 sum);have h2:=(j7 (x++y) (ae digit (x++y) fin)).1;omega
theorem Dl (h:aY (x++y)≤x.length):aY x=aY (x++y):=by
 unfold aY measure at*
 rw[O6 8 0 0 0 (dQ _) (by omega) h]
def LZ (w:World) (p:Nat) (s:ByteArray) (at':Nat) (br sq:Bool) (v:Value) (er:Nat):Prop:=aK w p 151 #[.string s,.int .i64 (at':Int),.bool br,.bool sq,v,.int .i64 (er:Int)]
theorem Fa (hz:LZ w p s at' br sq v er) (ho:w.ownsRow base 139 3 v n xs) (hg:w.drew.grownBy w' v.ownBlock):LZ w' p s at' br sq v er:=
 aK.grown (w:=w.drew) hz hg (cI (e:=139) ho hz (by decide)).symm
theorem JQ {q:Nat} (hz:aK w q 139 cs) (hv:v.ownBlock≠some q) (hg:w.drew.grownBy w' v.ownBlock):aK w' q 139 cs:=
 aK.grown (w:=w.drew) hz hg hv.symm
theorem UK (w:World) (base p:Nat) (s:ByteArray) (at' k n:Nat) (x y:Int) (hx:x=(k:Int)) (hy:y=(n:Int)) (br sq:Bool) (v:Value) (ts:List Tok) (hs:s.size≤281474976710656) (hn:at'+n≤s.size) (hk:k≤6)
  (hz:LZ w p s at' br sq v 0) (aL:w.ownsRow base 139 3 v ts.length (aP ts)) (hlen:ts.length≤1099511627776) (gW:base≤p):
  Calls prog 109 #[.pointer (some ⟨p,0,none⟩),.int .i64 x,.int .i64 y] w fun e w'=>e= .returned (.tuple #[])∧
   ∃v',LZ w' p s (at'+n) br sq v' 0∧w'.ownsRow base 139 3 v' (ts++[(⟨k,(s.data.toList.drop at').take n,at'⟩:Tok)]).length (aP (ts++[(⟨k,(s.data.toList.drop at').take n,at'⟩:Tok)]))∧Below base w w':=by
 subst hx hy;have hw:IntKind.i64.wrap ((at':Int)+(n:Int))=((at'+n:Nat):Int):=by rw[xE];omega
 have q1:(0≤(at':Int)+(n:Int))=True:=by simp;omega
 have q2:((at':Int)+(n:Int)≤(s.size:Int))=True:=by simp;omega
 have q3:((at':Int)≤(at':Int)+(n:Int))=True:=by simp;omega
 have q4:((at':Int)+(n:Int)).toNat=at'+n:=by omega
 have c0:w.cell? ⟨p,0,none⟩=some (.string s):=by rw[hz.cell];rfl
 have c1:w.cell? ⟨p,1,none⟩=some (.int .i64 (at':Int)):=by rw[hz.cell];rfl
 have HZ:=aa hz;have HO:=aa aL;clear hz aL;go_enter func109,ntmps109;go_wp2_with fail;go_region_held3 (fun w'=>w'.cell? ⟨p,0,none⟩=some (.string s)∧w'.cell? ⟨p,1,none⟩=some (.int .i64 (at':Int))) (first|go_keep) (first|fail);rename_i hAB;clear hAB c0 c1;obtain⟨q,hq⟩: ∃q,q=w.heap.size:=⟨_,rfl⟩;have ax:=HZ.out.lt;have hpq:p<q:=by omega
 have HVQ:Hid (v.ownBlock≠some q):=aa (fun h=>by have:=(HO.out.lt q h).2;omega);have cK:LZ (w.alloc (.cells #[.int .i64 (k:Int),.string (s.extract at' (at'+n)),.int .i64 (at':Int)] 139)).drew p s at' br sq v 0:=aK.drew (aK.alloc HZ.out _);have vu:(w.alloc (.cells #[.int .i64 (k:Int),.string (s.extract at' (at'+n)),.int .i64 (at':Int)] 139)).drew.ownsRow base 139 3 v ts.length (aP ts):=HO.out.alloc _;have Eo:aK (w.alloc (.cells #[.int .i64 (k:Int),.string (s.extract at' (at'+n)),.int .i64 (at':Int)] 139)).drew q 139 #[.int .i64 (k:Int),.string (s.extract at' (at'+n)),.int .i64 (at':Int)]:=by
  rw[hq];exact aK.drew (aK.new w _ _)
 have aW:Below base w (w.alloc (.cells #[.int .i64 (k:Int),.string (s.extract at' (at'+n)),.int .i64 (at':Int)] 139)).drew:=((aV base w).alloc (by omega) _).drew;rw[←hq];generalize (w.alloc (.cells #[.int .i64 (k:Int),.string (s.extract at' (at'+n)),.int .i64 (at':Int)] 139)).drew=w1 at cK vu Eo aW ⊢
 have c4:w1.cell? ⟨p,4,none⟩=some v:=by rw[cK.cell];rfl
 have e4: ∀o,(w1.alloc o).cell? ⟨p,4,none⟩=some v:=fun o=>((aK.alloc cK o).cell 4).trans rfl
 have e4': ∀o,(w1.drew.alloc o).cell? ⟨p,4,none⟩=some v:=fun o=>((aK.alloc (w:=w1.drew) cK o).cell 4).trans rfl
 have g0:w1.cell? ⟨q,0,none⟩=some (.int .i64 (k:Int)):=(Eo.cell 0).trans rfl;have g1:w1.cell? ⟨q,1,none⟩=some (.string (s.extract at' (at'+n))):=(Eo.cell 1).trans rfl;have g2:w1.cell? ⟨q,2,none⟩=some (.int .i64 (at':Int)):=(Eo.cell 2).trans rfl;have Wp:Hid (base≤w1.drew.heap.size):=aa (ju (pw gW cK.lt));have lu:=aa cK;have qW:=aa vu;have HQ:=aa Eo;have cn:=aa aW;clear cK vu Eo aW hq ax;go_wp2_with fail;refine wp_region_noPanic ?_;refine wp_region_held_drew (S:=fun w'=>w'.cell? ⟨q,0,none⟩=some (.int .i64 (k:Int))∧w'.cell? ⟨q,1,none⟩=some (.string (s.extract at' (at'+n)))∧w'.cell? ⟨q,2,none⟩=some (.int .i64 (at':Int))) (by kernel_rfl) ?_ (fun hHeld=>?_)
 ·(try dsimp only)
  first|done|go_keep|(refine⟨?_,?_,?_⟩<;>(rw[mV _ _ _ _ (by simp)];assumption))
 refine wpAnyH_take (i:=0) (v:=?_) rfl (by kernel_rfl) (by kernel_rfl) (by kernel_rfl) (fun _ _ _ h=>h) (Or.inl ⟨by rfl,?_⟩) (by assumption) ?_
 rotate_left
 ·intro w hSw
  try dsimp only at hSw
  go_simp
  first|done|(with_reducible rfl)
 try simp only[Act.put,kq,dM,dI]
 refine wpAnyH_take (i:=1) (v:=?_) rfl (by kernel_rfl) (by kernel_rfl) (by kernel_rfl) (fun _ _ _ h=>h) (Or.inl ⟨by rfl,?_⟩) (by assumption) ?_
 rotate_left
 ·intro w hSw
  try dsimp only at hSw
  go_simp
  first|done|(with_reducible rfl)
 try simp only[Act.put,kq,dM,dI]
 refine wpAnyH_take (i:=2) (v:=?_) rfl (by kernel_rfl) (by kernel_rfl) (by kernel_rfl) (fun _ _ _ h=>h) (Or.inl ⟨by rfl,?_⟩) (by assumption) ?_
 rotate_left
 ·intro w hSw
  try dsimp only at hSw
  go_simp
  first|done|(with_reducible rfl)
 try simp only[Act.put,kq,dM,dI]
 refine wpAnyH_take (i:=3) (v:=?_) rfl (by kernel_rfl) (by kernel_rfl) (by kernel_rfl) (fun _ _ _ h=>h) (Or.inl ⟨by rfl,?_⟩) (by assumption) ?_
 rotate_left
 ·intro w hSw
  try dsimp only at hSw
  go_simp
  first|done|(with_reducible rfl)
 try simp only[Act.put,kq,dM,dI]
 refine wpAnyH_take (i:=5) (v:=?_) rfl (by kernel_rfl) (by kernel_rfl) (by kernel_rfl) (fun _ _ _ h=>h) (Or.inl ⟨by rfl,?_⟩) (by assumption) ?_
 rotate_left
 ·intro w hSw
  try dsimp only at hSw
  go_simp
  first|done|(with_reducible rfl)
 try simp only[Act.put,kq,dM,dI]
 refine wpAnyH_ready (rs:=[4,6]) (by kernel_rfl) (by simp) ?_;refine AllReadyH.cons (i:=4) rfl (fun K hK=>?_) ?_
 ·go_simp
  refine hK.out _ _ ?_ (fun hHeld=>?_)
  ·(try dsimp only)
   first|done|go_keep|(refine⟨?_,?_,?_⟩<;>(rw[mV _ _ _ _ (by simp)];assumption))
  clear hK K
  try simp only[Act.put,kq,dM,dI]
  refine wpAnyH_ready (rs:=[6]) (by kernel_rfl) (by simp) ?_;refine AllReadyH.cons (i:=6) rfl (fun K hK=>?_) ?_
  ·go_simp
   refine hK.out _ _ ?_ (fun hHeld=>?_)
   ·(try dsimp only)
    first|done|go_keep|(refine⟨?_,?_,?_⟩<;>(rw[mV _ _ _ _ (by simp)];assumption))
   clear hK K
   try simp only[Act.put,kq,dM,dI]
   refine wpAnyH_ready (rs:=[7]) (by kernel_rfl) (by simp) ?_;refine AllReadyH.cons (i:=7) rfl (fun K hK=>?_) ?_
   ·refine sW (w0:=w1.drew) rfl (.tmp 32) (.tmp 34) 135 rfl base 139 (.agg #[.int .i64 0,.string ⟨#[]⟩,.int .i64 0]) 3 32 wM underlying135 rfl (by omega) v _ _ (by rfl) qW.out [.int .i64 (k:Int),.string (s.extract at' (at'+n)),.int .i64 (at':Int)] rfl (by rfl) (by intro u hu;simp at hu;rcases hu with rfl|rfl|rfl<;>rfl) (by unfold maxLen;omega) (by omega) Wp.out ?_;intro v' w' ho hg;obtain⟨ao,n',c',rfl⟩:=wN ho;have ep:=Fa lu.out qW.out hg;have uw:=JQ HQ.out HVQ.out hg;have d4:w'.cell? ⟨p,4,none⟩=some v:=(ep.cell 4).trans rfl;have f4:w'.frozen? ⟨p,4,none⟩=false:=ep.frozen 4;have f1:w'.frozen? ⟨p,1,none⟩=false:=ep.frozen 1;have d1:w'.cell? ⟨p,1,none⟩=some (.int .i64 (at':Int)):=(ep.cell 1).trans rfl;have y0:w'.cell? ⟨q,0,none⟩=some (.int .i64 (k:Int)):=(uw.cell 0).trans rfl;have y1:w'.cell? ⟨q,1,none⟩=some (.string (s.extract at' (at'+n))):=(uw.cell 1).trans rfl;have y2:w'.cell? ⟨q,2,none⟩=some (.int .i64 (at':Int)):=(uw.cell 2).trans rfl;have jh:=aa ep;have kt:=aa ho;have HG2:=aa hg;clear ep ho hg uw;refine hK.out _ _ ?_ (fun hHeld=>?_)
    ·(try dsimp only)
     first|done|go_keep|(refine⟨?_,?_,?_⟩<;>(rw[mV _ _ _ _ (by simp)];assumption))
    clear hK K
    try simp only[Act.put,kq,dM,dI]
    refine wpAnyH_take (i:=8) (v:=?_) rfl (by kernel_rfl) (by kernel_rfl) (by kernel_rfl) (fun _ _ _ h=>h) (Or.inl ⟨by rfl,?_⟩) (by assumption) ?_
    rotate_left
    ·intro w hSw
     try dsimp only at hSw
     go_simp
     first|done|(with_reducible rfl)
    try simp only[Act.put,kq,dM,dI]
    refine wpAnyH_take (i:=9) (v:=?_) rfl (by kernel_rfl) (by kernel_rfl) (by kernel_rfl) (fun _ _ _ h=>h) (Or.inl ⟨by rfl,?_⟩) (by assumption) ?_
    rotate_left
    ·intro w hSw
     try dsimp only at hSw
     go_simp
     first|done|(with_reducible rfl)
    try simp only[Act.put,kq,dM,dI]
    refine wpAnyH_ready (rs:=[10]) (by kernel_rfl) (by simp) ?_;refine AllReadyH.cons (i:=10) rfl (fun K hK=>?_) ?_
    ·go_simp
     refine hK.out _ _ ?_ (fun hHeld=>?_)
     ·(try dsimp only)
      first|done|go_keep|(refine⟨?_,?_,?_⟩<;>(rw[mV _ _ _ _ (by simp)];assumption))
     clear hK K
     try simp only[Act.put,kq,dM,dI]
     refine wpAnyH_done (by kernel_rfl) ?_ _;refine NoPanic.normal ?_;go_wp2_with fail;go_end0;have jU:=(aK.bT (aK.bT jh.out 4 (.slice ao n' c')) 1 (.int .i64 ((at':Int)+(n:Int))));refine⟨rfl,.slice ao n' c',?_,?_,?_⟩
     ·simpa [LZ]using jU
     ·have h:=aD (i:=1) (aD (i:=4) kt.out jh.out (by decide) (.slice ao n' c')) (aK.bT jh.out 4 (.slice ao n' c')) (by decide) (.int .i64 ((at':Int)+(n:Int)));have e:(aP (ts++[⟨k,(s.data.toList.drop at').take n,at'⟩]))=aP ts++[.int .i64 (k:Int),.string (s.extract at' (at'+n)),.int .i64 (at':Int)]:=by
       rw[jO,Tok.cells];have:(⟨((s.data.toList.drop at').take n).toArray⟩:ByteArray)=s.extract at' (at'+n):=by
        rw[←mk_data (s.extract at' (at'+n)),Lib.extract_data,show at'+n-at'=n by omega]
       rw[this]
      rw[e,iJ];exact h
     ·have hb:=(cn.out.drew).grown HG2.out Wp.out (fun g hg=>(qW.out.lt g hg).1);exact(hb.setCell (p:=⟨p,4,none⟩) gW _).setCell (p:=⟨p,1,none⟩) gW _
    exact AllReadyH.nil
   exact AllReadyH.nil
  exact AllReadyH.nil
 refine AllReadyH.cons (i:=6) rfl (fun K hK=>?_) ?_
 ·go_simp
  refine hK.out _ _ ?_ (fun hHeld=>?_)
  ·(try dsimp only)
   first|done|go_keep|(refine⟨?_,?_,?_⟩<;>(rw[mV _ _ _ _ (by simp)];assumption))
  clear hK K
  try simp only[Act.put,kq,dM,dI]
  refine wpAnyH_ready (rs:=[4]) (by kernel_rfl) (by simp) ?_;refine AllReadyH.cons (i:=4) rfl (fun K hK=>?_) ?_
  ·go_simp
   refine hK.out _ _ ?_ (fun hHeld=>?_)
   ·(try dsimp only)
    first|done|go_keep|(refine⟨?_,?_,?_⟩<;>(rw[mV _ _ _ _ (by simp)];assumption))
   clear hK K
   try simp only[Act.put,kq,dM,dI]
   refine wpAnyH_ready (rs:=[7]) (by kernel_rfl) (by simp) ?_;refine AllReadyH.cons (i:=7) rfl (fun K hK=>?_) ?_
   ·refine sW (w0:=w1.drew) rfl (.tmp 32) (.tmp 34) 135 rfl base 139 (.agg #[.int .i64 0,.string ⟨#[]⟩,.int .i64 0]) 3 32 wM underlying135 rfl (by omega) v _ _ (by rfl) qW.out [.int .i64 (k:Int),.string (s.extract at' (at'+n)),.int .i64 (at':Int)] rfl (by rfl) (by intro u hu;simp at hu;rcases hu with rfl|rfl|rfl<;>rfl) (by unfold maxLen;omega) (by omega) Wp.out ?_;intro v' w' ho hg;obtain⟨ao,n',c',rfl⟩:=wN ho;have ep:=Fa lu.out qW.out hg;have uw:=JQ HQ.out HVQ.out hg;have d4:w'.cell? ⟨p,4,none⟩=some v:=(ep.cell 4).trans rfl;have f4:w'.frozen? ⟨p,4,none⟩=false:=ep.frozen 4;have f1:w'.frozen? ⟨p,1,none⟩=false:=ep.frozen 1;have d1:w'.cell? ⟨p,1,none⟩=some (.int .i64 (at':Int)):=(ep.cell 1).trans rfl;have y0:w'.cell? ⟨q,0,none⟩=some (.int .i64 (k:Int)):=(uw.cell 0).trans rfl;have y1:w'.cell? ⟨q,1,none⟩=some (.string (s.extract at' (at'+n))):=(uw.cell 1).trans rfl;have y2:w'.cell? ⟨q,2,none⟩=some (.int .i64 (at':Int)):=(uw.cell 2).trans rfl;have jh:=aa ep;have kt:=aa ho;have HG2:=aa hg;clear ep ho hg uw;refine hK.out _ _ ?_ (fun hHeld=>?_)
    ·(try dsimp only)
     first|done|go_keep|(refine⟨?_,?_,?_⟩<;>(rw[mV _ _ _ _ (by simp)];assumption))
    clear hK K
    try simp only[Act.put,kq,dM,dI]
    refine wpAnyH_take (i:=8) (v:=?_) rfl (by kernel_rfl) (by kernel_rfl) (by kernel_rfl) (fun _ _ _ h=>h) (Or.inl ⟨by rfl,?_⟩) (by assumption) ?_
    rotate_left
    ·intro w hSw
     try dsimp only at hSw
     go_simp
     first|done|(with_reducible rfl)
    try simp only[Act.put,kq,dM,dI]
    refine wpAnyH_take (i:=9) (v:=?_) rfl (by kernel_rfl) (by kernel_rfl) (by kernel_rfl) (fun _ _ _ h=>h) (Or.inl ⟨by rfl,?_⟩) (by assumption) ?_
    rotate_left
    ·intro w hSw
     try dsimp only at hSw
     go_simp
     first|done|(with_reducible rfl)
    try simp only[Act.put,kq,dM,dI]
    refine wpAnyH_ready (rs:=[10]) (by kernel_rfl) (by simp) ?_;refine AllReadyH.cons (i:=10) rfl (fun K hK=>?_) ?_
    ·go_simp
     refine hK.out _ _ ?_ (fun hHeld=>?_)
     ·(try dsimp only)
      first|done|go_keep|(refine⟨?_,?_,?_⟩<;>(rw[mV _ _ _ _ (by simp)];assumption))
     clear hK K
     try simp only[Act.put,kq,dM,dI]
     refine wpAnyH_done (by kernel_rfl) ?_ _;refine NoPanic.normal ?_;go_wp2_with fail;go_end0;have jU:=(aK.bT (aK.bT jh.out 4 (.slice ao n' c')) 1 (.int .i64 ((at':Int)+(n:Int))));refine⟨rfl,.slice ao n' c',?_,?_,?_⟩
     ·simpa [LZ]using jU
     ·have h:=aD (i:=1) (aD (i:=4) kt.out jh.out (by decide) (.slice ao n' c')) (aK.bT jh.out 4 (.slice ao n' c')) (by decide) (.int .i64 ((at':Int)+(n:Int)));have e:(aP (ts++[⟨k,(s.data.toList.drop at').take n,at'⟩]))=aP ts++[.int .i64 (k:Int),.string (s.extract at' (at'+n)),.int .i64 (at':Int)]:=by
       rw[jO,Tok.cells];have:(⟨((s.data.toList.drop at').take n).toArray⟩:ByteArray)=s.extract at' (at'+n):=by
        rw[←mk_data (s.extract at' (at'+n)),Lib.extract_data,show at'+n-at'=n by omega]
       rw[this]
      rw[e,iJ];exact h
     ·have hb:=(cn.out.drew).grown HG2.out Wp.out (fun g hg=>(qW.out.lt g hg).1);exact(hb.setCell (p:=⟨p,4,none⟩) gW _).setCell (p:=⟨p,1,none⟩) gW _
    exact AllReadyH.nil
   exact AllReadyH.nil
  exact AllReadyH.nil
 exact AllReadyH.nil
theorem OK (a b:Nat) (h:a≤b):10^a≤10^b:=ek (by decide) h
theorem afE (c a:Nat) (h:c=54+a):(10:Nat)^c=5^54*10^a*2^54:=by
 rw[h,ee,show (10:Nat)^54=5^54*2^54 by rw[←Bo],yK]
theorem aey (a b:Nat) (h:b=a+1):10^b=10*10^a:=by rw[h,Bl]
theorem O7 (a b c:Nat) (h:c=a+b):(10:Nat)^c=10^a*10^b:=by rw[h,ee]
theorem afF (a:Nat):(10:Nat)^a=2^a*5^a:=by rw[←Bo]
theorem abI (J c a b d:Nat) (hd:d=a+b) (hJ:J≤b):10^a*2^J ∣ c*10^d:=by
 have e2:2^J ∣ 10^b:=by
  rw[afF];exact Nat.dvd_trans (Nat.pow_dvd_pow 2 hJ) (Nat.dvd_mul_right _ _)
 rw[O7 a b d hd];exact Nat.dvd_trans (Nat.mul_dvd_mul_left _ e2) (Nat.dvd_mul_left _ _)
theorem abJ (a:Nat):0<10^a:=fb (by decide)
theorem abK {a c:Nat} (h:10^a≤V) (h2:c≤J):10^a*c≤V*J:=oA h h2
theorem afG (k a b c:Nat) (h:a+b=c):k*2^a*2^b=k*2^c:=by rw[←h,ee,ct]
def dn (D:Nat→Nat):Nat→Nat
 |0=>0
 |r+1=>dn D r*10+(D r-48)
theorem TY (D:Nat→Nat) (nd:Nat): ∀r,r≤nd→pre D nd r=dn D r
 |0,_=>rfl
 |r+1,h=>by rw[pre,dn,TY D nd r (by omega),sH,au (by omega)]
theorem CE (D:Nat→Nat): ∀(m i:Nat),eB D m≤i→i<m→D i=48
 |0,i,_,h=>by omega
 |m+1,i,h1,h2=>by
  unfold eB at h1;split at h1
  ·rename_i he;by_cases e:i=m
   ·subst e;exact he
   ·exact CE D m i h1 (by omega)
  ·omega
theorem BY (D:Nat→Nat) (m:Nat): ∀r,r≤m→pre D (eB D m) r=dn D r
 |0,_=>rfl
 |r+1,h=>by
  rw[pre,dn,BY D m r (by omega),sH];split
  ·rfl
  ·rename_i hr;rw[CE D m r (by omega) (by omega)]
theorem xf (D:Nat→Nat) (m:Nat):pre D (eB D m) (eB D m)*10^(m-eB D m)=dn D m:=by
 have h:=mJ D m;have e:=ik D (eB D m) (m-eB D m);rw[←e,show eB D m+(m-eB D m)=m by omega,BY D m m (aS _)]
theorem JR {D E:Nat→Nat}: ∀r,(∀i,i<r→D i=E i)→dn D r=dn E r
 |0,_=>rfl
 |r+1,h=>by rw[dn,dn,JR r fun i hi=>h i (by omega),h r (by omega)]
theorem Z6 {D:Nat→Nat} {nd k r0 W:Nat} (h:jE D nd) (hr:1≤r0) (hf:pre D nd (r0-1)<2^k): ∀j,j≤W→j≤800→dn (sI D nd k r0 W) j=pre D nd (r0-1+j)/2^k
 |0,_,_=>by rw[dn,iK,tO hf]
 |j+1,h1,h2=>by
  have ih:=Z6 (W:=W) h hr hf j (by omega) (by omega);have hd:=pQ h (r0-1+j);have hD:sI D nd k r0 W j=48+pre D nd (r0+j)/2^k%10:=by
   rw[sI,au ⟨by omega,by omega⟩,ji]
  have he:pre D nd (r0+j)=pre D nd (r0-1+j)*10+sH D nd (r0-1+j):=by
   rw[show r0+j=(r0-1+j)+1 by omega,pre]
  have hq:pre D nd (r0+j)/2^k/10=pre D nd (r0-1+j)/2^k:=by
   rw[Ev,fA,←Ev,he]
   congr 1
   omega
  rw[dn,ih,hD,←hq,show r0-1+(j+1)=r0+j by omega];generalize pre D nd (r0+j)/2^k=Q;omega
theorem UL (D:Nat→Nat) (nd:Nat) {a:Nat} (h:nd≤a) (m:Nat):pre D nd (a+m)=pre D nd a*10^m:=by
 rw[show a+m=nd+(a-nd+m)by omega,ik,ee,←ct,←ik,show nd+(a-nd)=a by omega]
theorem abL {S:cS} (h:S.Ok) {k:Nat} (h1:1≤k) (h2:k≤60):
  pre (S.rs k).D (S.rs k).nd (S.rs k).nd*10^(800-(S.rs k).nd)=pre S.D S.nd (AS S.D S.nd k+799)/2^k:=by
 obtain⟨f1,f2,f3,f4⟩:=oK h.gT h.pos (k:=k) h2;obtain⟨R,hR⟩: ∃R,R=AS S.D S.nd k:=⟨_,rfl⟩;obtain⟨W,hW⟩: ∃W,W=rsW S.D S.nd k R:=⟨_,rfl⟩;rw[←hR]at f1 f2 f3 f4 ⊢
 have hK:0<2^k:=fb (by omega);have eD:(S.rs k).D=sI S.D S.nd k R W:=by show xH S.D S.nd k=_;rw[xH,←hR,←hW]
 have eN:(S.rs k).nd=eB (sI S.D S.nd k R W) (min W 800):=by show DQ S.D S.nd k=_;rw[DQ,xH,Br,←hR,←hW]
 have hex: ∃m,S.nd-R≤m∧m<(S.nd-R)+(2000-(S.nd-R))∧mF S.D S.nd k R m=true:=by
  refine⟨S.nd+k+1,by omega,by have:=h.le;omega,?_⟩;rw[mF,zY,show R+(S.nd+k+1)=S.nd+(k+1+R)by omega,ik];have e:(10:Nat)^(k+1+R)=(10*2^k)*(5^k*10^R):=by
   rw[ee,et,show (10:Nat)^k=2^k*5^k by rw[←Bo]];simp only[ct,fA,qv]
  rw[e,←ct,fA (pre S.D S.nd S.nd),ct];exact Nat.mul_mod_right _ _
 obtain⟨s1,s2,_⟩:=sT (p:=mF S.D S.nd k R) _ _ hex;have aaT:pre S.D S.nd (R+W)%(10*2^k)=0:=by
  have:mF S.D S.nd k R W=true:=by rw[hW];exact s1
  exact nT this
 have hWn:S.nd-R≤W:=by rw[hW];exact s2
 have hf:pre S.D S.nd (R-1)<2^k:=f2 (R-1) (by omega);have hdn:=Z6 (W:=W) h.gT f3 hf (min W 800) (Nat.min_le_left _ _) (Nat.min_le_right _ _);have ht:=xf (sI S.D S.nd k R W) (min W 800);have Xf:=mJ (sI S.D S.nd k R W) (min W 800);rw[eD,eN];generalize eB (sI S.D S.nd k R W) (min W 800)=t at ht Xf ⊢
 have abM:(10:Nat)^(800-t)=10^(min W 800-t)*10^(800-min W 800):=by rw[←ee];congr 1;omega
 rw[abM,←ct,ht,hdn];rcases dF W 800 with ax|mg
 ·rw[mW (by omega)];obtain⟨c,hc⟩: ∃c,pre S.D S.nd (R+W)=10*2^k*c:=⟨_,(Nat.mul_div_cancel' (Nat.dvd_of_mod_eq_zero aaT)).symm⟩;have hd:=pQ h.gT (R-1+W);have he:pre S.D S.nd (R+W)=pre S.D S.nd (R-1+W)*10+sH S.D S.nd (R-1+W):=by
   rw[show R+W=(R-1+W)+1 by omega,pre]
  have jQ:pre S.D S.nd (R-1+W)/2^k=c:=by
   have:pre S.D S.nd (R-1+W)=pre S.D S.nd (R+W)/10:=by omega
   rw[this,hc,ct,Nat.mul_div_cancel_left _ (by omega),Nat.mul_div_cancel_left _ hK]
  rw[jQ,show R+799=(R+W)+(799-W)by omega,UL S.D S.nd (by omega),hc,show 800-W=(799-W)+1 by omega,et];rw[show 10*2^k*c*10^(799-W)=2^k*(c*(10^(799-W)*10))by simp only[ct,fA,qv],Nat.mul_div_cancel_left _ hK]
 ·rw[qw mg,Nat.sub_self,pA,ow,show R-1+800=R+799 by omega]
def vF (S:cS):Nat:=pre S.D S.nd S.nd*10^(800+S.dp.toNat-S.nd)
theorem afH {S:cS} (h:S.Ok) {k:Nat} (h1:1≤k) (h2:k≤60) (hd:0≤(S.rs k).dp) {T:Nat} (hT:10^(S.rs k).dp.toNat ∣ T):T≤vF (S.rs k)↔T*2^k≤vF S:=by
 obtain⟨ok,uA,_⟩:=cS.we h (k:=k) h1 h2;obtain⟨f1,f2,f3,f4⟩:=oK h.gT h.pos (k:=k) h2;have hn:=abL h (k:=k) h1 h2;have hle:=h.le;have aqV:=ok.le;obtain⟨R,hR⟩: ∃R,R=AS S.D S.nd k:=⟨_,rfl⟩;rw[←hR]at uA hn f3 f4;have hK:0<2^k:=fb (by omega);have e1:vF (S.rs k)=pre S.D S.nd (R+799)/2^k*10^(S.rs k).dp.toNat:=by
  rw[vF,←hn,ct,←ee]
  congr 2
  omega
 have e2:vF S=pre S.D S.nd (R+799)*10^(S.rs k).dp.toNat:=by
  rw[vF,show R+799=S.nd+(R+799-S.nd)by omega,ik,ct,←ee]
  congr 2
  omega
 obtain⟨τ,rfl⟩:=hT;have hP:0<10^(S.rs k).dp.toNat:=fb (by omega);rw[e1,e2,fA _ τ];generalize 10^(S.rs k).dp.toNat=P at hP ⊢
 generalize pre S.D S.nd (R+799)=X;rw[yK];constructor
 ·intro hh;have:=Tt hh hP;exact fi _ ((Ex hK).1 this)
 ·intro hh;have:=Tt hh hP;exact fi _ ((Ex hK).2 this)
theorem Ty {D:Nat→Nat} {M L:Nat} (hM:M<10^L): ∀j,j≤L→j≤800→dn (tH D M L L) j=M/10^(L-j)
 |0,_,_=>by rw[dn,Nat.sub_zero,tO hM]
 |j+1,h1,h2=>by
  have ih:=Ty (D:=D) hM j (by omega) (by omega);have hD:tH D M L L j=48+M/10^(L-1-j)%10:=by rw[tH,au ⟨by omega,by omega,by omega⟩]
  have hq:M/10^(L-(j+1))/10=M/10^(L-j):=by
   rw[Ev,←et]
   congr 2
   omega
  rw[dn,ih,hD,←hq,show L-1-j=L-(j+1)by omega];generalize M/10^(L-(j+1))=Q;omega
theorem abN {S:cS} (h:S.Ok) {k:Nat} (h1:1≤k) (h2:k≤60) (r:Nat) (hr:r≤tG S.D S.nd k) (h8:r≤800):pre (S.ls k).D (S.ls k).nd r=Lw S.D S.nd k/10^(tG S.D S.nd k-r):=by
 have hb:=j8 h.gT h.pos h1 h2;show pre (pI S.D S.nd k) (xJ S.D S.nd k) r=_;rw[xJ,BY _ _ r (by omega),pI,Ty hb.2.1 r hr h8]
theorem UM (h:1≤n):2^gK n≤10^n:=by
 unfold gK;by_cases h9:9≤n
 ·rw[au h9];exact bP (by decide:(2:Nat)^27≤10^9) (ek (by omega) h9)
 ·rw[af h9];have: ∀m,m<9→1≤m→2^([1,3,6,9,13,16,19,23,26].getD m 0)≤10^m:=by decide
  exact this n (by omega) h
theorem abO {S:cS} (h:S.Ok) (hd:0<S.dp):0≤(S.rs (gK S.dp.toNat)).dp∧(S.rs (gK S.dp.toNat)).dp≤S.dp:=by
 obtain⟨k,hk⟩: ∃k,k=gK S.dp.toNat:=⟨_,rfl⟩;have hb:=jo S.dp.toNat;have ht:=UM (n:=S.dp.toNat) (by omega);rw[←hk]at hb ht ⊢
 obtain⟨_,uA,_⟩:=cS.we h (k:=k) hb.1 (by omega);obtain⟨f1,f2,f3,f4⟩:=oK h.gT h.pos (k:=k) (by omega);have hR:AS S.D S.nd k≤S.dp.toNat+1:=by
  rcases dF (S.dp.toNat+1) (AS S.D S.nd k)with ax|mg
  ·have:=f2 _ ax;have h2:=lW h.gT h.pos S.dp.toNat;omega
  ·exact mg
 omega
theorem JS : ∀ (f : Nat) (S : cS) (e : Int), S.Ok → 0 ≤ S.dp → S.dp ≤ 310 → Zn S ≤ f →
    ∃K:Nat,(uz f S e).2=e+K∧(uz f S e).1.Ok∧(uz f S e).1.dp=0∧ ∀T,10^310 ∣ T→(T≤vF (uz f S e).1↔T*2^K≤vF S)
  | 0, S, e, ok, h0, h1, hm => by
    have:S.dp=0:=by unfold Zn at hm;omega
    exact⟨0,by simp[uz],ok,this,fun T _=>by simp[uz]⟩
  | f + 1, S, e, ok, h0, h1, hm => by
    by_cases hd:0<S.dp
    · have hs := JJ ok hd
      obtain⟨d1,d2⟩:=abO ok hd
      have hb:=jo S.dp.toNat
      rw[JI hd]
      obtain⟨k,hk⟩: ∃k,k=gK S.dp.toNat:=⟨_,rfl⟩
      rw[←hk]at hs d1 d2 hb ⊢
      have ok1:=(cS.we ok (k:=k) hb.1 (by omega)).1
      obtain⟨K,a,b,c,d⟩:=JS f (S.rs k) (e+k) ok1 d1 (by omega) (by omega)
      refine⟨k+K,by rw[a];omega,b,c,fun T hT=>?_⟩
      rw[d T hT,afH ok hb.1 (by omega) d1,ct,←ee,Bm K k]
      exact Nat.dvd_trans (Nat.pow_dvd_pow 10 (by omega)) (Nat.dvd_trans hT (Nat.dvd_mul_right _ _))
    · rw [GG hd]
      exact⟨0,by simp,ok,by show S.dp=0;omega,fun T _=>by simp⟩
theorem O8 {S:cS} (h:S.Ok):(S.D 0-48)*10^(S.nd-1)≤pre S.D S.nd S.nd∧pre S.D S.nd S.nd<(S.D 0-48+1)*10^(S.nd-1):=by
 have rE:pre S.D S.nd S.nd/10^(S.nd-1)=S.D 0-48:=by
  have:=AI h.gT 1 (S.nd-1);rw[show 1+(S.nd-1)=S.nd by have:=h.pos;omega]at this;rw[this];simp[pre,sH,h.pos]
 have hT:0<10^(S.nd-1):=fb (by omega);constructor
 ·rw[←rE];exact IZ _ _
 ·rw[←rE];exact(zX hT).1 (vU _)
theorem abP {S:cS} (h:S.Ok) (hd:S.dp=0) (h5:S.D 0<53):(S.ls 1).dp=0∧vF (S.ls 1)=vF S*2:=by
 have hb:=j8 h.gT h.pos (k:=1) (by omega) (by omega);obtain⟨ok,uA,_⟩:=cS.yX h (k:=1) (by omega) (by omega);have hl:=O8 h;have hp:=h.pos;have hle:=h.le;have hM:Lw S.D S.nd 1=pre S.D S.nd S.nd*2:=rfl;have hnT:10^S.nd=10*10^(S.nd-1):=by rw[←Bl];congr 1;omega
 have ax:pre S.D S.nd S.nd*2<10^S.nd:=by
  have:(S.D 0-48+1)*10^(S.nd-1)≤5*10^(S.nd-1):=fi _ (by omega);omega
 have hL:tG S.D S.nd 1=S.nd:=by
  rcases dF S.nd (tG S.D S.nd 1)with hh|hh
  ·have Ia:10^S.nd≤10^(tG S.D S.nd 1-1):=ek (by omega) (by omega);omega
  ·omega
 have zS:(S.ls 1).dp=0:=by rw[uA,hL];omega
 refine⟨zS,?_⟩;have ht:=xf (pI S.D S.nd 1) (min (tG S.D S.nd 1) 800);have Xf:=mJ (pI S.D S.nd 1) (min (tG S.D S.nd 1) 800);have hdn:=Ty (D:=S.D) hb.2.1 (tG S.D S.nd 1) (aS _) (by omega);have e:dn (pI S.D S.nd 1) (tG S.D S.nd 1)=Lw S.D S.nd 1:=by
  rw[pI,hdn,Nat.sub_self,pA,Nat.div_one]
 rw[hL,mW hle]at ht Xf;rw[hL]at e;rw[e,hM]at ht;have rb:(S.ls 1).nd=eB (pI S.D S.nd 1) S.nd:=by show xJ S.D S.nd 1=_;rw[xJ,hL,mW hle]
 have hD:(S.ls 1).D=pI S.D S.nd 1:=rfl;rw[vF,vF,zS,hd,rb,hD];generalize eB (pI S.D S.nd 1) S.nd=t at ht Xf ⊢
 rw[show 800+(0:Int).toNat-t=(S.nd-t)+(800+(0:Int).toNat-S.nd)by simp;omega,ee,←ct,ht];rw[yK]
theorem Fb : ∀ (f : Nat) (S : cS) (e : Int), S.Ok → S.dp = 0 → SG S ≤ f →
    ∃J:Nat,(zQ f S e).2=e-J∧(zQ f S e).1.Ok∧(zQ f S e).1.dp=0∧53≤(zQ f S e).1.D 0∧vF (zQ f S e).1=vF S*2^J
  | 0, S, e, ok, h0, hm => by
    have:53≤S.D 0:=by unfold SG at hm;rw[af (by omega)]at hm;omega
    exact⟨0,by simp[zQ],ok,h0,this,by simp[zQ]⟩
  | f + 1, S, e, ok, h0, hm => by
    by_cases hl:yY S
    · have h5 : S.D 0 < 53 := by rcases hl with hl | ⟨_, hl⟩; omega; exact hl
      have hs:=JK ok hl
      have hk:gK (-S.dp).toNat=1:=by rw[h0];rfl
      rw[hk]at hs
      rw[BS hl,hk]
      obtain⟨d1,d2⟩:=abP ok h0 h5
      have ok1:=(cS.yX ok (k:=1) (by omega) (by omega)).1
      obtain⟨J,a,b,c,d,g⟩:=Fb f (S.ls 1) (e-((1:Nat):Int)) ok1 d1 (by omega)
      refine⟨J+1,by rw[a];omega,b,c,d,?_⟩
      rw[g,d2,et,ct,fA 2]
    · rw [GH hl]
      have h5 : 53 ≤ S.D 0 := by
        rcases dF (S.D 0) 53 with h|h
        · exact absurd (.inr ⟨h0, h⟩) hl
        · exact h
      exact⟨0,by simp,ok,h0,h5,by simp⟩
theorem Yn {S:cS} (h:S.Ok) (hd:S.dp=0) (h5:53≤S.D 0):FU (S.ls 53)=9007199254740992↔(2^54-1)*5^54*10^746≤vF S:=by
 have hb:=j8 h.gT h.pos (k:=53) (by omega) (by omega);obtain⟨ok,uA,_⟩:=cS.yX h (k:=53) (by omega) (by omega);have hp:=h.pos;have hle:=h.le;have ax:=xS h.gT S.nd;obtain⟨N,hN⟩: ∃N,N=pre S.D S.nd S.nd:=⟨_,rfl⟩;obtain⟨L,hL⟩: ∃L,L=tG S.D S.nd 53:=⟨_,rfl⟩;have hM:Lw S.D S.nd 53=N*2^53:=by rw[Lw,hN]
 have IM:=abN h (k:=53) (by omega) (by omega);rw[←hL]at uA hb IM;rw[hM]at hb IM;rw[←hN]at ax;obtain⟨p,hpL⟩: ∃p,L=S.nd+p:=⟨L-S.nd,by omega⟩;have aez:(S.ls 53).dp=(p:Int):=by rw[uA,hd,hpL];omega
 have aqW:p≤16:=by
  rcases dF 16 p with hh|hh
  ·exfalso;have h1:10^(S.nd+16)≤10^(L-1):=ek (by omega) (by omega);have h2:N*2^53<10^S.nd*10^16:=by
    have:N*2^53<10^S.nd*2^53:=qN ax (by decide);exact gU this (uE _ (by decide))
   rw[ee]at h1;omega
  ·exact hh
 have hA:0<10^S.nd:=fb (by omega);have e0:pre (S.ls 53).D (S.ls 53).nd p=N*2^53/10^S.nd:=by
  rw[IM p (by omega) (by omega),show L-p=S.nd by omega]
 have e1:pre (S.ls 53).D (S.ls 53).nd (p+1)=N*2^53*10/10^S.nd:=by
  rw[IM (p+1) (by omega) (by omega),show L-(p+1)=S.nd-1 by omega];have:10^S.nd=10^(S.nd-1)*10:=by rw[←et];congr 1;omega
  rw[this,Nat.mul_div_mul_right _ _ (by omega)]
 have hq:N*2^53/10^S.nd≤9007199254740991:=by
  have:N*2^53/10^S.nd<2^53:=by
   rw[zX hA,fA (2^53)];exact qN ax (by decide)
  have e:(2:Nat)^53=9007199254740992:=by decide
  omega
 obtain⟨q,hqq⟩: ∃q,q=N*2^53/10^S.nd:=⟨_,rfl⟩;obtain⟨r,hr⟩: ∃r,r=sH (S.ls 53).D (S.ls 53).nd p:=⟨_,rfl⟩;have er:pre (S.ls 53).D (S.ls 53).nd (p+1)=q*10+r:=by rw[pre,e0,hqq,hr]
 have hr9:r≤9:=by rw[hr];exact pQ ok.gT p
 rw[←hqq]at e0 hq;have hri:lR (S.ls 53) p=q:=by rw[lR,e0,tz (by omega)]
 have ajt:q=9007199254740991→(Xe (S.ls 53) (S.ls 53).dp=true↔5≤r):=by
  intro hqe;have hp1:1≤p:=by
   rcases jS p with h0|h0
   ·rw[h0]at e0;simp only[pre]at e0;omega
   ·exact h0
  rw[aez];unfold Xe;by_cases hn:(S.ls 53).nd≤p
  ·rw[au (.inr (by omega))];have:r=0:=by rw[hr,sH,af (by omega)]
   simp[this]
  ·rw[af (by omega),my];have hrD:r=(S.ls 53).D p-48:=by rw[hr,sH,au (by omega)]
   have hDr:=ok.gT.1 p (by omega);unfold Bs;split
   ·rename_i hc;have XN:EJ (S.ls 53).D p=true:=by
     have hpp:pre (S.ls 53).D (S.ls 53).nd p=pre (S.ls 53).D (S.ls 53).nd (p-1)*10+((S.ls 53).D (p-1)-48):=by
      have e:p=(p-1)+1:=by omega
      conv=>lhs;rw[e]
      rw[pre,sH,au (by omega)]
     have hD1:=ok.gT.1 (p-1) (by omega);unfold EJ;rw[dR (by omega:0<p),mC,zY];omega
    rw[XN,vW];simp only[true_iff];omega
   ·rw[zY];omega
 have lT:FU (S.ls 53)=9007199254740992↔q=9007199254740991∧5≤r:=by
  have hdq:(S.ls 53).dp.toNat=p:=by rw[aez];rfl
  unfold FU;rw[af (by omega),hdq,hri];by_cases Eo:q=9007199254740991
  ·have hs:=ajt Eo;by_cases vq:Xe (S.ls 53) (S.ls 53).dp=true
   ·rw[au vq];have:=hs.1 vq;omega
   ·rw[af vq];have: ¬5≤r:=fun h=>vq (hs.2 h)
    omega
  ·constructor
   ·intro hh;split at hh<;>omega
   ·rintro⟨h1,_⟩;exact absurd h1 Eo
 have PN:(q=9007199254740991∧5≤r)↔90071992547409915≤q*10+r:=by omega
 rw[lT,PN,←er,e1,Ex hA];have hF:vF S*2^54=N*2^54*10^(800-S.nd):=by
  rw[vF,←hN,hd,show 800+(0:Int).toNat-S.nd=800-S.nd by simp,yK]
 have hT:(2^54-1)*5^54*10^746*2^54=(2^54-1)*10^S.nd*10^(800-S.nd):=by
  have e8:(10:Nat)^S.nd*10^(800-S.nd)=10^800:=by rw[←ee];congr 1;omega
  rw[ct (2^54-1) (10^S.nd),e8];have e9:(10:Nat)^800=5^54*10^746*2^54:=afE 800 746 rfl;rw[e9];simp only[ct]
 have hP:0<10^(800-S.nd):=fb (by omega);have step:(2^54-1)*5^54*10^746≤vF S↔(2^54-1)*10^S.nd≤N*2^54:=by
  rw[←yG (show 0<2^54 by decide),hT,hF,yG hP]
 rw[step];have c1:(2:Nat)^54-1=18014398509481983:=by decide
 have c2:(2:Nat)^54=18014398509481984:=by decide
 have c3:(2:Nat)^53=9007199254740992:=by decide
 rw[c1,c2,c3];generalize 10^S.nd=A;omega
theorem iA {P:UInt8→Prop} (h: ∀n:Fin 256,P (UInt8.ofNat n.val)) (c:UInt8):P c:=by
 have hc:UInt8.ofNat c.toNat=c:=by simp
 have:=h ⟨c.toNat,uG c⟩;simp only[hc]at this;exact this
theorem xg {p:UInt8→Bool}: ∀{l:List UInt8} {i:Nat},i<(l.takeWhile p).length→p (aq l i)=true
 |[],i,h=>by simp at h
 |c::r,i,h=>by
  rw[rf]at h;split at h
  ·rename_i hc;cases i with
   |zero=>exact hc
   |succ k=>exact xg (l:=r) (i:=k) (by simpa using h)
  ·simp at h
theorem ud {p:UInt8→Bool}: ∀{l:List UInt8} {n:Nat},n≤l.length→(∀i,i<n→p (aq l i)=true)→(n<l.length→p (aq l n)=false)→(l.takeWhile p).length=n
 |[],n,h,_,_=>by simp at h;simp[h]
 |c::r,0,_,_,h=>by
  have:=h (by simp);rw[rf,af (by have h2:p c=false:=this;rw[h2];simp)];rfl
 |c::r,n+1,h,h1,h2=>by
  have hc:p c=true:=h1 0 (by omega);rw[rf,au hc,dZ];have:=ud (p:=p) (l:=r) (n:=n) (by simpa using h) (fun i hi=>h1 (i+1) (by omega)) (fun hn=>h2 (by simpa using hn));omega
theorem QP (l:List UInt8) (i k:Nat):aq (l.drop i) k=aq l (i+k):=by
 simp[aq,lA]
theorem mS {p:UInt8→Bool} (h1:i≤k) (h2:k<ae p l i):p (aq l k)=true:=by
 unfold ae at h2;have:=xg (p:=p) (l:=l.drop i) (i:=k-i) (by omega)
 rwa [QP,show i+(k-i)=k by omega]at this
theorem qd (h:digit c=true∨c.toNat=46):tF c=false:=by
 have hc:(48≤c.toNat∧c.toNat≤57)∨c.toNat=46:=h.imp aI id;unfold tF;rw[show (c.toNat==101)=false from bN.2 (by omega),show (c.toNat==69)=false from bN.2 (by omega)];rfl
theorem UN (hd:aJ l≠0):lH l (aJ l)∧ ∃i0,i0<aJ l∧digit (aq l i0)=true:=by
 have hle:=ml l;have h0:=bL digit l 0 (dQ _);obtain⟨k,hk⟩: ∃k,ae digit l 0=k:=⟨_,rfl⟩;have oy: ∀i,i<k→digit (aq l i)=true:=fun i hi=>mS (dQ _) (by rw[hk];exact hi)
 have tJ: ∀j,digit (aq l j)=true→(aq l j).toNat≠46:=fun j hj=>by have:=aI hj;omega
 unfold aJ at hd hle ⊢
 rw[hk]at hd hle ⊢
 split
 ·rename_i hc;rw[au hc]at hle;refine⟨⟨hle,fun i hi=>?_⟩,0,by have:=aX digit l (k+1);omega,oy 0 hc.2.2⟩;rcases EA i k with h|h|h
  ·exact .inl (oy i h)
  ·subst h;exact .inr ⟨hc.2.1,fun j hj=>tJ j (oy j hj)⟩
  ·exact .inl (mS (by omega) hi)
 ·rename_i hc;rw[af hc]at hd hle;split
  ·rename_i kr;rw[au kr]at hle;have h1:1<ae digit l 1:=by
    rcases dF 1 (ae digit l 1)with h|h
    ·exact h
    ·have hl:1<l.length:=kr.2.1;have e:ae digit l 2=ae digit l 1:=iC hl (by
      have:l[1]=aq l 1:=by rw[aq,lA,eG hl];rfl
      rw[this];exact kr.2.2.2)
     have:=aX digit l 2;omega
   refine⟨⟨hle,fun i hi=>?_⟩,1,h1,kr.2.2.2⟩;rcases jS i with h|h
   ·subst h;exact .inr ⟨kr.2.2.1,fun j hj=>by omega⟩
   ·exact .inl (mS h hi)
  ·rename_i kr;rw[af kr]at hd hle;exact⟨⟨hle,fun i hi=>.inl (oy i hi)⟩,0,by omega,oy 0 (by omega)⟩
theorem mu (h0:ag l=l.length) (bZ:l≠[]) (hh:aR l=false):
  lH l (bO l)∧(∃i0,i0<bO l∧digit (aq l i0)=true)∧(bO l=l.length∨bO l<l.length∧Jk l (bO l) (pJ l) (xK l)):=by
 have pE:0<l.length:=Ez.2 bZ;unfold ag at h0;rw[af (by rw[hh];simp)]at h0;have hd:aJ l≠0:=by
  intro h;rw[au h]at h0;omega
 rw[af hd]at h0;obtain⟨hm,i0,tE,uy⟩:=UN hd;have hle:=ml l;have key:aJ l=l.length∨aJ l<l.length∧tF (aq l (aJ l))=true∧dH l (aJ l)<l.length∧ae digit l (dH l (aJ l))=l.length:=by
  unfold da at h0;split at h0
  ·rename_i hc;exact .inl h0
  ·rename_i hc;rw[not_or]at hc;split at h0
   ·rename_i kr;exact .inr ⟨by omega,by simpa using hc.2,by omega,h0⟩
   ·exact .inl h0
 have Zo:bO l=aJ l:=by
  refine ud hle (fun i hi=>?_) (fun ax=>?_)
  ·have:=qd ((hm.2 i hi).imp id And.left);rw[this];rfl
  ·rcases key with h|h
   ·omega
   ·rw[h.2.1];rfl
 rw[Zo];refine⟨hm,⟨i0,tE,uy⟩,?_⟩;rcases key with h|⟨h1,h2,h3,h4⟩
 ·exact .inl h
 ·refine .inr ⟨h1,?_⟩;have SJ: ∀i,dH l (aJ l)≤i→i<l.length→digit (aq l i)=true:=fun i a b=>mS a (by rw[h4];exact b)
  have hx:pJ l=dH l (aJ l)∧((dH l (aJ l)=aJ l+1∧xK l=false∧digit (aq l (dH l (aJ l)))=true)∨(dH l (aJ l)=aJ l+2∧xK l=false∧(aq l (aJ l+1)).toNat=43)∨(dH l (aJ l)=aJ l+2∧xK l=true∧(aq l (aJ l+1)).toNat=45)):=by
   unfold dH at h3 SJ ⊢
   unfold pJ xK;rw[Zo];by_cases Zp:aJ l+1<l.length∧Aa (aq l (aJ l+1))=true
   ·rw[au Zp]at h3 SJ ⊢
    have hp:(aq l (aJ l+1)).toNat=43∨(aq l (aJ l+1)).toNat=45:=by simpa [Aa]using Zp.2
    rw[au hp];refine⟨rfl,?_⟩;rcases hp with hp|hp
    ·exact .inr (.inl ⟨rfl,by rw[hp];rfl,hp⟩)
    ·exact .inr (.inr ⟨rfl,by rw[hp];rfl,hp⟩)
   ·rw[af Zp]at h3 SJ ⊢
    have qI:=SJ (aJ l+1) (aS _) h3;have hf:=aI qI;rw[af (by omega)];exact⟨rfl,.inl ⟨rfl,bN.2 (by omega),qI⟩⟩
  rw[hx.1];exact⟨h1,h2,hx.2,h3,SJ⟩
theorem sX (h0:ag l=l.length) (hh:aR l=true):2<l.length∧(aq l 0).toNat=48∧ux (aq l 1)=true∧EK l l.length:=by
 unfold ag at h0;rw[au hh]at h0;have h:=hh;simp[aR]at h;refine⟨h.1.1.1,h.1.1.2,h.1.2,aS _,fun i h1 h2=>mS h1 (by rw[h0];exact h2)⟩
theorem AL (h0:ag l=l.length) (bZ:l≠[]) (hh:aR l=false) (h1:1<l.length):ux (aq l 1)=false∧((aq l 1).toNat|||32)≠120:=by
 obtain⟨hm,⟨i0,tE,_⟩,he⟩:=mu h0 bZ hh;have:digit (aq l 1)=true∨(aq l 1).toNat=46∨(aq l 1).toNat=101∨(aq l 1).toNat=69:=by
  rcases dF 1 (bO l)with h|h
  ·rcases hm.2 1 h with a|a
   ·exact .inl a
   ·exact .inr (.inl a.1)
  ·have pa:bO l=1:=by omega
   rcases he with he|⟨_,he⟩
   ·omega
   ·have:=he.tF;rw[pa]at this;simp[tF]at this;exact .inr (.inr this)
 have fO: ∀c:UInt8,(digit c=true∨c.toNat=46∨c.toNat=101∨c.toNat=69)→ux c=false∧(c.toNat|||32)≠120:=iA (by decide+kernel);exact fO _ this
theorem O9 (h:ux c=true):(c.toNat|||32)=120:=by
 have fO: ∀c:UInt8,ux c=true→(c.toNat|||32)=120:=iA (by decide+kernel);exact fO _ h
