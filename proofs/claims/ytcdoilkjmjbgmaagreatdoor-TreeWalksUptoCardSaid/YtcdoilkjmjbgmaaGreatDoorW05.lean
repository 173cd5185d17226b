import Derived.Laws.FloatArith
import Derived.Test.YtcdoilkjmjbgmaaGreatDoorW04
import Derived.Test.YtcdoilkjmjbgmaaGreatDoorW03
import Derived.Deep.RegionLaw
import Derived.BigRegion
import Derived.Deep.RegionHeld3
/- Part of the proof of YtcdoilkjmjbgmaaGreatDoorCardX: PlO PlQ PlR PlS PlT PlU PlUa PlN PlV PlW PlP PlX PlF PlG PlH LexC PlI RdA OvA OvB PlY. -/
set_option maxRecDepth 100000
set_option maxHeartbeats 4000000
set_option linter.unusedVariables false
set_option linter.unusedSimpArgs false
namespace Go.Proofs.YtcdoilkjmjbgmaaGreatDoor
open Go.RowKit
open Go.Proofs.Tryz
variable {y x l:List UInt8} {k F r nd K X d r0 j A B Y δ N M L m n mm sp np i base size p at' er J V:Nat} {D:Nat→Nat} {c:UInt8} {e:TypeId} {s t:ByteArray} {P:Int} {dt dg tr br sq b q:Bool} {ops:Array Oper} {o:Oper} {a:Act} {w0 w w':World} {v:Value} {xs:List Value} {cs:Array Value}
def P4:List Nat:=[4607182418800017408,4621819117588971520,4636737291354636288,4652007308841189376,4666723172467343360,4681608360884174848,4696837146684686336,4711630319722168320,4726483295884279808,4741671816366391296,4756540486875873280,4771362005757984768,4786511204640096256,4801453603149578240,4816244402031689728,4831355200913801216,4846369599423283200,4861130398305394688,4876203697187506176,4891288408196988160,4906019910204099648,4921056587992461136,4936209963552724370]
def eW:Nat:=9218868437227405312
def Iw (y:Nat):Bool:=match Ieee.double.read y with| .number false m _=>m != 0|_=>false
theorem Ji {y:Nat} (h:Iw y=true): ∃m e,Ieee.double.read y= .number false m e∧m≠0:=by
 unfold Iw at h;split at h
 ·rename_i m e he;exact⟨m,e,he,by simpa using h⟩
 ·cases h
theorem UH: ∀y∈P4,Iw y=true:=by decide+kernel
theorem OM {x:Nat} (h:x≤eW):(∃m e,Ieee.double.read x= .number false m e)∨Ieee.double.read x= .infinity false:=by
 have h0:x<9223372036854775808:=pI h (by decide);have hs:Ieee.double.signWeight=9223372036854775808:=by decide+kernel
 have hi:Ieee.double.infRung=eW:=by decide+kernel
 have e1:x/9223372036854775808=0:=tC h0;have e2:x%9223372036854775808=x:=td h0;unfold Ieee.Format.read;rw[hs,hi,e1,e2];simp only[Nat.zero_mod];split
 ·exact .inl ⟨_,_,rfl⟩
 ·split
  ·exact .inl ⟨_,_,rfl⟩
  ·rename_i h1 h2;have:x=eW:=by omega
   rw[ar this];exact .inr rfl
theorem uD (m:Nat) (e:Int):Ieee.double.nearest false m e≤eW:=by
 have hi:Ieee.double.infRung=eW:=by decide+kernel
 unfold Ieee.Format.nearest;split
 ·simp[Ieee.Format.word]
 ·simp only[Ieee.Format.word,lh,iE,hi];exact Nat.min_le_right _ _
theorem E2:Ieee.double.write (.infinity false)≤eW:=by decide+kernel
theorem ac7 {x y:Nat} (hx:x≤eW) (hy:Iw y=true): ∃r,floatBits .mul .f64 x y=some r∧r≤eW:=by
 obtain⟨n,j,hr,hn⟩:=Ji hy;have LJ:floatBits .mul .f64 x y=((Ieee.double.read x).product (Ieee.double.read y)).map Ieee.double.write:=rfl;rw[LJ,hr];rcases OM hx with⟨m,e,h⟩|h
 ·rw[h];exact⟨_,rfl,uD _ _⟩
 ·rw[h];simp only[Ieee.Datum.product,af hn];exact⟨_,rfl,E2⟩
theorem ac8 {x y:Nat} (hx:x≤eW) (hy:Iw y=true): ∃r,floatBits .quo .f64 x y=some r∧r≤eW:=by
 obtain⟨n,j,hr,hn⟩:=Ji hy;have LJ:floatBits .quo .f64 x y=((Ieee.double.read x).quotient (Ieee.double.fractionBits+2) (Ieee.double.read y)).map Ieee.double.write:=rfl;rw[LJ,hr];rcases OM hx with⟨m,e,h⟩|h
 ·rw[h];simp only[Ieee.Datum.quotient,af hn];exact⟨_,rfl,uD _ _⟩
 ·rw[h];exact⟨_,rfl,E2⟩
theorem Jj (m:Nat):floatOfInt .f64 (m:Int)≤eW:=by
 unfold floatOfInt FloatKind.nearest FloatKind.encode;have:decide ((m:Int)<0)=false:=by simp
 show Ieee.double.write (.number (decide ((m:Int)<0)) _ 0)≤eW;rw[this];exact uD _ _
def ve (x y:Nat):Nat:=(floatBits .mul .f64 x y).getD 0
def F1 (x y:Nat):Nat:=(floatBits .quo .f64 x y).getD 0
theorem Gs {x y:Nat} (hx:x≤eW) (hy:Iw y=true):floatBits .mul .f64 x y=some (ve x y)∧ve x y≤eW:=by
 obtain⟨r,h1,h2⟩:=ac7 hx hy;unfold ve;rw[h1];exact⟨rfl,h2⟩
theorem ON {x y:Nat} (hx:x≤eW) (hy:Iw y=true):floatBits .quo .f64 x y=some (F1 x y)∧F1 x y≤eW:=by
 obtain⟨r,h1,h2⟩:=ac8 hx hy;unfold F1;rw[h1];exact⟨rfl,h2⟩
def ff (k:Nat):Nat:=P4.getD k 0
theorem rL (h:k<23):Iw (ff k)=true:=by
 have hl:k<P4.length:=h;rw[ff,lf,lB hl];exact UH _ (gj hl)
def F2 (x:Nat):Bool:=(FloatKind.f64.format.order x 4831355200913801216==some .gt)||(FloatKind.f64.format.order x 14054727237768577024==some .lt)
def fH (m : Nat) (p : Int) : Option Nat :=
  if m/4503599627370496≠0 then none
  else if p=0 then some (floatOfInt .f64 (m:Int))
  else if 0 < p ∧ p ≤ 37 then
    (if F2 (if 22 < p then ve (floatOfInt .f64 (m : Int)) (ff (p - 22).toNat) else floatOfInt .f64 (m : Int)) then none
     else some (ve (if 22<p then ve (floatOfInt .f64 (m:Int)) (ff (p-22).toNat)else floatOfInt .f64 (m:Int)) (ff (if 22<p then 22 else p.toNat))))
  else if p<0∧ -22≤p then some (F1 (floatOfInt .f64 (m:Int)) (ff (-p).toNat))
  else none
def Hq (D:Nat→Nat) (i c:Nat):Nat→Nat:=fun j=>if j=i then c else D j
def ez (D:Nat→Nat):Nat→Nat
 |0=>0
 |m+1=>if D m=48 then ez D m else m+1
theorem mJ (D:Nat→Nat): ∀m,ez D m≤m
 |0=>aP _
 |m+1=>by have:=mJ D m;unfold ez;split<;>omega
def pY (D:Nat→Nat) (nd:Nat) (dp:Int):Int:=if ez D nd=0 then 0 else dp
def pQ (p:Nat→Bool):Nat→Nat→Nat
 |0,r=>r
 |f+1,r=>if p r=true then r else pQ p f (r+1)
theorem BC {p:Nat→Bool} (hF:r<F) (h:p r=true):pQ p (F-r) r=r:=by
 obtain⟨f,hf⟩: ∃f,F-r=f+1:=⟨F-r-1,by omega⟩;rw[hf,pQ,ar h]
theorem xO {p:Nat→Bool} (hF:r<F) (h:p r=false):pQ p (F-r) r=pQ p (F-(r+1)) (r+1):=by
 obtain⟨f,hf⟩: ∃f,F-r=f+1:=⟨F-r-1,by omega⟩;have h2:F-(r+1)=f:=by omega
 rw[hf,h2,pQ,af (by rw[h];simp)]
def sj (D:Nat→Nat) (nd r:Nat):Nat:=if r<nd then D r-48 else 0
def pre (D:Nat→Nat) (nd:Nat):Nat→Nat
 |0=>0
 |r+1=>pre D nd r*10+sj D nd r
def jx (D:Nat→Nat) (nd:Nat):Prop:=(∀i,i<nd→48≤D i∧D i≤57)∧(0<nd→D 0≠48)
theorem pZ (h:jx D nd) (r:Nat):sj D nd r≤9:=by
 unfold sj;split
 ·rename_i hr;have:=h.1 r hr;omega
 ·omega
theorem lN {D : Nat → Nat} {nd : Nat} (h : jx D nd) (hn : 0 < nd) : ∀ r, 10 ^ r ≤ pre D nd (r + 1)
  | 0 => by
    have h1:=h.1 0 hn
    have h2:=h.2 hn
    simp only[pre,sj,ar hn]
    omega
  | r + 1 => by
    have ih:=lN h hn r
    rw[pre,ef]
    omega
theorem xE {D:Nat→Nat} {nd:Nat} (h:jx D nd): ∀r,pre D nd r<10^r
 |0=>by simp[pre]
 |r+1=>by
  have ih:=xE h r;have:=pZ h r;rw[pre,ef];omega
theorem ig (D:Nat→Nat) (nd:Nat): ∀m,pre D nd (nd+m)=pre D nd nd*10^m
 |0=>by simp
 |m+1=>by
  rw[←Bd,pre,ig D nd m,sj,af (by omega),ef];simp[bV]
def tI (D:Nat→Nat) (nd k r:Nat):Bool:=decide (2^k≤pre D nd r)
def AL (D:Nat→Nat) (nd k:Nat):Nat:=pQ (tI D nd k) 1000 0
def jh (D:Nat→Nat) (nd k r0 i:Nat):Nat:=pre D nd (r0+i)/2^k%10
def mE (D:Nat→Nat) (nd k r0 j:Nat):Bool:=decide (pre D nd (r0+j)%(10*2^k)=0)
def rsW (D:Nat→Nat) (nd k r0:Nat):Nat:=pQ (mE D nd k r0) (2000-(nd-r0)) (nd-r0)
def sk (D:Nat→Nat) (nd k r0 j:Nat):Nat→Nat:=fun i=>if i<j∧i<800 then 48+jh D nd k r0 i else D i
def Xk (D:Nat→Nat) (nd k r0 j:Nat):Bool:=(List.range j).any fun i=>decide (800≤i)&&decide (0<jh D nd k r0 i)
theorem Yy (hK:0<K) (hd:d≤9):(X%(10*K))/K=X/K%10∧(X%(10*K))%K*10+d=(X*10+d)%(10*K):=by
 have h1:X%(10*K)=X%K+K*(X/K%10):=by
  rw[fu 10 K];exact Nat.mod_mul
 have au:X%K<K:=lE _ hK;refine⟨?_,?_⟩
 ·rw[h1,Nat.add_mul_div_left _ _ hK,tC au,mw]
 ·rw[h1,TA,Nat.mod_mod];have h2:X=X%K+K*(X/K):=(Nat.mod_add_div X K).symm;have e:10*K*(X/K)=10*(K*(X/K)):=bV _ _ _;have h3:X*10+d=(X%K*10+d)+10*K*(X/K):=by
   rw[e];generalize K*(X/K)=Q at h2 ⊢
   generalize X%K=R at h2 ⊢
   omega
  have akn:X%K*10+d<10*K:=by
   generalize X%K=R at au ⊢
   omega
  rw[h3,TA,td akn]
theorem Jk (hj:j<800):Hq (sk D nd k r0 j) j (48+jh D nd k r0 j)=sk D nd k r0 (j+1):=by
 funext i;unfold Hq sk;by_cases e:i=j
 ·subst e;rw[ar rfl,ar ⟨by omega,hj⟩]
 ·rw[af e];by_cases h:i<j∧i<800
  ·rw[ar h,ar ⟨by omega,h.2⟩]
  ·rw[af h,af (by omega)]
theorem OO (hj:800≤j):sk D nd k r0 (j+1)=sk D nd k r0 j:=by
 funext i;unfold sk;by_cases h:i<j∧i<800
 ·rw[ar h,ar ⟨by omega,h.2⟩]
 ·rw[af h,af (by omega)]
theorem UI (h:j≤r):sk D nd k r0 j r=D r:=by
 unfold sk;rw[af (by omega)]
theorem UJ:sk D nd k r0 0=D:=by
 funext i;unfold sk;rw[af (by omega)]
theorem BD:Xk D nd k r0 (j+1)=(Xk D nd k r0 j||(decide (800≤j)&&decide (0<jh D nd k r0 j))):=by
 unfold Xk;rw[rp,List.any_append];simp
theorem QA (h:j≤800):Xk D nd k r0 j=false:=by
 unfold Xk;rw[List.any_eq_false];intro i hi;have:=qF.1 hi;rw[gp (by omega)];simp
def Bk (D:Nat→Nat) (nd k:Nat):Nat:=min (rsW D nd k (AL D nd k)) 800
def xt (D:Nat→Nat) (nd k:Nat):Nat→Nat:=sk D nd k (AL D nd k) (rsW D nd k (AL D nd k))
def DG (D:Nat→Nat) (nd k:Nat):Nat:=ez (xt D nd k) (Bk D nd k)
def P5 (D:Nat→Nat) (nd k:Nat) (dp:Int):Int:=pY (xt D nd k) (Bk D nd k) (dp-((AL D nd k:Int)-1))
def X4 (D:Nat→Nat) (nd k:Nat) (tr:Bool):Bool:=tr||Xk D nd k (AL D nd k) (rsW D nd k (AL D nd k))
def gW (D:Nat→Nat) (nd:Nat):List UInt8→Nat→Bool
 |[],_=>false
 |c::r,i=>if nd≤i then true else if D i=c.toNat then gW D nd r (i+1)else decide (D i<c.toNat)
def SL (D:Nat→Nat):Nat→Nat→Nat
 |_,0=>0
 |i,m+1=>(D i-48)*10^m+SL D (i+1) m
def vl:List UInt8→Nat
 |[]=>0
 |c::r=>(c.toNat-48)*10^r.length+vl r
def xu:List UInt8→Prop
 |[]=>True
 |[c]=>49≤c.toNat∧c.toNat≤57
 |c::d::r=>48≤c.toNat∧c.toNat≤57∧xu (d::r)
theorem xu.head: ∀{r:List UInt8},xu (c::r)→48≤c.toNat∧c.toNat≤57
 |[],h=>⟨bn (by omega) h.1,h.2⟩
 |_::_,h=>⟨h.1,h.2.1⟩
theorem xu.tail: ∀{r:List UInt8},xu (c::r)→xu r
 |[],_=>trivial
 |_::_,h=>h.2.2
theorem T4 {c:UInt8}: ∀{r:List UInt8},xu (c::r)→0<vl (c::r)
 |[],h=>by simp only[xu]at h;simp only[vl,oB,pK];omega
 |d::r,h=>by
  have:=T4 h.2.2;rw[vl];omega
theorem Ξ: ∀{r:List UInt8},xu r→vl r<10^r.length
 |[],_=>by simp[vl]
 |c::r,h=>by
  have ih:=Ξ h.tail;have hc:=h.head;rw[vl,dI,ef];have:(c.toNat-48)*10^r.length≤9*10^r.length:=fc _ (by omega);omega
theorem T5 {D:Nat→Nat} {nd:Nat} (h:jx D nd): ∀(m i:Nat),i+m≤nd→SL D i m<10^m
 |0,_,_=>by simp[SL]
 |m+1,i,hi=>by
  have ih:=T5 h m (i+1) (by omega);have hc:=h.1 i (by omega);rw[SL,ef];have:(D i-48)*10^m≤9*10^m:=fc _ (by omega);omega
theorem OP {D:Nat→Nat} {nd:Nat}: ∀(m i:Nat),i+m=nd→pre D nd nd=pre D nd i*10^m+SL D i m
 |0,i,hi=>by rw[←hi];simp[SL]
 |m+1,i,hi=>by
  have ih:=OP (D:=D) (nd:=nd) m (i+1) (by omega);rw[ih,pre,SL,sj,ar (by omega),ef,oK,bV,fu 10 (10^m)];omega
theorem UK {e:Nat} (hX:X<A) (hY:Y<B):((d*A+X)*(B*10)<(e*B+Y)*(A*10))↔(d<e∨(d=e∧X*B<Y*A)):=by
 have hA:0<A:=by omega
 have hB:0<B:=by omega
 have e1:(d*A+X)*(B*10)=(d*(A*B)+X*B)*10:=by rw[←bV,oK,bV]
 have e2:(e*B+Y)*(A*10)=(e*(A*B)+Y*A)*10:=by rw[←bV,oK,bV,fu B A]
 rw[e1,e2];have hXB:X*B<A*B:=qU hX hB;have hYA:Y*A<A*B:=by rw[fu A B];exact qU hY hA
 obtain⟨P,hP⟩: ∃P,P=A*B:=⟨_,rfl⟩;rw[←hP]at hXB hYA ⊢
 rcases Et d e with h|h|h
 ·have:(d+1)*P≤e*P:=fc _ h;rw[oK]at this;constructor
  ·intro _;exact .inl h
  ·intro _;omega
 ·subst h;constructor
  ·intro h2;exact .inr ⟨rfl,by omega⟩
  ·rintro(h2|⟨_,h2⟩)
   ·omega
   ·omega
 ·have:(e+1)*P≤d*P:=fc _ h;rw[oK]at this;constructor
  ·intro h2;omega
  ·rintro(h2|⟨h2,_⟩)
   ·omega
   ·omega
theorem E3 {D:Nat→Nat} {nd:Nat} (h:jx D nd): ∀(r:List UInt8) (i m:Nat),i+m=nd→xu r→(gW D nd r i=true↔SL D i m*10^r.length<vl r*10^m)
 |[],i,m,_,_=>by simp[gW,vl]
 |c::r,i,0,hi,hr=>by
  have:=T4 hr;rw[gW,ar (by omega)];simp only[SL,yG,pK,oC,true_iff];exact this
 |c::r,i,m+1,hi,hr=>by
  have ih:=E3 h r (i+1) m (by omega) hr.tail;have hX:=T5 h m (i+1) (by omega);have hY:=Ξ hr.tail;have hd:=h.1 i (by omega);have hc:=hr.head;rw[gW,af (by omega),SL,vl,dI,ef,ef,UK hX hY];by_cases hD:D i=c.toNat
  ·rw[ar hD,ih,hD];simp
  ·rw[af hD,zT];omega
theorem ac9 {s:List UInt8} (h:jx D nd) (hn:0<nd) (hs:xu s) (hv:vl s=5^k) (hl:s.length+δ=k+1) (hδ:1≤δ) (ako:10^(δ-1)≤2^k) (akp:2^k≤10^δ):
  (gW D nd s 0=false→10^(nd+δ-1)≤pre D nd nd*2^k∧pre D nd nd*2^k<10^(nd+δ))∧
  (gW D nd s 0=true→10^(nd+δ-2)≤pre D nd nd*2^k∧pre D nd nd*2^k<10^(nd+δ-1)):=by
 have hN:pre D nd nd=SL D 0 nd:=by have:=OP (D:=D) (nd:=nd) nd 0 (by omega);simpa [pre]using this
 have hp:=E3 h s 0 nd (by omega) hs;rw[←hN,hv]at hp;have Aq:10^(nd-1)≤pre D nd nd:=by
  have:=lN h hn (nd-1)
  rwa [IK hn]at this
 have sW:=xE h nd;obtain⟨N,hNN⟩: ∃N,N=pre D nd nd:=⟨_,rfl⟩;rw[←hNN]at hp Aq sW ⊢
 have Dn:(5:Nat)^k*2^k=10^k:=by rw[←Bh]
 constructor
 ·intro hf;have lW:5^k*10^nd≤N*10^s.length:=by
   rcases dD (N*10^s.length) (5^k*10^nd)with au|lW
   ·have:=hp.2 au;rw[hf]at this;simp at this
   ·exact lW
  constructor
  ·have h1:10^s.length*10^(nd+δ-1)≤10^s.length*(N*2^k):=by
    have e1:10^s.length*10^(nd+δ-1)=5^k*10^nd*2^k:=by
     rw[yw,Dn,←dX,←dX];congr 1;omega
    have e2:10^s.length*(N*2^k)=N*10^s.length*2^k:=by rw[←bV,fu (10^s.length) N]
    rw[e1,e2];exact fc _ lW
   exact Nat.le_of_mul_le_mul_left h1 (eX (by omega))
  ·rw[dX];exact gO (qU sW (eX (by omega))) (uj _ akp)
 ·intro ht;have au:=hp.1 ht;constructor
  ·have e1:(10:Nat)^(nd+δ-2)=10^(nd-1)*10^(δ-1):=by rw[←dX];congr 1;omega
   rw[e1];exact oH Aq ako
  ·have h1:10^s.length*(N*2^k)<10^s.length*10^(nd+δ-1):=by
    have e1:10^s.length*10^(nd+δ-1)=5^k*10^nd*2^k:=by
     rw[yw,Dn,←dX,←dX];congr 1;omega
    have e2:10^s.length*(N*2^k)=N*10^s.length*2^k:=by rw[←bV,fu (10^s.length) N]
    rw[e1,e2];exact qU au (eX (by omega))
   exact Nat.lt_of_mul_lt_mul_left h1
def Dr (k:Nat):Nat:=(Go.Pinned.cheatRows.getD k (0,[])).1
def Lq (k:Nat):List UInt8:=(Go.Pinned.cheatRows.getD k (0,[])).2
def I1:List UInt8→Bool
 |[]=>true
 |[c]=>decide (49≤c.toNat)&&decide (c.toNat≤57)
 |c::d::r=>decide (48≤c.toNat)&&decide (c.toNat≤57)&&I1 (d::r)
theorem Jl: ∀{l:List UInt8},I1 l=true→xu l
 |[],_=>trivial
 |[c],h=>by simp only[I1,kF,uk]at h;exact h
 |c::d::r,h=>by
  rw[I1,kF,kF]at h;exact⟨nY h.1.1,nY h.1.2,Jl h.2⟩
def T6 (k:Nat):Bool:=I1 (Lq k)&&decide (vl (Lq k)=5^k)&&decide ((Lq k).length+Dr k=k+1)&&decide (1≤Dr k)&&decide (10^(Dr k-1)≤2^k)&&decide (2^k≤10^Dr k)&&decide (Dr k≤20)&&decide ((Lq k).length≤60)
theorem QB:((List.range 60).all fun k=>T6 (k+1))=true:=by kernel_rfl
structure Yz (k:Nat):Prop where
 gQ:xu (Lq k)
 val:vl (Lq k)=5^k
 len:(Lq k).length+Dr k=k+1
 pos:1≤Dr k
 lo:10^(Dr k-1)≤2^k
 hi:2^k≤10^Dr k
 small:Dr k≤20
 short:(Lq k).length≤60
theorem BE (h1:1≤k) (h2:k≤60):Yz k:=by
 have:=rl.1 QB (k-1) (qF.2 (by omega));rw[IK h1]at this;simp only[T6,kF,uk]at this;obtain⟨⟨⟨⟨⟨⟨⟨a,b⟩,c⟩,d⟩,e⟩,f⟩,g⟩,i⟩:=this;exact⟨Jl a,b,c,d,e,f,g,i⟩
def Lc (D:Nat→Nat) (nd k:Nat):Nat:=pre D nd nd*2^k
def L5 (D:Nat→Nat) (nd k:Nat):Bool:=gW D nd (Lq k) 0
def tn (D:Nat→Nat) (nd k:Nat):Nat:=if L5 D nd k=true then nd+Dr k-1 else nd+Dr k
def tp (D:Nat→Nat) (M L j:Nat):Nat→Nat:=fun i=>if L-j≤i∧i<L∧i<800 then 48+M/10^(L-1-i)%10 else D i
def WD (M L j:Nat):Bool:=(List.range j).any fun t=>decide (800≤L-1-t)&&decide (M/10^t%10≠0)
def Sf (N k j:Nat):Nat:=(N%10^j*2^k)/10^j
theorem jX (h:jx D nd) (hn:0<nd) (h1:1≤k) (h2:k≤60):10^(tn D nd k-1)≤Lc D nd k∧Lc D nd k<10^tn D nd k∧nd≤tn D nd k∧tn D nd k≤nd+20:=by
 have c:=BE h1 h2;have hl:=ac9 h hn c.gQ c.val c.len c.pos c.lo c.hi;have cp:=c.pos;have cs:=c.small;unfold tn Lc;cases hb:L5 D nd k
 ·rw[af (by simp)];have:=hl.1 hb;exact⟨this.1,this.2,by omega,by omega⟩
 ·rw[ar rfl];have:=hl.2 hb;exact⟨by rw[show nd+Dr k-1-1=nd+Dr k-2 by omega];exact this.1,this.2,by omega,by omega⟩
theorem Jm (hd:N/10^j%10=d):(Sf N k j+d*2^k)%10=N*2^k/10^j%10∧(Sf N k j+d*2^k)/10=Sf N k (j+1)∧Sf N k j<2^k:=by
 have hT:0<10^j:=eX (by omega);have hm:N%10^(j+1)=N%10^j+10^j*d:=by rw[ef,Nat.mod_mul,hd]
 have h1:Sf N k j+d*2^k=N%10^(j+1)*2^k/10^j:=by
  rw[hm,oK,bV,Nat.add_mul_div_left _ _ hT,Sf]
 refine⟨?_,?_,?_⟩
 ·rw[h1];have h2:N=N%10^(j+1)+10^(j+1)*(N/10^(j+1)):=(Nat.mod_add_div _ _).symm;have h3:N*2^k=N%10^(j+1)*2^k+10^j*(10*(N/10^(j+1)*2^k)):=by
   conv=>lhs;rw[h2]
   rw[oK,ef,bV (10^j) 10,bV (10^j),bV 10]
  rw[h3,Nat.add_mul_div_left _ _ hT,TA]
 ·rw[h1,Sf,Em,←ef]
 ·rw[Sf,zR hT,fu (2^k)];exact qU (lE _ hT) (eX (by omega))
theorem Ay {D:Nat→Nat} {nd:Nat} (h:jx D nd) (a:Nat): ∀j,pre D nd (a+j)/10^j=pre D nd a
 |0=>by simp
 |j+1=>by
  have ih:=Ay h a j;have hd:=pZ h (a+j);rw[←Bd,pre,ef,fu (10^j),←Em,show (pre D nd (a+j)*10+sj D nd (a+j))/10=pre D nd (a+j)by omega,ih]
theorem YA (h:jx D nd) {j:Nat} (hj:j<nd):pre D nd nd/10^j%10=D (nd-1-j)-48:=by
 have e:nd=(nd-1-j)+1+j:=by omega
 have h1:=Ay h (nd-1-j+1) j;rw[←e]at h1;have hd:=pZ h (nd-1-j);rw[h1,pre];have h2:sj D nd (nd-1-j)=D (nd-1-j)-48:=by rw[sj,ar (by omega)]
 omega
theorem MC (h:N<10^nd) (hj:nd≤j):Sf N k j=N*2^k/10^j:=by
 rw[Sf,td (gO h (ee (by omega) hj))]
theorem Jn (hj:j<L) (h8:L-(j+1)<800):Hq (tp D M L j) (L-(j+1)) (48+M/10^j%10)=tp D M L (j+1):=by
 funext i;unfold Hq tp;by_cases e:i=L-(j+1)
 ·have e2:L-1-i=j:=by omega
  rw[ar e,ar ⟨by omega,by omega,by omega⟩,e2]
 ·rw[af e];by_cases h:L-j≤i∧i<L∧i<800
  ·rw[ar h,ar ⟨by omega,h.2⟩]
  ·rw[af h,af (by omega)]
theorem Az (h8:800≤L-(j+1)):tp D M L (j+1)=tp D M L j:=by
 funext i;unfold tp;by_cases h:L-j≤i∧i<L∧i<800
 ·rw[ar h,ar ⟨by omega,h.2⟩]
 ·rw[af h,af (by omega)]
theorem UL (h:r<L-j):tp D M L j r=D r:=by
 unfold tp;rw[af (by omega)]
theorem UM:tp D M L 0=D:=by
 funext i;unfold tp;rw[af (by omega)]
theorem oU:WD M L (j+1)=(WD M L j||(decide (800≤L-1-j)&&decide (M/10^j%10≠0))):=by
 unfold WD;rw[rp,List.any_append];simp
def pR (D:Nat→Nat) (nd k:Nat):Nat→Nat:=tp D (Lc D nd k) (tn D nd k) (tn D nd k)
def xv (D:Nat→Nat) (nd k:Nat):Nat:=ez (pR D nd k) (min (tn D nd k) 800)
def P6 (D:Nat→Nat) (nd k:Nat) (dp:Int):Int:=pY (pR D nd k) (min (tn D nd k) 800) (dp+((tn D nd k:Int)-nd))
def X5 (D:Nat→Nat) (nd k:Nat) (tr:Bool):Bool:=tr||WD (Lc D nd k) (tn D nd k) (tn D nd k)
structure cG where
 D:Nat→Nat
 nd:Nat
 dp:Int
 tr:Bool
structure cG.Ok (S:cG):Prop where
 gQ:jx S.D S.nd
 pos:0<S.nd
 le:S.nd≤800
def cG.ls (S:cG) (k:Nat):cG:=⟨pR S.D S.nd k,xv S.D S.nd k,P6 S.D S.nd k S.dp,X5 S.D S.nd k S.tr⟩
def cG.rs (S:cG) (k:Nat):cG:=⟨xt S.D S.nd k,DG S.D S.nd k,P5 S.D S.nd k S.dp,X4 S.D S.nd k S.tr⟩
theorem xP {D:Nat→Nat} (h:D 0≠48): ∀m,0<m→0<ez D m
 |0,h0=>absurd h0 (by omega)
 |m+1,_=>by
  unfold ez;split
  ·rename_i he;cases m with
   |zero=>exact absurd he h
   |succ q=>exact xP h (q+1) (by omega)
  ·omega
theorem Ci (h1: ∀i,i<m→48≤D i∧D i≤57) (h0:D 0≠48):jx D (ez D m):=
 ⟨fun i hi=>h1 i (gO hi (mJ D m)),fun _=>h0⟩
theorem cG.yK {S:cG} (h:S.Ok) {k:Nat} (h1:1≤k) (h2:k≤60):(S.ls k).Ok∧(S.ls k).dp=S.dp+((tn S.D S.nd k:Int)-S.nd)∧(S.ls k).D 0=48+Lc S.D S.nd k/10^(tn S.D S.nd k-1):=by
 have hb:=jX h.gQ h.pos h1 h2;have hp:=h.pos;obtain⟨L,hL⟩: ∃L,L=tn S.D S.nd k:=⟨_,rfl⟩;obtain⟨M,hM⟩: ∃M,M=Lc S.D S.nd k:=⟨_,rfl⟩;rw[←hL,←hM]at hb;have eF:pR S.D S.nd k=tp S.D M L L:=by rw[pR,←hL,←hM]
 have oE: ∀i,i<min L 800→48≤tp S.D M L L i∧tp S.D M L L i≤57:=fun i hi=>by
  unfold tp;rw[ar ⟨by omega,by omega,by omega⟩];omega
 have rA:M/10^(L-1)%10=M/10^(L-1)∧1≤M/10^(L-1):=by
  have hT:0<10^(L-1):=eX (by omega);constructor
  ·apply td;rw[zR hT,fu,←ef,show (L-1).succ=L by omega];exact hb.2.1
  ·exact Nat.div_pos hb.1 hT
 have h0:tp S.D M L L 0=48+M/10^(L-1):=by
  unfold tp;rw[ar ⟨by omega,by omega,by omega⟩,Nat.sub_zero,rA.1]
 have bC:tp S.D M L L 0≠48:=by have:=rA.2;omega
 have hm0:0<min L 800:=by omega
 have eN:xv S.D S.nd k=ez (tp S.D M L L) (min L 800):=by rw[xv,eF,←hL]
 have htp:=xP bC _ hm0;refine⟨⟨?_,?_,?_⟩,?_,?_⟩
 ·show jx (pR S.D S.nd k) (xv S.D S.nd k);rw[eF,eN];exact Ci oE bC
 ·show 0<xv S.D S.nd k;rw[eN];exact htp
 ·show xv S.D S.nd k≤800;rw[eN];have:=mJ (tp S.D M L L) (min L 800);omega
 ·show P6 S.D S.nd k S.dp=_;rw[P6,eF,←hL,pY,af (by omega)]
 ·show pR S.D S.nd k 0=_;rw[eF,h0,←hL,←hM]
theorem sE {p:Nat→Bool}: ∀(f r:Nat),(∃m,r≤m∧m<r+f∧p m=true)→p (pQ p f r)=true∧r≤pQ p f r∧ ∀m,r≤m→m<pQ p f r→p m=false
 |0,r,h=>by obtain⟨m,h1,h2,_⟩:=h;omega
 |f+1,r,h=>by
  rw[pQ];by_cases hp:p r=true
  ·rw[ar hp];exact⟨hp,aP _,fun m h1 h2=>by omega⟩
  ·rw[af hp];obtain⟨m,h1,h2,h3⟩:=h;have hm:m≠r:=by rintro rfl;exact hp h3
   obtain⟨a,b,c⟩:=sE f (r+1) ⟨m,by omega,by omega,h3⟩;refine⟨a,by omega,fun q h4 h5=>?_⟩;by_cases hq:q=r
   ·subst hq;simpa using hp
   ·exact c q (by omega) h5
theorem oV (h:jx D nd) (hn:0<nd) (hk:k≤60):2^k≤pre D nd (AL D nd k)∧(∀m,m<AL D nd k→pre D nd m<2^k)∧1≤AL D nd k∧AL D nd k≤21:=by
 have hex:tI D nd k 21=true:=by
  rw[tI,zT];have h1:10^20≤pre D nd 21:=lN h hn 20;have h2:(2:Nat)^k≤2^60:=ee (by omega) hk;have h3:(2:Nat)^60≤10^20:=by decide
  omega
 obtain⟨a,b,c⟩:=sE (p:=tI D nd k) 1000 0 ⟨21,by omega,by omega,hex⟩;have a':2^k≤pre D nd (AL D nd k):=nY a;refine⟨a',fun m hm=>?_,?_,?_⟩
 ·have:=c m (aT _) hm;have:=tc this;omega
 ·rcases jK (AL D nd k)with h0|h0
  ·rw[h0]at a';have:0<2^k:=eX (by omega);simp[pre]at a'
  ·exact h0
 ·rcases dD 21 (AL D nd k)with h0|h0
  ·have:=c 21 (by omega) h0;rw[hex]at this;cases this
  ·exact h0
theorem cG.vJ {S:cG} (h:S.Ok) {k:Nat} (h1:1≤k) (h2:k≤60):(S.rs k).Ok∧(S.rs k).dp=S.dp-((AL S.D S.nd k:Int)-1)∧(S.rs k).D 0=48+pre S.D S.nd (AL S.D S.nd k)/2^k:=by
 obtain⟨hr1,PF,SN,hr4⟩:=oV h.gQ h.pos h2;obtain⟨R,hR⟩: ∃R,R=AL S.D S.nd k:=⟨_,rfl⟩;rw[←hR]at hr1 PF SN hr4;have hK:0<2^k:=eX (by omega);have au:pre S.D S.nd R<10*2^k:=by
  obtain⟨q,rfl⟩: ∃q,R=q+1:=⟨R-1,by omega⟩;have h3:=PF q (by omega);have h4:=pZ h.gQ q;rw[pre];omega
 obtain⟨W,hW⟩: ∃W,W=rsW S.D S.nd k R:=⟨_,rfl⟩;have lY:1≤W:=by
  rcases jK W with h0|h0
  ·exfalso;have hex: ∃m,S.nd-R≤m∧m<(S.nd-R)+(2000-(S.nd-R))∧mE S.D S.nd k R m=true:=by
    refine⟨S.nd+k+1,by omega,by have:=h.le;omega,?_⟩;rw[mE,zT,show R+(S.nd+k+1)=S.nd+(k+1+R)by omega,ig];have e:(10:Nat)^(k+1+R)=(10*2^k)*(5^k*10^R):=by
     rw[dX,ef,show (10:Nat)^k=2^k*5^k by rw[←Bh]];simp only[bV,fu,qD]
    rw[e,←bV,fu (pre S.D S.nd S.nd),bV];exact Nat.mul_mod_right _ _
   obtain⟨a,_,_⟩:=sE (p:=mE S.D S.nd k R) _ _ hex;have hz:mE S.D S.nd k R 0=true:=by
    have:mE S.D S.nd k R W=true:=by rw[hW];exact a
    rwa [h0]at this
   have:=nY hz;rw[iv,td au]at this;omega
  ·exact h0
 have eF:xt S.D S.nd k=sk S.D S.nd k R W:=by rw[xt,←hR,←hW]
 have e0:Bk S.D S.nd k=min W 800:=by rw[Bk,←hR,←hW]
 have oE: ∀i,i<min W 800→48≤sk S.D S.nd k R W i∧sk S.D S.nd k R W i≤57:=fun i hi=>by
  unfold sk jh;rw[ar ⟨by omega,by omega⟩];omega
 have hl:pre S.D S.nd R/2^k<10∧1≤pre S.D S.nd R/2^k:=⟨by rw[zR hK];exact au,Nat.div_pos hr1 hK⟩;have h0:sk S.D S.nd k R W 0=48+pre S.D S.nd R/2^k:=by
  unfold sk jh;rw[ar ⟨by omega,by omega⟩,iv,td hl.1]
 have bC:sk S.D S.nd k R W 0≠48:=by have:=hl.2;omega
 have hm0:0<min W 800:=by omega
 have eN:DG S.D S.nd k=ez (sk S.D S.nd k R W) (min W 800):=by rw[DG,eF,e0]
 have htp:=xP bC _ hm0;refine⟨⟨?_,?_,?_⟩,?_,?_⟩
 ·show jx (xt S.D S.nd k) (DG S.D S.nd k);rw[eF,eN];exact Ci oE bC
 ·show 0<DG S.D S.nd k;rw[eN];exact htp
 ·show DG S.D S.nd k≤800;rw[eN];have:=mJ (sk S.D S.nd k R W) (min W 800);omega
 ·show P5 S.D S.nd k S.dp=_;rw[P5,eF,e0,pY,af (by omega),←hR]
 ·show xt S.D S.nd k 0=_;rw[eF,h0,←hR]
def cG.Xl (k:Nat) (S:cG):cG:=if h:60<k then cG.Xl (k-60) (S.ls 60)else S.ls k
termination_by k
def cG.Lr (k:Nat) (S:cG):cG:=if h:60<k then cG.Lr (k-60) (S.rs 60)else S.rs k
termination_by k
theorem cG.UN {S:cG} (h:60<k):cG.Xl k S=cG.Xl (k-60) (S.ls 60):=by rw[cG.Xl,dif_pos h]
theorem cG.wb {S:cG} (h:k≤60):cG.Xl k S=S.ls k:=by rw[cG.Xl,dif_neg (by omega)]
theorem cG.Jo {S:cG} (h:60<k):cG.Lr k S=cG.Lr (k-60) (S.rs 60):=by rw[cG.Lr,dif_pos h]
theorem cG.we {S:cG} (h:k≤60):cG.Lr k S=S.rs k:=by rw[cG.Lr,dif_neg (by omega)]
def gE (n:Nat):Nat:=if 9≤n then 27 else[1,3,6,9,13,16,19,23,26].getD n 0
theorem jm (n:Nat):1≤gE n∧gE n≤27:=by
 unfold gE;by_cases h:9≤n
 ·rw[ar h];omega
 ·rw[af h];have: ∀m,m<9→1≤[1,3,6,9,13,16,19,23,26].getD m 0∧[1,3,6,9,13,16,19,23,26].getD m 0≤27:=by decide
  exact this n (by omega)
theorem MD (h:1≤n):3≤gE n:=by
 unfold gE;by_cases h9:9≤n
 ·rw[ar h9];omega
 ·rw[af h9];have: ∀m,m<9→1≤m→3≤[1,3,6,9,13,16,19,23,26].getD m 0:=by decide
  exact this n (by omega) h
theorem UO (h:2≤n):6≤gE n:=by
 unfold gE;by_cases h9:9≤n
 ·rw[ar h9];omega
 ·rw[af h9];have: ∀m,m<9→2≤m→6≤[1,3,6,9,13,16,19,23,26].getD m 0:=by decide
  exact this n (by omega) h
def uc:Nat→cG→Int→cG×Int
 |0,S,e=>(S,e)
 |f+1,S,e=>if 0<S.dp then uc f (S.rs (gE S.dp.toNat)) (e+gE S.dp.toNat)else(S,e)
def ZN (S:cG):Nat:=2*S.dp.toNat+(if 56≤S.D 0 then 1 else 0)
theorem Gt {S:cG} (h: ¬0<S.dp) (f:Nat) (e:Int):uc f S e=(S,e):=by
 cases f with
 |zero=>rfl
 |succ f=>rw[uc,af h]
theorem Jp {S:cG} (h:0<S.dp) (f:Nat) (e:Int):uc (f+1) S e=uc f (S.rs (gE S.dp.toNat)) (e+gE S.dp.toNat):=by rw[uc,ar h]
theorem Jq {S:cG} (cC:S.Ok) (h:0<S.dp):ZN (S.rs (gE S.dp.toNat))<ZN S:=by
 obtain⟨k,hk⟩: ∃k,k=gE S.dp.toNat:=⟨_,rfl⟩;have hb:=jm S.dp.toNat;have h3:=MD (n:=S.dp.toNat) (by omega);rw[←hk]at hb h3 ⊢
 obtain⟨_,h2,h4⟩:=cG.vJ cC (k:=k) hb.1 (by omega);obtain⟨f1,f2,f3,f4⟩:=oV cC.gQ cC.pos (k:=k) (by omega);obtain⟨R,hR⟩: ∃R,R=AL S.D S.nd k:=⟨_,rfl⟩;rw[←hR]at h2 h4 f1 f2 f3;unfold ZN;rw[h2];by_cases hR1:R=1
 ·have hpr:pre S.D S.nd 1=S.D 0-48:=by simp[pre,sj,cC.pos]
  rw[hR1,hpr]at f1 h4;have hd:=cC.gQ.1 0 cC.pos;have hp8:(8:Nat)≤2^k:=ee (n:=2) (by omega) h3;have h56:56≤S.D 0:=by omega
  have F3: ¬56≤(S.rs k).D 0:=by
   rw[h4];have:(S.D 0-48)/2^k≤(S.D 0-48)/8:=Ot hp8 (by omega);omega
  rw[ar h56,af F3,hR1];omega
 ·have:(S.dp-((R:Int)-1)).toNat+1≤S.dp.toNat:=by omega
  split<;>split<;>omega
def yL (S:cG):Prop:=S.dp<0∨(S.dp=0∧S.D 0<53)
instance (S:cG):Decidable (yL S):=inferInstanceAs (Decidable (_∨_))
def zJ:Nat→cG→Int→cG×Int
 |0,S,e=>(S,e)
 |f+1,S,e=>if yL S then zJ f (S.ls (gE (-S.dp).toNat)) (e-gE (-S.dp).toNat)else(S,e)
def SO (S:cG):Nat:=if S.dp<0 then 100*(-S.dp).toNat+(if S.D 0=49 then 1 else 0)else 60-S.D 0
theorem Gu {S:cG} (h: ¬yL S) (f:Nat) (e:Int):zJ f S e=(S,e):=by
 cases f with
 |zero=>rfl
 |succ f=>rw[zJ,af h]
theorem BF {S:cG} (h:yL S) (f:Nat) (e:Int):zJ (f+1) S e=zJ f (S.ls (gE (-S.dp).toNat)) (e-gE (-S.dp).toNat):=by rw[zJ,ar h]
theorem Jr {S:cG} (cC:S.Ok) (h:yL S):SO (S.ls (gE (-S.dp).toNat))<SO S:=by
 obtain⟨k,hk⟩: ∃k,k=gE (-S.dp).toNat:=⟨_,rfl⟩;have hb:=jm (-S.dp).toNat;rw[←hk]at hb ⊢
 obtain⟨_,h2,h4⟩:=cG.yK cC (k:=k) hb.1 (by omega);have Hr:=jX cC.gQ cC.pos (k:=k) hb.1 (by omega);have hd:=cC.gQ.1 0 cC.pos;have Xm:=cC.gQ.2 cC.pos;have hD:48≤(S.ls k).D 0:=by rw[h4];exact Nat.le_add_right _ _
 have cok:=BE hb.1 (by omega:k≤60);have Aq:10^(S.nd-1)≤pre S.D S.nd S.nd:=by
  have:=lN cC.gQ cC.pos (S.nd-1)
  rwa [IK cC.pos]at this
 have rA:pre S.D S.nd S.nd/10^(S.nd-1)=S.D 0-48:=by
  have:=Ay cC.gQ 1 (S.nd-1);rw[show 1+(S.nd-1)=S.nd by have:=cC.pos;omega]at this;rw[this];simp[pre,sj,cC.pos]
 have hT:0<10^(S.nd-1):=eX (by omega);have hnT:10^S.nd=10*10^(S.nd-1):=by
  rw[←Be]
  congr 1
  have:=cC.pos;omega
 obtain⟨N,hN⟩: ∃N,N=pre S.D S.nd S.nd:=⟨_,rfl⟩;obtain⟨L,hL⟩: ∃L,L=tn S.D S.nd k:=⟨_,rfl⟩;have hM:Lc S.D S.nd k=N*2^k:=by rw[Lc,hN]
 rw[←hL]at h2 h4 Hr;rw[hM]at h4 Hr;rw[←hN]at Aq rA;obtain⟨A,hA⟩: ∃A,A=10^(S.nd-1):=⟨_,rfl⟩;rw[←hA]at Aq rA hT hnT;rcases h with h|⟨h,h5⟩
 ·unfold SO;rw[ar h];by_cases hg:L=S.nd
  ·
   have Sg:k=3:=by
    have hle:tn S.D S.nd k=S.nd+Dr k-1∨tn S.D S.nd k=S.nd+Dr k:=by
     unfold tn;split
     ·exact .inl rfl
     ·exact .inr rfl
    have lX:Dr k≤1:=by rw[←hL,hg]at hle;omega
    have ud:S.dp= -1:=by
     rcases dD 1 (-S.dp).toNat with hh|hh
     ·have h6:=UO (n:=(-S.dp).toNat) hh;rw[←hk]at h6;have Dn:=cok.hi;have:2^k≤10^1:=bn Dn (ee (by omega) lX);have h64:2^6≤2^k:=ee (by omega) h6;omega
     ·omega
    rw[hk,ud];rfl
   subst Sg;have au:N*8<10*A:=by
    have:=Hr.2.1;rw[hg,hnT]at this;exact this
   have akq:S.D 0=49:=by
    have h7:N/A≤1:=by
     rw[←Nat.lt_succ_iff,zR hT];omega
    rw[rA]at h7;omega
   have F3:56≤(S.ls 3).D 0:=by
    rw[h4,hg,←hA];have:8≤N*2^3/A:=by
     rw[Eo hT];have:N*2^3=N*8:=rfl;omega
    omega
   rw[h2,hg,ar akq];have e:S.dp+((S.nd:Int)-S.nd)=S.dp:=by omega
   rw[e,ar h,af (by omega)];omega
  ·have ash:S.dp<(S.ls k).dp:=by rw[h2];have:=Hr.2.2.1;omega
   by_cases hn:(S.ls k).dp<0
   ·rw[ar hn];split<;>split<;>omega
   ·rw[af hn];split<;>omega
 ·have lC:k=1:=by rw[hk,h];rfl
  subst lC;have au:N*2<10*A:=by
   have h8:N<(S.D 0-48+1)*A:=by
    rw[←rA];exact(zR hT).1 (vw _)
   have h9:(S.D 0-48+1)*A≤5*A:=fc _ (by omega);omega
  have hLe:L=S.nd:=by
   rcases dD S.nd L with hh|hh
   ·exfalso;have Dn:10^S.nd≤10^(L-1):=ee (by omega) (by omega);have h11:=Hr.1;rw[hnT]at Dn;have:N*2^1=N*2:=rfl;omega
   ·have:=Hr.2.2.1;omega
  have F3:(S.ls 1).D 0≥48+2*(S.D 0-48):=by
   rw[h4,hLe,←hA];have:2*(S.D 0-48)≤N*2^1/A:=by
    rw[Eo hT];have ZK:(S.D 0-48)*A≤N:=by rw[←rA];exact II _ _
    have:N*2^1=N*2:=rfl;rw[bV];omega
   omega
  unfold SO;have e:(S.ls 1).dp=0:=by rw[h2,hLe,h];omega
  rw[af (by omega),af (by omega)];omega
def ED (D:Nat→Nat) (i:Nat):Bool:=decide (0<i)&&decide ((D (i-1)-48)%2≠0)
def Bl (S:cG) (i:Nat):Bool:=if S.D i=53∧i+1=S.nd then(S.tr||ED S.D i)else decide (53≤S.D i)
def Xn (S:cG) (n:Int):Bool:=if n<0∨(S.nd:Int)≤n then false else Bl S n.toNat
def lH (S:cG) (i:Nat):Nat:=pre S.D S.nd i%18446744073709551616
def FJ (S:cG):Nat:=if 20<S.dp then 18446744073709551615 else if Xn S S.dp=true then(lH S S.dp.toNat+1)%18446744073709551616 else lH S S.dp.toNat
def gF (m x:Int):Int:=bits .or .u64 (bits .and .u64 m 4503599627370495) (IntKind.u64.wrap (IntKind.u64.wrap (bits .and .i64 x 2047)*4503599627370496))
def Bm:Int×Bool:=(gF 0 2047,true)
def qa (m:Nat) (e:Int):Int×Bool:=if (m&&&4503599627370496)=0 then(gF m 0,false)else(gF m (e+1023),false)
def uw (m:Nat) (e:Int):Int×Bool:=if m=9007199254740992 then(if 2047≤e+1+1023 then Bm else qa 4503599627370496 (e+1))else qa m e
def qb (S:cG) (e:Int):Int×Bool:=if 2047≤e+1023 then Bm else uw (FJ (S.ls 53)) e
def tJ (S:cG) (e:Int):Int×Bool:=if e< -1022 then qb (cG.Lr (-1022-e).toNat S) (-1022)else qb S e
def FK (S:cG):Int×Bool:=
 if S.nd=0 then(gF 0 0,false)
 else if 310<S.dp then Bm
 else if S.dp< -330 then(gF 0 0,false)
 else tJ (zJ 34000 (uc 1000 S 0).1 (uc 1000 S 0).2).1 ((zJ 34000 (uc 1000 S 0).1 (uc 1000 S 0).2).2-1)
structure RF where
 fg:Nat
 tu:Nat
 nd:Nat
 dp:Int
 dot:Bool
 gQ:Bool
 tr:Bool
def gG (s:RF) (c:UInt8):RF:=
 if c.toNat=46 then⟨s.fg,s.tu,s.nd,s.nd,true,s.gQ,s.tr⟩
 else if c.toNat=48∧s.nd=0 then⟨s.fg,s.tu,s.nd,s.dp-1,s.dot,true,s.tr⟩
 else if s.tu<19 then⟨s.fg*10+(c.toNat-48),s.tu+1,s.nd+1,s.dp,s.dot,true,s.tr⟩
 else⟨s.fg,s.tu,s.nd+1,s.dp,s.dot,true,s.tr||c.toNat != 48⟩
def rf0:RF:=⟨0,0,0,0,false,false,false⟩
def fh (l:List UInt8) (k:Nat):RF:=(l.take k).foldl gG rf0
theorem pa (l:List UInt8):fh l 0=rf0:=rfl
theorem iA (h:k<l.length):fh l (k+1)=gG (fh l k) (an l k):=by
 have:l[k]=an l k:=by rw[an,lf,lB h];rfl
 rw[fh,jM h,yy,this];rfl
def lp (l:List UInt8) (m:Nat):Prop:=m≤l.length∧ ∀i,i<m→digit (an l i)=true∨((an l i).toNat=46∧ ∀j,j<i→(an l j).toNat≠46)
structure abn (k:Nat) (s:RF):Prop where
 tu:s.tu≤19∧s.tu≤s.nd∧s.nd≤k
 fg:s.fg<10^s.tu
 dp: -(k:Int)≤s.dp∧s.dp≤k
theorem aG (h:digit c=true):48≤c.toNat∧c.toNat≤57:=by simpa [digit]using h
theorem QC {s:RF} (h:abn k s) (hc:digit c=true∨c.toNat=46):abn (k+1) (gG s c):=by
 obtain⟨⟨h1,h2,h3⟩,h4,h5,h6⟩:=h;unfold gG;split
 ·exact⟨⟨h1,h2,by show s.nd≤k+1;omega⟩,h4,by constructor<;>(simp only;omega)⟩
 ·rename_i hn;have hd:=aG (hc.resolve_right hn);split
  ·exact⟨⟨h1,h2,by show s.nd≤k+1;omega⟩,h4,by constructor<;>(simp only;omega)⟩
  ·split
   ·refine⟨⟨by show s.tu+1≤19;omega,by show s.tu+1≤s.nd+1;omega,by show s.nd+1≤k+1;omega⟩,?_,by constructor<;>(simp only;omega)⟩;show s.fg*10+(c.toNat-48)<10^(s.tu+1);rw[ef];omega
   ·exact⟨⟨h1,by show s.tu≤s.nd+1;omega,by show s.nd+1≤k+1;omega⟩,h4,by constructor<;>(simp only;omega)⟩
theorem AA {l:List UInt8} {m:Nat} (h:lp l m): ∀k,k≤m→abn k (fh l k)
 |0,_=>⟨⟨by simp[pa,rf0],by simp[pa,rf0],by simp[pa,rf0]⟩,by simp[pa,rf0],by simp[pa,rf0]⟩
 |k+1,hk=>by
  have hl:=h.1;rw[iA (by omega)];refine QC (AA h k (by omega)) ?_;rcases h.2 k (by omega)with hd|hd
  ·exact .inl hd
  ·exact .inr hd.1
theorem ME (s:RF) (c:UInt8):(gG s c).dot=(s.dot||c.toNat==46):=by
 unfold gG;split
 ·rename_i h;simp[h]
 ·rename_i h;have h':(c.toNat==46)=false:=by simpa using h
  rw[h',qG]
  repeat' split
  all_goals rfl
theorem Js {l:List UInt8}: ∀k,k≤l.length→(∀j,j<k→(an l j).toNat≠46)→(fh l k).dot=false
 |0,_,_=>rfl
 |k+1,hk,h=>by
  have h1:((an l k).toNat==46)=false:=by simpa using h k (by omega)
  rw[iA (by omega),ME,Js k (by omega) fun j hj=>h j (by omega),h1];rfl
theorem Cj {s:RF} (h:digit c=true∨s.gQ=true):(gG s c).gQ=true∨(c.toNat=46∧(gG s c).gQ=s.gQ):=by
 unfold gG;split
 ·rename_i hc;exact .inr ⟨hc,rfl⟩
 ·left
  repeat' split
  all_goals rfl
theorem Jt {l:List UInt8} {m:Nat} (h:lp l m) {i:Nat} (hd:digit (an l i)=true): ∀k,k≤m→i<k→(fh l k).gQ=true
 |0,_,hi=>by omega
 |k+1,hk,hi=>by
  have hl:=h.1;rw[iA (by omega)];by_cases he:i=k
  ·subst he;rcases Cj (s:=fh l i) (.inl hd)with h1|⟨h1,_⟩
   ·exact h1
   ·have:=aG hd;omega
  ·have ih:=Jt h hd k (by omega) (by omega);rcases Cj (c:=an l k) (.inr ih)with h1|⟨_,h1⟩
   ·exact h1
   ·rw[h1,ih]
theorem ags {D:Nat} (h:fh l k=⟨M,N,D,P,dt,dg,tr⟩) (hk:k<l.length) (hc:(an l k).toNat=46):fh l (k+1)=⟨M,N,D,D,true,dg,tr⟩:=by
 rw[iA hk,h,gG,ar hc]
theorem YB {D:Nat} (h:fh l k=⟨M,N,D,P,dt,dg,tr⟩) (hk:k<l.length) (hc:(an l k).toNat=48) (hD:D=0):fh l (k+1)=⟨M,N,D,P-1,dt,true,tr⟩:=by
 rw[iA hk,h,gG,af (by omega),ar ⟨hc,hD⟩]
theorem agt {D:Nat} (h:fh l k=⟨M,N,D,P,dt,dg,tr⟩) (hk:k<l.length) (hc:digit (an l k)=true) (hD: ¬((an l k).toNat=48∧D=0)) (hN:N<19):
  fh l (k+1)=⟨M*10+((an l k).toNat-48),N+1,D+1,P,dt,true,tr⟩:=by
 have:=aG hc;rw[iA hk,h,gG,af (by omega),af hD,ar hN]
theorem YC {D:Nat} (h:fh l k=⟨M,N,D,P,dt,dg,tr⟩) (hk:k<l.length) (hc:(an l k).toNat=48) (hD: ¬((an l k).toNat=48∧D=0)) (hN: ¬N<19):
  fh l (k+1)=⟨M,N,D+1,P,dt,true,tr⟩:=by
 have hb:((an l k).toNat != 48)=false:=by rw[hc];rfl
 rw[iA hk,h,gG,af (by omega),af hD,af hN];simp only[hb,qG]
theorem YD {D:Nat} (h:fh l k=⟨M,N,D,P,dt,dg,tr⟩) (hk:k<l.length) (hc:digit (an l k)=true) (Sh:(an l k).toNat≠48) (hN: ¬N<19):
  fh l (k+1)=⟨M,N,D+1,P,dt,true,true⟩:=by
 have:=aG hc;have hb:((an l k).toNat != 48)=true:=by simpa using Sh
 rw[iA hk,h,gG,af (by omega),af (by omega),af hN];simp only[hb,vC]
def mF (e:Nat) (c:UInt8):Nat:=if e<10000 then e*10+(c.toNat-48)else e
def zK (l:List UInt8) (j k:Nat):Nat:=((l.drop j).take (k-j)).foldl mF 0
theorem pb (l:List UInt8) (j:Nat):zK l j j=0:=by simp[zK]
theorem wg (hj:j≤k) (h:k<l.length):zK l j (k+1)=mF (zK l j k) (an l k):=by
 have hk:k-j<(l.drop j).length:=by simp;omega
 have:(l.drop j)[k-j]=an l k:=by
  rw[vs,an,lf,lB h];simp[show j+(k-j)=k by omega]
 rw[zK,show k+1-j=k-j+1 by omega,jM hk,yy,this];rfl
theorem UP (e:Nat) (c:UInt8) (h:e≤100009) (hc:digit c=true):mF e c≤100009:=by
 have:=aG hc;unfold mF;split<;>omega
theorem Gd: ∀k,j≤k→k≤l.length→(∀i,j≤i→i<k→digit (an l i)=true)→zK l j k≤100009:=by
 intro k hj;induction k with
 |zero=>intro _ _;simp[zK]
 |succ k ih=>
  intro hk h;by_cases he:j=k+1
  ·subst he;rw[pb];omega
  ·rw[wg (by omega) (by omega)];exact UP _ _ (ih (by omega) (by omega) fun i h1 h2=>h i h1 (by omega)) (h k (by omega) (by omega))
structure I2 (l:List UInt8) (m j:Nat) (neg:Bool):Prop where
 lt:m<l.length
 tj:tj (an l m)=true
 sign:(j=m+1∧neg=false∧digit (an l j)=true)∨(j=m+2∧neg=false∧(an l (m+1)).toNat=43)∨(j=m+2∧neg=true∧(an l (m+1)).toNat=45)
 some:j<l.length
 fe: ∀i,j≤i→i<l.length→digit (an l i)=true
def oQ (r:RF) (e:Int):Int:=if r.fg≠0 then(if r.dot then r.dp else(r.nd:Int))+e-(r.tu:Int)else 0
structure DS where
 D:Nat→Nat
 nd:Nat
 dp:Int
 dot:Bool
def lq (s:DS) (c:UInt8):DS:=
 if c.toNat=46 then⟨s.D,s.nd,s.nd,true⟩
 else if c.toNat=48∧s.nd=0 then⟨s.D,s.nd,s.dp-1,s.dot⟩
 else⟨Hq s.D s.nd c.toNat,s.nd+1,s.dp,s.dot⟩
def ds0:DS:=⟨fun _=>0,0,0,false⟩
def dR (l:List UInt8) (k:Nat):DS:=(l.take k).foldl lq ds0
theorem ma (l:List UInt8):dR l 0=ds0:=rfl
theorem mc (h:k<l.length):dR l (k+1)=lq (dR l k) (an l k):=by
 have:l[k]=an l k:=by rw[an,lf,lB h];rfl
 rw[dR,jM h,yy,this];rfl
structure abo (k:Nat) (s:DS):Prop where
 nd:s.nd≤k
 gQ:jx s.D s.nd
 dp: -(k:Int)≤s.dp∧s.dp≤k
theorem QD {s:DS} (h:abo k s) (hc:digit c=true∨c.toNat=46):abo (k+1) (lq s c):=by
 obtain⟨h1,h2,h3,h4⟩:=h;unfold lq;split
 ·exact⟨by show s.nd≤k+1;omega,h2,by constructor<;>(simp only;omega)⟩
 ·rename_i hn;have hd:=aG (hc.resolve_right hn);split
  ·exact⟨by show s.nd≤k+1;omega,h2,by constructor<;>(simp only;omega)⟩
  ·rename_i hz;refine⟨by show s.nd+1≤k+1;omega,⟨fun i hi=>?_,fun _=>?_⟩,by constructor<;>(simp only;omega)⟩
   ·show 48≤Hq s.D s.nd c.toNat i∧Hq s.D s.nd c.toNat i≤57;unfold Hq;split
    ·omega
    ·rename_i bC;exact h2.1 i (by simp only at hi;omega)
   ·show Hq s.D s.nd c.toNat 0≠48;unfold Hq;split
    ·omega
    ·exact h2.2 (by omega)
theorem vR {l:List UInt8} {m:Nat} (h:lp l m): ∀k,k≤m→abo k (dR l k)
 |0,_=>⟨by simp[ma,ds0],⟨fun i hi=>by simp[ma,ds0]at hi,fun hi=>by simp[ma,ds0]at hi⟩,by simp[ma,ds0]⟩
 |k+1,hk=>by
  have hl:=h.1;rw[mc (by omega)];refine QD (vR h k (by omega)) ?_;rcases h.2 k (by omega)with hd|hd
  ·exact .inl hd
  ·exact .inr hd.1
theorem MF {s:DS} (h:c.toNat≠46):(lq s c).dot=s.dot:=by
 unfold lq;rw[af h];split<;>rfl
theorem BG {l:List UInt8}: ∀k,k≤l.length→(∀j,j<k→(an l j).toNat≠46)→(dR l k).dot=false
 |0,_,_=>rfl
 |k+1,hk,h=>by
  rw[mc (by omega),MF (h k (by omega))];exact BG k (by omega) fun j hj=>h j (by omega)
theorem agu (h:dR l k=⟨D,N,P,dt⟩) (hk:k<l.length) (hc:(an l k).toNat=46):dR l (k+1)=⟨D,N,N,true⟩:=by
 rw[mc hk,h,lq,ar hc]
theorem YE (h:dR l k=⟨D,0,P,dt⟩) (hk:k<l.length) (hc:(an l k).toNat=48):dR l (k+1)=⟨D,0,P-1,dt⟩:=by
 rw[mc hk,h,lq,af (by omega),ar ⟨hc,rfl⟩]
theorem agv (h:dR l k=⟨D,N,P,dt⟩) (hk:k<l.length) (hc:(an l k).toNat≠46) (hz: ¬((an l k).toNat=48∧N=0)):dR l (k+1)=⟨Hq D N (an l k).toNat,N+1,P,dt⟩:=by
 rw[mc hk,h,lq,af hc,af hz]
def H9 (l:List UInt8) (mm:Nat) (e:Int):cG:=⟨(dR l mm).D,(dR l mm).nd,(if (dR l mm).dot then(dR l mm).dp else((dR l mm).nd:Int))+e,false⟩
theorem aca (h:lp l mm) (hm:mm≤700) {e:Int} (he: -100009≤e∧e≤100009):((H9 l mm e).nd=0∨(H9 l mm e).Ok)∧ -200000≤(H9 l mm e).dp∧(H9 l mm e).dp≤200000:=by
 have h1:=vR h mm (aP _);have h2:=h1.nd;have h3:=h1.dp;refine⟨?_,?_⟩
 ·rcases jK (dR l mm).nd with h0|h0
  ·exact .inl h0
  ·exact .inr ⟨h1.gQ,h0,by show (dR l mm).nd≤800;omega⟩
 ·unfold H9;simp only;split<;>omega
def lg:Nat→Nat→Int→Nat×Int
 |0,m,e=>(m,e)
 |f+1,m,e=>if m≠0∧m<18014398509481984 then lg f (m*2) (e-1)else(m,e)
theorem OQ (h: ¬(m≠0∧m<18014398509481984)) (e:Int): ∀f,lg f m e=(m,e)
 |0=>rfl
 |f+1=>by rw[lg,af h]
def ml:Nat→Nat→Int→Nat×Int
 |0,m,e=>(m,e)
 |f+1,m,e=>if 36028797018963968≤m then ml f (m/2|||m%2) (e+1)else(m,e)
theorem YF (h: ¬36028797018963968≤m) (e:Int): ∀f,ml f m e=(m,e)
 |0=>rfl
 |f+1=>by rw[ml,af h]
theorem BH: ∀(f m:Nat) (e:Int),(m≠0→18014398509481984≤m*2^f)→m<18446744073709551616→(lg f m e).1<18446744073709551616∧((lg f m e).1≠0→18014398509481984≤(lg f m e).1)∧e-f≤(lg f m e).2∧(lg f m e).2≤e
 |0,m,e,h,hm=>⟨hm,fun h0=>by have:=h h0;rw[lg];simpa using this,by rw[lg];simp,by rw[lg];simp⟩
 |f+1,m,e,h,hm=>by
  rw[lg];split
  ·rename_i h2;have:=BH f (m*2) (e-1) (fun _=>by have:=h h2.1;rw[ef]at this;rw[bV,fu 2];exact this) (by omega);refine⟨this.1,this.2.1,?_,?_⟩<;>omega
  ·rename_i h2;refine⟨hm,fun h0=>?_,by simp only;omega,Int.le_refl _⟩;simp only at h0 ⊢
   omega
theorem Gv (h:m<2*2^n) (hn:1≤n):m/2|||m%2<2^n:=by
 apply Eu
 ·omega
 ·have:(2:Nat)^1≤2^n:=ee (by omega) hn;omega
theorem BI: ∀(f m:Nat) (e:Int),m<2^(55+f)→(ml f m e).1<36028797018963968∧e≤(ml f m e).2∧(ml f m e).2≤e+f
 |0,m,e,h=>⟨by rw[ml];simpa using h,by rw[ml];simp,by rw[ml];simp⟩
 |f+1,m,e,h=>by
  rw[ml];split
  ·have:=BI f (m/2|||m%2) (e+1) (Gv (by rw[show 55+(f+1)=(55+f)+1 by omega,ef]at h;omega) (by omega));refine⟨this.1,?_,?_⟩<;>omega
  ·rename_i h2;refine⟨by simp only;omega,Int.le_refl _,by simp only;omega⟩
def hxR (m:Nat):Nat:=(m&&&3)|||(m/4%2)
def vK (m:Nat) (e:Int):Nat×Bool:=if 1023<e then((gF 4503599627370496 2047).toNat,true)else((gF m (e+1023)).toNat,false)
def qI (m:Nat) (e:Int):Nat×Bool:=if m<4503599627370496 then vK m (-1023)else vK m e
def yM (m:Nat) (e:Int):Nat×Bool:=
 if hxR m=3 then(if m/4+1=9007199254740992 then qI 4503599627370496 (e+3)else qI (m/4+1) (e+2))else qI (m/4) (e+2)
def zW (m:Nat) (tr:Bool):Nat:=if tr=true then m|||1 else m
def SP (m:Nat) (p:Int) (tr:Bool):Nat×Bool:=
 yM (ml 9 (zW (lg 54 m (p+52)).1 tr) (lg 54 m (p+52)).2).1 (ml 9 (zW (lg 54 m (p+52)).1 tr) (lg 54 m (p+52)).2).2
structure RX where
 fg:Nat
 tu:Nat
 nd:Nat
 tr:Bool
def mx (c:UInt8):Nat:=if digit c=true then c.toNat-48 else(c.toNat|||32)-87
def oh (s:RX) (c:UInt8):RX:=
 if c.toNat=48∧s.nd=0 then s
 else if s.tu<16 then⟨s.fg*16+mx c,s.tu+1,s.nd+1,s.tr⟩
 else⟨s.fg,s.tu,s.nd+1,s.tr||c.toNat != 48⟩
def eG (l:List UInt8) (k:Nat):RX:=((l.drop 2).take (k-2)).foldl oh ⟨0,0,0,false⟩
theorem BJ (l:List UInt8):eG l 2=⟨0,0,0,false⟩:=by simp[eG]
theorem me (hj:2≤k) (h:k<l.length):eG l (k+1)=oh (eG l k) (an l k):=by
 have hk:k-2<(l.drop 2).length:=by simp;omega
 have:(l.drop 2)[k-2]=an l k:=by
  rw[vs,an,lf,lB h];simp[show 2+(k-2)=k by omega]
 rw[eG,show k+1-2=k-2+1 by omega,jM hk,yy,this];rfl
theorem BK: ∀c:UInt8,gS c=true→digit c=false→97≤c.toNat|||32∧c.toNat|||32≤102:=by
 have: ∀n:Fin 256,gS (UInt8.ofNat n.val)=true→digit (UInt8.ofNat n.val)=false→97≤(UInt8.ofNat n.val).toNat|||32∧(UInt8.ofNat n.val).toNat|||32≤102:=by decide+kernel
 intro c h1 h2;have hc:UInt8.ofNat c.toNat=c:=by simp
 have:=this ⟨c.toNat,mz c⟩;simp only[hc]at this;exact this h1 h2
theorem Gw (c:UInt8) (h:gS c=true):mx c<16:=by
 unfold mx;split
 ·rename_i hd;have:=aG hd;omega
 ·rename_i hd;have:=BK c h (by simpa using hd);omega
structure akr (k:Nat) (s:RX):Prop where
 tu:s.tu≤16∧s.tu≤s.nd∧s.nd≤k
 fg:s.fg<16^s.tu
def EE (l:List UInt8) (m:Nat):Prop:=m≤l.length∧ ∀i,2≤i→i<m→gS (an l i)=true
theorem Gx (h:EE l m): ∀k,2≤k→k≤m→akr k (eG l k):=by
 intro k hk;induction k with
 |zero=>omega
 |succ k ih=>
  intro hm;have hl:=h.1;by_cases he:k+1=2
  ·rw[he,BJ];exact⟨⟨by simp,by simp,by simp⟩,by simp⟩
  ·have ih:=ih (by omega) (by omega);have hv:=Gw _ (h.2 k (by omega) (by omega));rw[me (by omega) (by omega)];cases hr:eG l k with
   |mk M N D T=>
    rw[hr]at ih;obtain⟨⟨h1,h2,h3⟩,h4⟩:=ih;simp only at h1 h2 h3 h4;unfold oh;split
    ·exact⟨⟨h1,h2,by show D≤k+1;omega⟩,h4⟩
    ·split
     ·refine⟨⟨by show N+1≤16;simp only at*;omega,by show N+1≤D+1;omega,by show D+1≤k+1;omega⟩,?_⟩;show M*16+_<16^(N+1);rw[ef];omega
     ·exact⟨⟨h1,by show N≤D+1;omega,by show D+1≤k+1;omega⟩,h4⟩
theorem YG {D:Nat} (h:eG l k=⟨M,N,D,tr⟩) (hj:2≤k) (hk:k<l.length) (hc:(an l k).toNat=48) (hD:D=0):eG l (k+1)=⟨M,N,D,tr⟩:=by
 rw[me hj hk,h,oh,ar ⟨hc,hD⟩]
theorem Φ {D:Nat} (h:eG l k=⟨M,N,D,tr⟩) (hj:2≤k) (hk:k<l.length) (hD: ¬((an l k).toNat=48∧D=0)) (hN:N<16):eG l (k+1)=⟨M*16+mx (an l k),N+1,D+1,tr⟩:=by
 rw[me hj hk,h,oh,af hD,ar hN]
theorem YH {D:Nat} (h:eG l k=⟨M,N,D,tr⟩) (hj:2≤k) (hk:k<l.length) (hc:(an l k).toNat=48) (hD: ¬((an l k).toNat=48∧D=0)) (hN: ¬N<16):eG l (k+1)=⟨M,N,D+1,tr⟩:=by
 have hb:((an l k).toNat != 48)=false:=by rw[hc];rfl
 rw[me hj hk,h,oh,af hD,af hN];simp only[hb,qG]
theorem OT {D:Nat} (h:eG l k=⟨M,N,D,tr⟩) (hj:2≤k) (hk:k<l.length) (hc:(an l k).toNat≠48) (hN: ¬N<16):eG l (k+1)=⟨M,N,D+1,true⟩:=by
 have hb:((an l k).toNat != 48)=true:=by simpa using hc
 rw[me hj hk,h,oh,af (by omega),af hN];simp only[hb,vC]
def Te (x:Nat):Nat:=x%18446744073709551616&&&9223372036854775807
def dS (x:Nat):Bool:=(FloatKind.f64.format.order (Te x) 9218868437227405311==some .gt)
structure SM where
 n:Nat
 behind:Nat
 Bn:Bool
def jR (s:SM) (c:UInt8):SM:=
 if c.toNat=46 then⟨s.n,s.behind,true⟩
 else⟨s.n*10+(c.toNat-48),if s.Bn=true then s.behind+1 else s.behind,s.Bn⟩
def dE (l:List UInt8) (k:Nat):SM:=(l.take k).foldl jR ⟨0,0,false⟩
def pc (l:List UInt8):Bool:=l.all fun c=>digit c||c.toNat==46
def gX (l:List UInt8):Bool:=decide (l.length≤15)&&pc l
def xF (l:List UInt8):Nat:=F1 (floatOfInt .f64 ((dE l l.length).n:Int)) (ff (dE l l.length).behind)
def LK (l:List UInt8):Nat:=
 (SP (eG l l.length).fg (if (eG l l.length).fg≠0 then 4*((eG l l.length).nd:Int)-4*((eG l l.length).tu:Int)else 0) (eG l l.length).tr).1
def bJ (l:List UInt8):Nat:=(l.takeWhile fun c=> !tj c).length
def xw (l:List UInt8):Bool:=(an l (bJ l+1)).toNat==45
def pS (l:List UInt8):Nat:=if (an l (bJ l+1)).toNat=43∨(an l (bJ l+1)).toNat=45 then bJ l+2 else bJ l+1
def fV (l:List UInt8):Int:=if bJ l<l.length then(if xw l=true then-(zK l (pS l) l.length:Int)else(zK l (pS l) l.length:Int))else 0
def DH (d:Nat) (p:Int) (tr:Bool) (full:cG):Nat:=
 if d=0 then 0
 else if 310<p then eW
 else if p< -345 then 0
 else if tr=true then(if (FloatKind.f64.format.order (lk d p) (lk (d+1) p)==some .eq)=true then lk d p else(FK full).1.toNat)
 else match fH d p with|some x=>x|none=>lk d p
def LL (l:List UInt8):Nat:=DH (fh l (bJ l)).fg (oQ (fh l (bJ l)) (fV l)) (fh l (bJ l)).tr (H9 l (bJ l) (fV l))
def jS (l:List UInt8):Nat:=if gX l=true then xF l else if tZ (an l 1)=true then LK l else LL l
def rF (t:List UInt8):Bool:=(t.take 4).map low==[105,110,102]||(t.take 4).map low==[110,97,110]
def bR (br:Bool) (t:List UInt8):Nat:=if t.contains 58 then 2 else if !br&&rF t then 3 else 1
def Ju (l:List UInt8):List UInt8:=l.takeWhile fun c=> !tj c
def acb (l:List UInt8):Nat:=l.foldl (fun n c=>n*10+(c.toNat-48)) 0
def fg (l:List UInt8):Nat:=acb ((Ju l).filter digit)
def behind (l:List UInt8):Nat:=((Ju l).dropWhile fun c=>c.toNat != 46).length-1
def vf (l:List UInt8):Bool:= !gX l&&dS (jS l)
def dC (l:List UInt8) (a b c:Nat):Bool:=l.length==3&&((an l 0).toNat|||32)==a&&((an l 1).toNat|||32)==b&&((an l 2).toNat|||32)==c
def bH (l:List UInt8):Nat:=
 if 512<l.length then 1
 else if dC l 105 110 102||dC l 110 97 110 then 0
 else if l=[]∨ag l≠l.length then 20
 else if vf l then 21 else 0
inductive AU where
 |bad (e:Nat)
 |tok (kind n:Nat) (br sq:Bool)
def kr (l:List UInt8):Nat:=if ag l<aW l then 4 else 3
def cu (l:List UInt8):Nat:=if ag l<aW l then aW l else ag l
def bY (l:List UInt8):Bool:=decide (cu l<l.length)&&(letter (an l (cu l))||digit (an l (cu l))||(an l (cu l)).toNat==46)
def iX (l:List UInt8):Nat:=if ag l<aW l then(bu (l.take (cu l))).2 else bH (l.take (cu l))
def bF (l:List UInt8) (br sq:Bool):AU:=if bY l=true then .bad 112 else if iX l≠0 then .bad 112 else .tok (kr l) (cu l) br sq
theorem QE (l:List UInt8):cu l≤l.length:=by
 unfold cu;split
 ·exact ky l
 ·exact qv l
theorem AV (h:((n:Int) != 0)=false):n=0:=by
 have:(n:Int)=0:=by simpa using h
 omega
theorem zX (h:((n:Int) != 0)=true):n≠0:=by
 have: ¬(n:Int)=0:=by simpa using h
 omega
theorem yZ (hn:cu t.data.toList=n) (h:n<t.size):bY t.data.toList=(letter t[n]||digit t[n]||(t[n].toNat==46)):=by
 rw[bY,hn,ab,dQ h,mA,aq h]
theorem wP (hn:cu t.data.toList=n) (h: ¬n<t.size):bY t.data.toList=false:=by
 rw[bY,hn,ab,gp h,rr]
theorem fC (h:bY l=true):bF l br sq= .bad 112:=by rw[bF,ar h]
theorem kX (h:bY l=false) (h2:iX l≠0):bF l br sq= .bad 112:=by
 rw[bF,h,af (by simp),ar h2]
theorem mU (hk:kr l=k) (hn:cu l=n) (h:bY l=false) (h2:iX l=0):bF l br sq= .tok k n br sq:=by
 rw[bF,h,af (by simp),af (by omega),hk,hn]
theorem Jv (hs:aW l=sp) (h:ag l<sp):kr l=4∧cu l=sp∧iX l=(bu (l.take sp)).2:=by
 subst hs;refine⟨?_,?_,?_⟩
 ·rw[kr,ar h]
 ·rw[cu,ar h]
 ·rw[iX,ar h,cu,ar h]
theorem OU (hn:ag l=np) (h: ¬np<aW l):kr l=3∧cu l=np∧iX l=bH (l.take np):=by
 subst hn;refine⟨?_,?_,?_⟩
 ·rw[kr,af h]
 ·rw[cu,af h]
 ·rw[iX,af h,cu,af h]
def Tf:List (List UInt8):=[[61,61],[33,61],[61,126],[33,126],[60,61],[62,61]]
def Hs (l:List UInt8):Bool:=decide (1<l.length)&&Tf.contains (l.take 2)
def LM:List Nat:=[40,41,44,58,61,60,62,43,45,42,47,37,94,64]
def sn (l:List UInt8) (br sq:Bool):AU:=
 if Hs l=true then .tok 6 2 br sq
 else if (an l 0).toNat=123 then .tok 6 1 true sq
 else if (an l 0).toNat=125 then .tok 6 1 false sq
 else if (an l 0).toNat=91 then .tok 6 1 br true
 else if (an l 0).toNat=93 then .tok 6 1 br false
 else if LM.contains (an l 0).toNat=true then .tok 6 1 br sq
 else .bad 110
theorem YI (h:Hs l=true):sn l br sq= .tok 6 2 br sq:=by rw[sn,ar h]
theorem iV (h:Hs l=false) {c:Nat} (hc:(an l 0).toNat=c):sn l br sq=
  if c=123 then .tok 6 1 true sq else if c=125 then .tok 6 1 false sq else if c=91 then .tok 6 1 br true else if c=93 then .tok 6 1 br false
  else if LM.contains c=true then .tok 6 1 br sq else .bad 110:=by
 rw[sn,h,hc,af (by simp)]
def tf (l:List UInt8) (br sq:Bool):AU:=
 match bz l 0 with
 |none=>.bad 111
 |some n=>if (lM (l.take n)).1=0 then .tok 5 n br sq else .bad 111
def aX (l:List UInt8) (br sq:Bool):AU:=
 if letter (an l 0)=true then .tok (bR br (l.take (ae (bg (!br&& !sq)) l 0))) (ae (bg (!br&& !sq)) l 0) br sq
 else if (an l 0).toNat=58∧(!br&& !sq)=true then .tok 2 (ae (bg true) l 1) br sq
 else if digit (an l 0)=true∨((an l 0).toNat=46∧1<l.length∧digit (an l 1)=true)then bF l br sq
 else if dB (an l 0)=true then tf l br sq
 else sn l br sq
theorem mK (q : UInt8) : ∀ (l : List UInt8) (n : Nat), eH q l = some n → 1 ≤ n ∧ n ≤ l.length
  | [], n, h => by simp [eH] at h
  | [c], n, h => by
    simp only[eH]at h
    split at h
    · simp at h; subst h; simp
    · simp at h
  | c :: d :: r, n, h => by
    simp only[eH]at h
    split at h
    · simp at h; subst h; simp
    · split at h
      · obtain ⟨m, hm, rfl⟩ := xj.1 h
        have:=mK q (d::r) m hm
        simp at*;omega
      · split at h
        · simp at h
        · split at h
          · split at h
            · simp at h
            · obtain ⟨m, hm, rfl⟩ := xj.1 h
              have:=mK q r m hm
              simp at*;omega
          · obtain ⟨m, hm, rfl⟩ := xj.1 h
            have:=mK q (d::r) m hm
            simp at*;omega
theorem xQ (h:bz l i=some n):i+2≤n∧n≤l.length:=by
 unfold bz at h;split at h
 ·obtain⟨m,hm,rfl⟩:=xj.1 h;have:=mK _ _ m hm;simp at this;omega
 ·simp at h
theorem gy (l:List UInt8) (i j:Nat):an (l.drop i) j=an l (i+j):=by
 simp[an,lf]
theorem za (l:List UInt8) (i:Nat):bz l i=(bz (l.drop i) 0).map (· +i):=by
 rw[bz,bz,gy,yF,mY];by_cases h:i<l.length∧dB (an l i)=true
 ·rw[ar h,ar ⟨by omega,h.2⟩];cases eH (an l i) (l.drop (i+1))
  ·rfl
  ·simp;omega
 ·rw[af h,af (by intro h2;exact h ⟨by omega,h2.2⟩)];rfl
structure Tok where
 kind:Nat
 text:List UInt8
 pos:Nat
def jv (c:UInt8):Bool:=c.toNat==9||c.toNat==10||c.toNat==13||c.toNat==32
def eI (c:UInt8):Bool:=c.toNat != 10
def cS (l:List UInt8):Nat:=min (ae eI l 0+1) l.length
def qJ:Nat→List UInt8→Nat→Bool→Bool→List Tok×Option (Nat×Nat)
 |0,_,_,_,_=>([],none)
 |f+1,l,p,br,sq=>
  if l=[]then([],none)
  else if jv (an l 0)=true then qJ f (l.drop 1) (p+1) br sq
  else if (an l 0).toNat=35 then qJ f (l.drop (cS l)) (p+cS l) br sq
  else match aX l br sq with
   | .bad e=>([],some (p,e))
   | .tok k n b q=>(⟨k,l.take n,p⟩::(qJ f (l.drop n) (p+n) b q).1,(qJ f (l.drop n) (p+n) b q).2)
def cE (l:List UInt8) (p:Nat) (br sq:Bool):List Tok×Option (Nat×Nat):=qJ l.length l p br sq
theorem lO (h:l≠[]):0<l.length:=Es.2 h
theorem ka (h:l≠[]):1≤cS l∧cS l≤l.length:=by
 have:=lO h;unfold cS;omega
theorem UQ (h:l≠[]):l=an l 0::l.drop 1:=by
 cases l with
 |nil=>exact absurd rfl h
 |cons c r=>rfl
theorem tM {p:UInt8→Bool} (h:l≠[]) (hp:p (an l 0)=true):1≤ae p l 0:=by
 cases l with
 |nil=>exact absurd rfl h
 |cons c r=>
  have hp':p c=true:=hp;simp[ae,rf,hp']
theorem Ai (h:l≠[]) (hd:digit (an l 0)=true∨((an l 0).toNat=46∧1<l.length∧digit (an l 1)=true)):1≤ag l:=by
 unfold ag;split
 ·have:=aV gS l 2;omega
 ·have h1:1≤aI l:=by
   rcases hd with hd|⟨h1,h2,h3⟩
   ·have hs:=tM h hd;unfold aI;split
    ·have:=aV digit l (ae digit l 0+1);omega
    ·rw[af (by omega)];exact hs
   ·have h0:ae digit l 0=0:=by
     cases l with
     |nil=>exact absurd rfl h
     |cons c r=>
      have:digit c=false:=by
       have h1':c.toNat=46:=h1;simp[digit,h1']
      simp[ae,rf,this]
    rw[aI,h0,af (by omega),ar ⟨rfl,h2,h1,h3⟩];exact aV digit l 1
  rw[af (by omega)];have:=lZ l (aI l) (l9 l);omega
theorem jb (h:l≠[]) (ht:aX l br sq= .tok k n b q):1≤n∧n≤l.length:=by
 have hl:=lO h;unfold aX at ht;split at ht
 ·rename_i h1;injection ht with _ h2
  subst h2;exact⟨tM h (tL h1),bI _ l 0 (aT _)⟩
 ·split at ht
  ·injection ht with _ h2
   subst h2;exact⟨aV _ l 1,bI _ l 1 hl⟩
  ·split at ht
   ·rename_i h1;have hp:=Ai h h1;have hle:=QE l;unfold bF at ht;split at ht
    ·cases ht
    ·split at ht
     ·cases ht
     ·injection ht with _ h2
      subst h2;refine⟨?_,hle⟩;unfold cu;split<;>omega
   ·split at ht
    ·unfold tf at ht;split at ht
     ·cases ht
     ·rename_i m hm;have:=xQ hm;split at ht
      ·injection ht with _ h2
       omega
      ·cases ht
    ·unfold sn at ht;split at ht
     ·rename_i h2;simp[Hs]at h2;injection ht with _ h3
      omega
     ·repeat' split at ht
      all_goals first
       |(injection ht with _ h3;omega)
       |cases ht
theorem kc : ∀ (f g : Nat) (l : List UInt8) (p : Nat) (br sq : Bool), l.length ≤ f → l.length ≤ g → qJ f l p br sq = qJ g l p br sq
  | 0, g, l, p, br, sq, hf, _ => by
    have:l=[]:=A3 (by omega)
    subst this
    cases g<;>simp[qJ]
  | f + 1, 0, l, p, br, sq, _, hg => by
    have:l=[]:=A3 (by omega)
    subst this
    simp[qJ]
  | f + 1, g + 1, l, p, br, sq, hf, hg => by
    rw[qJ,qJ]
    by_cases h:l=[]
    · rw [ar h, ar h]
    · have hl := lO h
      have hr:=ka h
      rw[af h,af h,kc f g (l.drop 1) _ _ _ (by simp;omega) (by simp;omega),kc f g (l.drop (cS l)) _ _ _ (by simp;omega) (by simp;omega)]
      cases ht:aX l br sq with
      | bad e => rfl
      | tok k n b q =>
        have hn:=jb h ht
        dsimp only
        rw[kc f g (l.drop n) _ _ _ (by simp;omega) (by simp;omega)]
theorem sF (p:Nat) (br sq:Bool):cE [] p br sq=([],none):=rfl
theorem oW (h:l≠[]) (p:Nat) (br sq:Bool):cE l p br sq=
  if jv (an l 0)=true then cE (l.drop 1) (p+1) br sq
  else if (an l 0).toNat=35 then cE (l.drop (cS l)) (p+cS l) br sq
  else match aX l br sq with
   | .bad e=>([],some (p,e))
   | .tok k n b q=>(⟨k,l.take n,p⟩::(cE (l.drop n) (p+n) b q).1,(cE (l.drop n) (p+n) b q).2):=by
 have hl:=lO h;have hr:=ka h;obtain⟨f,hf⟩: ∃f,l.length=f+1:=⟨l.length-1,by omega⟩;unfold cE;rw[hf,qJ,af h,kc f (l.drop 1).length (l.drop 1) _ _ _ (by simp;omega) (aP _),kc f (l.drop (cS l)).length (l.drop (cS l)) _ _ _ (by simp;omega) (aP _)];cases ht:aX l br sq with
 |bad e=>rfl
 |tok k n b q=>
  have hn:=jb h ht;dsimp only;rw[kc f (l.drop n).length (l.drop n) _ _ _ (by simp;omega) (aP _)]
theorem cK (h:l≠[]) (hb:jv (an l 0)=true) (p:Nat) (br sq:Bool):cE l p br sq=cE (l.drop 1) (p+1) br sq:=by
 rw[oW h,ar hb]
theorem aks (h:c.toNat=35):jv c=false:=by simp[jv,h]
theorem jE (h:l≠[]) (hc:(an l 0).toNat=35) (p:Nat) (br sq:Bool):cE l p br sq=cE (l.drop (cS l)) (p+cS l) br sq:=by
 rw[oW h,aks hc,af (by simp),ar hc]
theorem sG (h:l≠[]) {br sq:Bool} {e:Nat} (hb:jv (an l 0)=false) (hc:(an l 0).toNat≠35) (ht:aX l br sq= .bad e) (p:Nat):cE l p br sq=([],some (p,e)):=by
 rw[oW h,hb,af (by simp),af hc,ht]
theorem pd (h:l≠[]) {br sq b q:Bool} {k n:Nat} (hb:jv (an l 0)=false) (hc:(an l 0).toNat≠35) (ht:aX l br sq= .tok k n b q) (p:Nat):
  cE l p br sq=(⟨k,l.take n,p⟩::(cE (l.drop n) (p+n) b q).1,(cE (l.drop n) (p+n) b q).2):=by
 rw[oW h,hb,af (by simp),af hc,ht]
def nA (w:World) (p:Nat):Nat:=match w.cell? ⟨p,1,none⟩with|some (.int _ k)=>k.toNat|_=>0
def Tok.cells (t:Tok):List Value:=[.int .i64 (t.kind:Int),.string ⟨t.text.toArray⟩,.int .i64 (t.pos:Int)]
def aK (ts:List Tok):List Value:=ts.flatMap Tok.cells
theorem jH (ts:List Tok) (t:Tok):aK (ts++[t])=aK ts++t.cells:=by simp[aK]
theorem sH {P:Program} {K:Act → World → Prop} {Q:Exit → Act → World → Prop} {E:Prop} 
    (hg : o.guard = none) (s x : Operand) (t : TypeId) (Dl : o.op = Op.call { callee := Callee.builtin Builtin.append, args := #[s, x], argTypes := #[t, t] })
    (base : Nat) (e : TypeId) (z : Value) (size bytes : Nat) (oL : (P.info? e).map (fun i => (i.zero, i.size, i.bytes)) = some (some z, size, bytes)) (h1 : P.underlying t = some (.slice e)) (Py : z.cells.size = size) (jf : 0 < size)
    (v : Value) (n : Nat) (xs : List Value) (hs : a.eval s = v) (aL : w0.ownsRow base e size v n xs) (us : List Value) (hus : us.length = size)
    (hx : a.eval x = .slice (some ⟨w0.heap.size, 0, none⟩) 1 1) (Xf : ∀ u ∈ us, u.oneCell' = true) (xn : n + 1 ≤ maxLen) (hb : (n + 1) * bytes ≤ 140737488355328) (cU : base ≤ w0.heap.size)
    (hK : ∀ v' w', w'.ownsRow base e size v' (n + 1) (xs ++ us) → w0.grownBy w' v.ownBlock → K (a.put o.dst v') w') :
    if Region.wanted o (yielded ops a.tmps)=true then Oper.wp P o a (w0.alloc (.cells us.toArray e)) K Q else E:=by
  have hw:Region.wanted o (yielded ops a.tmps)=true:=by simp[Region.wanted,hg]
  rw[ar hw]
  obtain⟨i,hi,hz,Sz,NV⟩:=mC oL
  obtain ⟨v', w', abj, r1, r2, _⟩ := run_append_own (P := P) (w0.alloc (.cells us.toArray e)) base t o.type e i z size bytes h1 hi hz Sz NV Py jf v n xs (aL.alloc _) ⟨w0.heap.size, 0, none⟩ 1 1 us (by omega)
    (by intro j u hu
        have hj:j<us.length:=(FX.1 hu).1
        rw[mB,mw,zS _ _ _ _ rfl]
        simpa using hu) Xf xn hb (by simp;omega)
  unfold Oper.wp
  simp[execOp,Dl,resolve,invoke,builtin,hs,hx,abj,Result.andThen]
  exact hK v' w' r1 (dh (Er w0 _ _) r2)
def qY (w:World) (p:Nat) (s:ByteArray) (at':Nat) (br sq:Bool) (v:Value):Prop:=aH w p 191 #[.string s,.int .i64 (at':Int),.bool br,.bool sq,v]
theorem wh:(prog.info? 139).map (fun i=>(i.zero,i.size,i.bytes))=some (some (.agg #[.int .i64 0,.string ⟨#[]⟩,.int .i64 0]),3,32):=by
 kernel_rfl
theorem xR {row:Option Nat} (h:w.ownsRow base e size v n xs) (hb:w.grownBy w' row) (hg: ∀g,v.ownBlock=some g→some g≠row):w'.ownsRow base e size v n xs:=by
 refine⟨h.1,?_⟩;rcases h.2 with hn|⟨g,cap,cur,rfl,h1,h2,h3,h4,h5,h6⟩
 ·exact .inl hn
 ·have au:g<w.heap.size:=by
   rcases dD g w.heap.size with au|lW
   ·exact au
   ·rw[vq lW]at h2;cases h2
  exact .inr ⟨g,cap,cur,rfl,h1,(hb.block g au (hg g rfl)).trans h2,h3,h4,h5,h6⟩
theorem wi (h:w.ownsRow base e size v n xs): ∃ao n' c',v= .slice ao n' c':=by
 rcases h.2 with⟨rfl,_⟩|⟨g,cap,cur,rfl,_⟩
 ·exact⟨_,_,_,rfl⟩
 ·exact⟨_,_,_,rfl⟩
theorem Jw (hz:qY w p s at' br sq v) (ho:w.ownsRow base 139 3 v n xs) (hg:w.drew.grownBy w' v.ownBlock):qY w' p s at' br sq v:=
 aH.grown (w:=w.drew) hz hg (dL (e:=139) ho hz (by decide)).symm
def nF (base p:Nat) (s:ByteArray) (at':Nat) (br sq:Bool) (ts:List Tok) (w:World) (e:Ending) (w':World):Prop:=
 e= .returned (.int .i64 0)∧ ∃v,qY w' p s at' br sq v∧w'.ownsRow base 139 3 v ts.length (aK ts)∧Below base w w'
theorem eO (w:World) (base p:Nat) (s:ByteArray) (at' k n:Nat) (x y:Int) (hx:x=(k:Int)) (hy:y=(n:Int)) (br sq:Bool) (v:Value) (ts:List Tok) (hs:s.size≤281474976710656) (hn:at'+n≤s.size) (hk:k≤6)
  (hz:qY w p s at' br sq v) (aL:w.ownsRow base 139 3 v ts.length (aK ts)) (hlen:ts.length≤1099511627776) (gR:base≤p):
  Calls prog 147 #[.pointer (some ⟨p,0,none⟩),.int .i64 x,.int .i64 y] w (nF base p s (at'+n) br sq (ts++[⟨k,(s.data.toList.drop at').take n,at'⟩]) w):=by
 subst hx hy;have hw:IntKind.i64.wrap ((at':Int)+(n:Int))=((at'+n:Nat):Int):=by rw[oG];omega
 have q1:(0≤(at':Int)+(n:Int))=True:=by simp;omega
 have q2:((at':Int)+(n:Int)≤(s.size:Int))=True:=by simp;omega
 have q3:((at':Int)≤(at':Int)+(n:Int))=True:=by simp;omega
 have q4:((at':Int)+(n:Int)).toNat=at'+n:=by omega
 have c0:w.cell? ⟨p,0,none⟩=some (.string s):=by rw[hz.cell];rfl
 have c1:w.cell? ⟨p,1,none⟩=some (.int .i64 (at':Int)):=by rw[hz.cell];rfl
 have c4:w.cell? ⟨p,4,none⟩=some v:=by rw[hz.cell];rfl
 have e4: ∀o,(w.alloc o).cell? ⟨p,4,none⟩=some v:=fun o=>((aH.alloc hz o).cell 4).trans rfl
 have e4': ∀o,(w.drew.alloc o).cell? ⟨p,4,none⟩=some v:=fun o=>((aH.alloc (w:=w.drew) hz o).cell 4).trans rfl
 have HZ:=aa hz;have HO:=aa aL;clear hz aL;go_enter func147,ntmps147;go_wp2_with fail;refine wp_region_noPanic ?_;refine wp_region_held_drew (S:=fun w'=>w'.cell? ⟨p,0,none⟩=some (.string s)∧w'.cell? ⟨p,1,none⟩=some (.int .i64 (at':Int))) (by kernel_rfl) ?_ (fun hHeld=>?_)
 ·(try dsimp only)
  first|done|go_keep|(refine⟨?_,?_⟩<;>(rw[mX _ _ _ _ (by simp)];assumption))
 refine wpAnyH_take (i:=0) (v:=?_) rfl (by kernel_rfl) (by kernel_rfl) (by kernel_rfl) (fun _ _ _ h=>h) (Or.inl ⟨by rfl,?_⟩) (by assumption) ?_
 rotate_left
 ·intro w hSw
  try dsimp only at hSw
  go_simp
  first|done|(with_reducible rfl)
 try simp only[Act.put,kj,dG,dH]
 refine wpAnyH_take (i:=1) (v:=?_) rfl (by kernel_rfl) (by kernel_rfl) (by kernel_rfl) (fun _ _ _ h=>h) (Or.inl ⟨by rfl,?_⟩) (by assumption) ?_
 rotate_left
 ·intro w hSw
  try dsimp only at hSw
  go_simp
  first|done|(with_reducible rfl)
 try simp only[Act.put,kj,dG,dH]
 refine wpAnyH_take (i:=2) (v:=?_) rfl (by kernel_rfl) (by kernel_rfl) (by kernel_rfl) (fun _ _ _ h=>h) (Or.inl ⟨by rfl,?_⟩) (by assumption) ?_
 rotate_left
 ·intro w hSw
  try dsimp only at hSw
  go_simp
  first|done|(with_reducible rfl)
 try simp only[Act.put,kj,dG,dH]
 refine wpAnyH_take (i:=3) (v:=?_) rfl (by kernel_rfl) (by kernel_rfl) (by kernel_rfl) (fun _ _ _ h=>h) (Or.inl ⟨by rfl,?_⟩) (by assumption) ?_
 rotate_left
 ·intro w hSw
  try dsimp only at hSw
  go_simp
  first|done|(with_reducible rfl)
 try simp only[Act.put,kj,dG,dH]
 refine wpAnyH_take (i:=5) (v:=?_) rfl (by kernel_rfl) (by kernel_rfl) (by kernel_rfl) (fun _ _ _ h=>h) (Or.inl ⟨by rfl,?_⟩) (by assumption) ?_
 rotate_left
 ·intro w hSw
  try dsimp only at hSw
  go_simp
  first|done|(with_reducible rfl)
 try simp only[Act.put,kj,dG,dH]
 refine wpAnyH_take (i:=6) (v:=?_) rfl (by kernel_rfl) (by kernel_rfl) (by kernel_rfl) (fun _ _ _ h=>h) (Or.inl ⟨by rfl,?_⟩) (by assumption) ?_
 rotate_left
 ·intro w hSw
  try dsimp only at hSw
  go_simp
  first|done|(with_reducible rfl)
 try simp only[Act.put,kj,dG,dH]
 refine wpAnyH_take (i:=7) (v:=?_) rfl (by kernel_rfl) (by kernel_rfl) (by kernel_rfl) (fun _ _ _ h=>h) (Or.inl ⟨by rfl,?_⟩) (by assumption) ?_
 rotate_left
 ·intro w hSw
  try dsimp only at hSw
  go_simp
  first|done|(with_reducible rfl)
 try simp only[Act.put,kj,dG,dH]
 refine wpAnyH_take (i:=8) (v:=?_) rfl (by kernel_rfl) (by kernel_rfl) (by kernel_rfl) (fun _ _ _ h=>h) (Or.inl ⟨by rfl,?_⟩) (by assumption) ?_
 rotate_left
 ·intro w hSw
  try dsimp only at hSw
  go_simp
  first|done|(with_reducible rfl)
 try simp only[Act.put,kj,dG,dH]
 refine wpAnyH_take (i:=9) (v:=?_) rfl (by kernel_rfl) (by kernel_rfl) (by kernel_rfl) (fun _ _ _ h=>h) (Or.inl ⟨by rfl,?_⟩) (by assumption) ?_
 rotate_left
 ·intro w hSw
  try dsimp only at hSw
  go_simp
  first|done|(with_reducible rfl)
 try simp only[Act.put,kj,dG,dH]
 refine wpAnyH_take (i:=10) (v:=?_) rfl (by kernel_rfl) (by kernel_rfl) (by kernel_rfl) (fun _ _ _ h=>h) (Or.inl ⟨by rfl,?_⟩) (by assumption) ?_
 rotate_left
 ·intro w hSw
  try dsimp only at hSw
  go_simp
  first|done|(with_reducible rfl)
 try simp only[Act.put,kj,dG,dH]
 refine wpAnyH_take (i:=11) (v:=?_) rfl (by kernel_rfl) (by kernel_rfl) (by kernel_rfl) (fun _ _ _ h=>h) (Or.inl ⟨by rfl,?_⟩) (by assumption) ?_
 rotate_left
 ·intro w hSw
  try dsimp only at hSw
  go_simp
  first|done|(with_reducible rfl)
 try simp only[Act.put,kj,dG,dH]
 refine wpAnyH_take (i:=12) (v:=?_) rfl (by kernel_rfl) (by kernel_rfl) (by kernel_rfl) (fun _ _ _ h=>h) (Or.inl ⟨by rfl,?_⟩) (by assumption) ?_
 rotate_left
 ·intro w hSw
  try dsimp only at hSw
  go_simp
  first|done|(with_reducible rfl)
 try simp only[Act.put,kj,dG,dH]
 refine wpAnyH_take (i:=13) (v:=?_) rfl (by kernel_rfl) (by kernel_rfl) (by kernel_rfl) (fun _ _ _ h=>h) (Or.inl ⟨by rfl,?_⟩) (by assumption) ?_
 rotate_left
 ·intro w hSw
  try dsimp only at hSw
  go_simp
  first|done|(with_reducible rfl)
 try simp only[Act.put,kj,dG,dH]
 refine wpAnyH_take (i:=14) (v:=?_) rfl (by kernel_rfl) (by kernel_rfl) (by kernel_rfl) (fun _ _ _ h=>h) (Or.inl ⟨by rfl,?_⟩) (by assumption) ?_
 rotate_left
 ·intro w hSw
  try dsimp only at hSw
  go_simp
  first|done|(with_reducible rfl)
 try simp only[Act.put,kj,dG,dH]
 refine wpAnyH_take (i:=15) (v:=?_) rfl (by kernel_rfl) (by kernel_rfl) (by kernel_rfl) (fun _ _ _ h=>h) (Or.inl ⟨by rfl,?_⟩) (by assumption) ?_
 rotate_left
 ·intro w hSw
  try dsimp only at hSw
  go_simp
  first|done|(with_reducible rfl)
 try simp only[Act.put,kj,dG,dH]
 refine wpAnyH_take (i:=16) (v:=?_) rfl (by kernel_rfl) (by kernel_rfl) (by kernel_rfl) (fun _ _ _ h=>h) (Or.inl ⟨by rfl,?_⟩) (by assumption) ?_
 rotate_left
 ·intro w hSw
  try dsimp only at hSw
  go_simp
  first|done|(with_reducible rfl)
 try simp only[Act.put,kj,dG,dH]
 refine wpAnyH_take (i:=17) (v:=?_) rfl (by kernel_rfl) (by kernel_rfl) (by kernel_rfl) (fun _ _ _ h=>h) (Or.inl ⟨by rfl,?_⟩) (by assumption) ?_
 rotate_left
 ·intro w hSw
  try dsimp only at hSw
  go_simp
  first|done|(with_reducible rfl)
 try simp only[Act.put,kj,dG,dH]
 refine wpAnyH_take (i:=18) (v:=?_) rfl (by kernel_rfl) (by kernel_rfl) (by kernel_rfl) (fun _ _ _ h=>h) (Or.inl ⟨by rfl,?_⟩) (by assumption) ?_
 rotate_left
 ·intro w hSw
  try dsimp only at hSw
  go_simp
  first|done|(with_reducible rfl)
 try simp only[Act.put,kj,dG,dH]
 refine wpAnyH_take (i:=19) (v:=?_) rfl (by kernel_rfl) (by kernel_rfl) (by kernel_rfl) (fun _ _ _ h=>h) (Or.inl ⟨by rfl,?_⟩) (by assumption) ?_
 rotate_left
 ·intro w hSw
  try dsimp only at hSw
  go_simp
  first|done|(with_reducible rfl)
 try simp only[Act.put,kj,dG,dH]
 refine wpAnyH_take (i:=20) (v:=?_) rfl (by kernel_rfl) (by kernel_rfl) (by kernel_rfl) (fun _ _ _ h=>h) (Or.inl ⟨by rfl,?_⟩) (by assumption) ?_
 rotate_left
 ·intro w hSw
  try dsimp only at hSw
  go_simp
  first|done|(with_reducible rfl)
 try simp only[Act.put,kj,dG,dH]
 refine wpAnyH_take (i:=21) (v:=?_) rfl (by kernel_rfl) (by kernel_rfl) (by kernel_rfl) (fun _ _ _ h=>h) (Or.inl ⟨by rfl,?_⟩) (by assumption) ?_
 rotate_left
 ·intro w hSw
  try dsimp only at hSw
  go_simp
  first|done|(with_reducible rfl)
 try simp only[Act.put,kj,dG,dH]
 refine wpAnyH_take (i:=22) (v:=?_) rfl (by kernel_rfl) (by kernel_rfl) (by kernel_rfl) (fun _ _ _ h=>h) (Or.inl ⟨by rfl,?_⟩) (by assumption) ?_
 rotate_left
 ·intro w hSw
  try dsimp only at hSw
  go_simp
  first|done|(with_reducible rfl)
 try simp only[Act.put,kj,dG,dH]
 refine wpAnyH_take (i:=23) (v:=?_) rfl (by kernel_rfl) (by kernel_rfl) (by kernel_rfl) (fun _ _ _ h=>h) (Or.inl ⟨by rfl,?_⟩) (by assumption) ?_
 rotate_left
 ·intro w hSw
  try dsimp only at hSw
  go_simp
  first|done|(with_reducible rfl)
 try simp only[Act.put,kj,dG,dH]
 refine wpAnyH_take (i:=24) (v:=?_) rfl (by kernel_rfl) (by kernel_rfl) (by kernel_rfl) (fun _ _ _ h=>h) (Or.inl ⟨by rfl,?_⟩) (by assumption) ?_
 rotate_left
 ·intro w hSw
  try dsimp only at hSw
  go_simp
  first|done|(with_reducible rfl)
 try simp only[Act.put,kj,dG,dH]
 refine wpAnyH_take (i:=25) (v:=?_) rfl (by kernel_rfl) (by kernel_rfl) (by kernel_rfl) (fun _ _ _ h=>h) (Or.inl ⟨by rfl,?_⟩) (by assumption) ?_
 rotate_left
 ·intro w hSw
  try dsimp only at hSw
  go_simp
  first|done|(with_reducible rfl)
 try simp only[Act.put,kj,dG,dH]
 refine wpAnyH_ready (rs:=[4,26]) (by kernel_rfl) (by simp) ?_;refine AllReadyH.cons (i:=4) rfl (fun K hK=>?_) ?_
 ·go_simp
  refine hK.out _ _ ?_ (fun hHeld=>?_)
  ·(try dsimp only)
   first|done|go_keep|(refine⟨?_,?_⟩<;>(rw[mX _ _ _ _ (by simp)];assumption))
  clear hK K
  try simp only[Act.put,kj,dG,dH]
  refine wpAnyH_ready (rs:=[26]) (by kernel_rfl) (by simp) ?_;refine AllReadyH.cons (i:=26) rfl (fun K hK=>?_) ?_
  ·go_simp
   refine hK.out _ _ ?_ (fun hHeld=>?_)
   ·(try dsimp only)
    first|done|go_keep|(refine⟨?_,?_⟩<;>(rw[mX _ _ _ _ (by simp)];assumption))
   clear hK K
   try simp only[Act.put,kj,dG,dH]
   refine wpAnyH_ready (rs:=[27]) (by kernel_rfl) (by simp) ?_;refine AllReadyH.cons (i:=27) rfl (fun K hK=>?_) ?_
   ·refine sH (w0:=w.drew) rfl (.tmp 11) (.tmp 33) 135 rfl base 139 (.agg #[.int .i64 0,.string ⟨#[]⟩,.int .i64 0]) 3 32 wh underlying135 rfl (by omega) v _ _ (by rfl) HO.out [.int .i64 (k:Int),.string (s.extract at' (at'+n)),.int .i64 (at':Int)] rfl (by rfl) (by intro u hu;simp at hu;rcases hu with rfl|rfl|rfl<;>rfl) (by unfold maxLen;omega) (by omega) (jt (pI gR HZ.out.lt)) ?_;intro v' w' ho hg;obtain⟨ao,n',c',rfl⟩:=wi ho;have ej:=Jw HZ.out HO.out hg;have d4:w'.cell? ⟨p,4,none⟩=some v:=(ej.cell 4).trans rfl;have f4:w'.frozen? ⟨p,4,none⟩=false:=ej.frozen 4;have f1:w'.frozen? ⟨p,1,none⟩=false:=ej.frozen 1;have d0:w'.cell? ⟨p,0,none⟩=some (.string s):=(ej.cell 0).trans rfl;have d1:w'.cell? ⟨p,1,none⟩=some (.int .i64 (at':Int)):=(ej.cell 1).trans rfl;have jg:=aa ej;have lD:=aa ho;have Xo:=aa hg;clear ej ho hg;refine hK.out _ _ ?_ (fun hHeld=>?_)
    ·(try dsimp only)
     first|done|go_keep|(refine⟨?_,?_⟩<;>(rw[mX _ _ _ _ (by simp)];assumption))
    clear hK K
    try simp only[Act.put,kj,dG,dH]
    refine wpAnyH_take (i:=28) (v:=?_) rfl (by kernel_rfl) (by kernel_rfl) (by kernel_rfl) (fun _ _ _ h=>h) (Or.inl ⟨by rfl,?_⟩) (by assumption) ?_
    rotate_left
    ·intro w hSw
     try dsimp only at hSw
     go_simp
     first|done|(with_reducible rfl)
    try simp only[Act.put,kj,dG,dH]
    refine wpAnyH_take (i:=29) (v:=?_) rfl (by kernel_rfl) (by kernel_rfl) (by kernel_rfl) (fun _ _ _ h=>h) (Or.inl ⟨by rfl,?_⟩) (by assumption) ?_
    rotate_left
    ·intro w hSw
     try dsimp only at hSw
     go_simp
     first|done|(with_reducible rfl)
    try simp only[Act.put,kj,dG,dH]
    refine wpAnyH_ready (rs:=[30]) (by kernel_rfl) (by simp) ?_;refine AllReadyH.cons (i:=30) rfl (fun K hK=>?_) ?_
    ·go_simp
     refine hK.out _ _ ?_ (fun hHeld=>?_)
     ·(try dsimp only)
      first|done|go_keep|(refine⟨?_,?_⟩<;>(rw[mX _ _ _ _ (by simp)];assumption))
     clear hK K
     try simp only[Act.put,kj,dG,dH]
     refine wpAnyH_done (by kernel_rfl) ?_ _;refine NoPanic.normal ?_;go_wp2_with fail;go_ret;have nh:=(aH.dw (aH.dw jg.out 4 (.slice ao n' c')) 1 (.int .i64 ((at':Int)+(n:Int))));refine⟨rfl,.slice ao n' c',?_,?_,?_⟩
     ·simpa [qY]using nh
     ·have h:=aF (i:=1) (aF (i:=4) lD.out jg.out (by decide) (.slice ao n' c')) (aH.dw jg.out 4 (.slice ao n' c')) (by decide) (.int .i64 ((at':Int)+(n:Int)));have e:(aK (ts++[⟨k,(s.data.toList.drop at').take n,at'⟩]))=aK ts++[.int .i64 (k:Int),.string (s.extract at' (at'+n)),.int .i64 (at':Int)]:=by
       rw[jH,Tok.cells];have:(⟨((s.data.toList.drop at').take n).toArray⟩:ByteArray)=s.extract at' (at'+n):=by
        rw[←mk_data (s.extract at' (at'+n)),Lib.extract_data,show at'+n-at'=n by omega]
       rw[this]
      rw[e,fT];exact h
     ·have au:=HZ.out.lt;have hb:=((aS base w).drew).grown Xo.out (jt (pI gR au)) (fun g hg=>(HO.out.lt g hg).1);exact(hb.setCell (p:=⟨p,4,none⟩) gR _).setCell (p:=⟨p,1,none⟩) gR _
    exact AllReadyH.nil
   exact AllReadyH.nil
  exact AllReadyH.nil
 refine AllReadyH.cons (i:=26) rfl (fun K hK=>?_) ?_
 ·go_simp
  refine hK.out _ _ ?_ (fun hHeld=>?_)
  ·(try dsimp only)
   first|done|go_keep|(refine⟨?_,?_⟩<;>(rw[mX _ _ _ _ (by simp)];assumption))
  clear hK K
  try simp only[Act.put,kj,dG,dH]
  refine wpAnyH_ready (rs:=[4]) (by kernel_rfl) (by simp) ?_;refine AllReadyH.cons (i:=4) rfl (fun K hK=>?_) ?_
  ·go_simp
   refine hK.out _ _ ?_ (fun hHeld=>?_)
   ·(try dsimp only)
    first|done|go_keep|(refine⟨?_,?_⟩<;>(rw[mX _ _ _ _ (by simp)];assumption))
   clear hK K
   try simp only[Act.put,kj,dG,dH]
   refine wpAnyH_ready (rs:=[27]) (by kernel_rfl) (by simp) ?_;refine AllReadyH.cons (i:=27) rfl (fun K hK=>?_) ?_
   ·refine sH (w0:=w.drew) rfl (.tmp 11) (.tmp 33) 135 rfl base 139 (.agg #[.int .i64 0,.string ⟨#[]⟩,.int .i64 0]) 3 32 wh underlying135 rfl (by omega) v _ _ (by rfl) HO.out [.int .i64 (k:Int),.string (s.extract at' (at'+n)),.int .i64 (at':Int)] rfl (by rfl) (by intro u hu;simp at hu;rcases hu with rfl|rfl|rfl<;>rfl) (by unfold maxLen;omega) (by omega) (jt (pI gR HZ.out.lt)) ?_;intro v' w' ho hg;obtain⟨ao,n',c',rfl⟩:=wi ho;have ej:=Jw HZ.out HO.out hg;have d4:w'.cell? ⟨p,4,none⟩=some v:=(ej.cell 4).trans rfl;have f4:w'.frozen? ⟨p,4,none⟩=false:=ej.frozen 4;have f1:w'.frozen? ⟨p,1,none⟩=false:=ej.frozen 1;have d0:w'.cell? ⟨p,0,none⟩=some (.string s):=(ej.cell 0).trans rfl;have d1:w'.cell? ⟨p,1,none⟩=some (.int .i64 (at':Int)):=(ej.cell 1).trans rfl;have jg:=aa ej;have lD:=aa ho;have Xo:=aa hg;clear ej ho hg;refine hK.out _ _ ?_ (fun hHeld=>?_)
    ·(try dsimp only)
     first|done|go_keep|(refine⟨?_,?_⟩<;>(rw[mX _ _ _ _ (by simp)];assumption))
    clear hK K
    try simp only[Act.put,kj,dG,dH]
    refine wpAnyH_take (i:=28) (v:=?_) rfl (by kernel_rfl) (by kernel_rfl) (by kernel_rfl) (fun _ _ _ h=>h) (Or.inl ⟨by rfl,?_⟩) (by assumption) ?_
    rotate_left
    ·intro w hSw
     try dsimp only at hSw
     go_simp
     first|done|(with_reducible rfl)
    try simp only[Act.put,kj,dG,dH]
    refine wpAnyH_take (i:=29) (v:=?_) rfl (by kernel_rfl) (by kernel_rfl) (by kernel_rfl) (fun _ _ _ h=>h) (Or.inl ⟨by rfl,?_⟩) (by assumption) ?_
    rotate_left
    ·intro w hSw
     try dsimp only at hSw
     go_simp
     first|done|(with_reducible rfl)
    try simp only[Act.put,kj,dG,dH]
    refine wpAnyH_ready (rs:=[30]) (by kernel_rfl) (by simp) ?_;refine AllReadyH.cons (i:=30) rfl (fun K hK=>?_) ?_
    ·go_simp
     refine hK.out _ _ ?_ (fun hHeld=>?_)
     ·(try dsimp only)
      first|done|go_keep|(refine⟨?_,?_⟩<;>(rw[mX _ _ _ _ (by simp)];assumption))
     clear hK K
     try simp only[Act.put,kj,dG,dH]
     refine wpAnyH_done (by kernel_rfl) ?_ _;refine NoPanic.normal ?_;go_wp2_with fail;go_ret;have nh:=(aH.dw (aH.dw jg.out 4 (.slice ao n' c')) 1 (.int .i64 ((at':Int)+(n:Int))));refine⟨rfl,.slice ao n' c',?_,?_,?_⟩
     ·simpa [qY]using nh
     ·have h:=aF (i:=1) (aF (i:=4) lD.out jg.out (by decide) (.slice ao n' c')) (aH.dw jg.out 4 (.slice ao n' c')) (by decide) (.int .i64 ((at':Int)+(n:Int)));have e:(aK (ts++[⟨k,(s.data.toList.drop at').take n,at'⟩]))=aK ts++[.int .i64 (k:Int),.string (s.extract at' (at'+n)),.int .i64 (at':Int)]:=by
       rw[jH,Tok.cells];have:(⟨((s.data.toList.drop at').take n).toArray⟩:ByteArray)=s.extract at' (at'+n):=by
        rw[←mk_data (s.extract at' (at'+n)),Lib.extract_data,show at'+n-at'=n by omega]
       rw[this]
      rw[e,fT];exact h
     ·have au:=HZ.out.lt;have hb:=((aS base w).drew).grown Xo.out (jt (pI gR au)) (fun g hg=>(HO.out.lt g hg).1);exact(hb.setCell (p:=⟨p,4,none⟩) gR _).setCell (p:=⟨p,1,none⟩) gR _
    exact AllReadyH.nil
   exact AllReadyH.nil
  exact AllReadyH.nil
 exact AllReadyH.nil
theorem cW (h:i<x.length):an (x++y) i=an x i:=by
 simp[an,lf,TB h]
theorem eC {p:UInt8→Bool} (hi:i≤x.length) (h:ae p (x++y) i≤x.length):ae p x i=ae p (x++y) i:=by
 have e:(x++y).drop i=x.drop i++y:=IC hi;unfold ae at h ⊢
 rw[e]at h ⊢
 obtain⟨z,hz⟩: ∃z,z=x.drop i:=⟨_,rfl⟩;have hzl:z.length=x.length-i:=by rw[hz];simp
 rw[←hz]at h ⊢
 clear hz e;have h2:((z++y).takeWhile p).length≤z.length:=by omega
 have h3: ∀z:List UInt8,((z++y).takeWhile p).length≤z.length→(z.takeWhile p).length=((z++y).takeWhile p).length:=by
  intro z;induction z with
  |nil=>intro h;exact(Nat.le_zero.1 h).symm
  |cons c r ih=>
   intro h;simp only[pJ,rf]at*
   split
   ·rename_i hp;rw[ar hp]at h;simp at h;simp[ih h]
   ·rfl
 rw[h3 z h2]
theorem zb {p:UInt8→Bool} (hi:i≤x.length) (hc:p c=false):ae p (x++c::y) i=ae p x i:=by
 refine(eC hi ?_).symm;unfold ae;rw[IC hi];have h3: ∀z:List UInt8,((z++c::y).takeWhile p).length≤z.length:=by
  intro z;induction z with
  |nil=>simp[rf,hc]
  |cons d r ih=>
   simp only[pJ,rf];split
   ·simp;omega
   ·simp
 have:=h3 (x.drop i);simp at this ⊢
 omega
theorem MG {p:UInt8→Bool} : ∀{l:List UInt8} {i:Nat},ae p l i<l.length→p (an l (ae p l i))=false:=by
 intro l i;unfold ae;obtain⟨z,hz⟩: ∃z,z=l.drop i:=⟨_,rfl⟩;intro h;have h1:an l (i+(z.takeWhile p).length)=an z (z.takeWhile p).length:=by rw[hz,gy]
 rw[←hz]at h ⊢
 rw[h1];have hl:(z.takeWhile p).length<z.length:=by rw[hz]at h ⊢;simp at h ⊢;omega
 clear h h1 hz;induction z with
 |nil=>simp at hl
 |cons c r ih=>
  simp only[rf]at*
  split
  ·rename_i hp;rw[ar hp]at hl;simp only[dI,Nat.add_lt_add_iff_right]at hl;exact ih hl
  ·rename_i hp;simpa [an]using hp
theorem du {p:UInt8→Bool} (h:i<l.length) (hp:p (an l i)=false):ae p l i=i:=by
 refine wK h ?_;rw[←hp,an,lf,lB h];rfl
theorem Kb (h:2<x.length):aO (x++y)=aO x:=by
 unfold aO;rw[cW (by omega),cW (by omega),cW h,dQ h,dQ (by simp;omega)]
theorem Ck (h:aI (x++y)≤x.length):aI x=aI (x++y):=by
 have h0:ae digit (x++y) 0≤aI (x++y):=by
  unfold aI;split
  ·have:=aV digit (x++y) (ae digit (x++y) 0+1);omega
  ·split
   ·omega
   ·omega
 have h1:=eC (p:=digit) (x:=x) (y:=y) (aT _) (by omega);unfold aI at*
 rw[h1];generalize ae digit (x++y) 0=k at*
 by_cases c1:k<(x++y).length∧(an (x++y) k).toNat=46∧0<k
 ·rw[ar c1]at h ⊢
  have h2:=aV digit (x++y) (k+1);have hk:k<x.length:=by omega
  rw[cW hk]at c1;rw[ar ⟨hk,c1.2⟩];exact eC (by omega) h
 ·rw[af c1]at h ⊢
  rw[af (by rintro⟨a,b,c⟩;exact c1 ⟨by simp;omega,by rw[cW a];exact b,c⟩)];by_cases c2:k=0∧1<(x++y).length∧(an (x++y) 0).toNat=46∧digit (an (x++y) 1)=true
  ·rw[ar c2]at h ⊢
   have h2:2≤ae digit (x++y) 1:=by
    have:=iD (p:=digit) (l:=x++y) (i:=1) c2.2.1 (by
     have:=c2.2.2.2;rw[an,lf,lB c2.2.1]at this;exact this)
    rw[←this];exact aV digit _ 2
   rw[cW (by omega),cW (by omega)]at c2;rw[ar ⟨c2.1,by omega,c2.2.2⟩];exact eC (by omega) h
  ·rw[af c2];rw[af (by rintro⟨a,b,c,d⟩;exact c2 ⟨a,by simp;omega,by rw[cW (by omega)];exact c,by rw[cW b];exact d⟩)]
theorem Cl (hi:i≤x.length) (h:cQ (x++y) i≤x.length):cQ x i=cQ (x++y) i:=by
 by_cases hx:x.length≤i
 ·have h1:cQ x i=i:=by rw[cQ,ar (.inl hx)]
  have h2:=lZ (x++y) i (by simp;omega);omega
 ·have ha:an (x++y) i=an x i:=cW (by omega);unfold cQ at h ⊢
  rw[ha]at h ⊢
  cases he:tj (an x i)
  ·rw[ar (.inr rfl),ar (.inr rfl)]
  ·rw[he]at h;have n1: ¬((x++y).length≤i∨true=false):=by simp;omega
   have n2: ¬(x.length≤i∨true=false):=by simp;omega
   rw[af n1]at h;rw[af n1,af n2];by_cases hs:i+1<x.length
   ·have hj:dF (x++y) i=dF x i:=by
     unfold dF;rw[cW hs];by_cases hp:zV (an x (i+1))=true
     ·rw[ar ⟨by simp;omega,hp⟩,ar ⟨hs,hp⟩]
     ·rw[af (by intro h;exact hp h.2),af (by intro h;exact hp h.2)]
    have hb:=nL x i (by omega);rw[hj]at h ⊢
    by_cases hd:ae digit (x++y) (dF x i)≤x.length
    ·rw[eC hb.2 hd]
    ·have lW:dF x i<ae digit (x++y) (dF x i):=by omega
     rw[ar lW]at h;omega
   ·
    have hj:dF x i=i+1:=by rw[dF,af (by intro h;exact hs h.1)]
    rw[hj,bO (by omega),af (by omega)];have hb:=nL (x++y) i (by simp;omega);by_cases hd:dF (x++y) i<ae digit (x++y) (dF (x++y) i)
    ·rw[ar hd]at h;omega
    ·rw[af hd]
theorem DR (h:ag (x++y)≤x.length):ag x=ag (x++y):=by
 by_cases h2:2<x.length
 ·unfold ag at h ⊢
  rw[Kb h2]at h ⊢
  cases hh:aO x
  ·rw[hh]at h;simp only[lh,iE]at h ⊢
   have hle:aI (x++y)≤x.length:=by
    by_cases h0:aI (x++y)=0
    ·omega
    ·rw[af h0]at h;have:=lZ (x++y) _ (l9 (x++y));omega
   rw[Ck hle];by_cases h0:aI (x++y)=0
   ·rw[ar h0,ar h0]
   ·rw[af h0]at h;rw[af h0,af h0];exact Cl hle h
  ·rw[hh]at h;simp only[kJ]at h ⊢
   exact eC (by omega) h
 ·have hn:aO x=false:=by simp[aO];omega
  have xf:aO (x++y)=false:=by
   cases hh:aO (x++y)
   ·rfl
   ·have h3:3≤ag (x++y):=by
     have WE:=hh;simp only[aO,kF,uk]at WE;rw[ag,hh,ar rfl];have:=iD (p:=gS) (l:=x++y) (i:=2) WE.1.1.1 (by
      have:=WE.2;rw[an,lf,lB WE.1.1.1]at this;exact this)
     rw[←this];exact aV gS _ 3
    omega
  unfold ag at h ⊢
  rw[xf]at h;rw[hn,xf];simp only[lh,iE]at h ⊢
  have hle:aI (x++y)≤x.length:=by
   by_cases h0:aI (x++y)=0
   ·omega
   ·rw[af h0]at h;have:=lZ (x++y) _ (l9 (x++y));omega
  rw[Ck hle];by_cases h0:aI (x++y)=0
  ·rw[ar h0,ar h0]
  ·rw[af h0]at h;rw[af h0,af h0];exact Cl hle h
theorem Ge: ∀(f:Nat) (l:List UInt8) (fin next sum:Nat),fin≤(Ee f l fin next sum).1
 |0,_,_,_,_=>aP _
 |f+1,l,fin,next,sum=>by
  rw[Ee];split
  ·exact aP _
  ·have h1:=Ge f l (aJ l (ae digit l fin)).2 ((aJ l (ae digit l fin)).1+1) (jz (sat ((l.drop fin).take (ae digit l fin-fin))) (aJ l (ae digit l fin)).1 sum);have h2:=(jW l (ae digit l fin)).1;have h3:=aV digit l fin;omega
theorem Cm (h:l.length≤i):aJ l i=(7,i):=by rw[aJ,ar h]
theorem MH (hi:i<x.length) (h:(aJ (x++y) i).2≤x.length):aJ x i=aJ (x++y) i:=by
 have h1: ¬(x++y).length≤i:=by simp;omega
 unfold aJ at h ⊢
 rw[af h1]at h;rw[af h1,af (by omega)];rw[cW hi]at h ⊢
 by_cases hm:an x i=109∧i+1<(x++y).length∧an (x++y) (i+1)=115
 ·rw[ar hm]at h;simp only at h;rw[ar hm,ar ⟨hm.1,by omega,by rw[←cW (y:=y) (by omega)];exact hm.2.2⟩]
 ·rw[af hm,af (by rintro⟨a,b,c⟩;exact hm ⟨a,by simp;omega,by rw[cW b];exact c⟩)]
theorem Kc (hi:i<x.length) (h:x.length<(aJ (x++y) i).2):(aJ x i).1=4∧(aJ (x++y) i).1=6:=by
 have h1: ¬(x++y).length≤i:=by simp;omega
 unfold aJ at h ⊢
 rw[af h1]at h;rw[af h1,af (by omega)];rw[cW hi]at h ⊢
 by_cases hm:an x i=109∧i+1<(x++y).length∧an (x++y) (i+1)=115
 ·rw[ar hm]at h;simp only at h;rw[ar hm,af (by omega),hm.1];exact⟨by rw[af (by decide)];show Xh 109=4;decide,rfl⟩
 ·rw[af hm]at h;split at h<;>(simp only at h;omega)
theorem tN (h:i+n≤x.length):((x++y).drop i).take n=(x.drop i).take n:=by
 rw[IC (by omega),A4 (by simp;omega)]
theorem OV {x y:List UInt8}: ∀(f fin next sum:Nat),fin≤x.length→next≤7→(Ee f (x++y) fin next sum).1≤x.length→Ee f x fin next sum=Ee f (x++y) fin next sum
 |0,_,_,_,_,_,_=>rfl
 |f+1,fin,next,sum,hf,hn,h=>by
  rw[Ee]at h;rw[Ee,Ee];have lW:=aV digit (x++y) fin;by_cases hk:ae digit (x++y) fin≤x.length
  ·have tX:=eC hf hk;rw[tX];rcases dD (ae digit (x++y) fin) x.length with au|LN
   ·generalize ae digit (x++y) fin=k at*
    by_cases hu:(aJ (x++y) k).2≤x.length
    ·rw[MH au hu];by_cases hc:k=fin∨(aJ (x++y) k).1<next∨(aJ (x++y) k).1=7
     ·rw[ar hc,ar hc]
     ·rw[af hc]at h;rw[af hc,af hc,tN (by omega)];have hu7:=(jW (x++y) k).2.2;rw[tN (by omega)]at h;exact OV f _ _ _ hu (by omega) h
    ·obtain⟨h4,h6⟩:=Kc (x:=x) (y:=y) au (by omega);by_cases hc:k=fin∨(aJ (x++y) k).1<next∨(aJ (x++y) k).1=7
     ·rw[ar hc,ar (by rw[h4];omega)]
     ·rw[af hc]at h;have:=Ge f (x++y) (aJ (x++y) k).2 ((aJ (x++y) k).1+1) (jz (sat (((x++y).drop fin).take (k-fin))) (aJ (x++y) k).1 sum);omega
   ·have akt:ae digit (x++y) fin=x.length:=by omega
    rw[akt]at h ⊢
    rw[Cm (aP _),ar (.inr (.inr rfl))];by_cases hc:x.length=fin∨(aJ (x++y) x.length).1<next∨(aJ (x++y) x.length).1=7
    ·rw[ar hc]
    ·rw[af hc]at h;have h1:=Ge f (x++y) (aJ (x++y) x.length).2 ((aJ (x++y) x.length).1+1) (jz (sat (((x++y).drop fin).take (x.length-fin))) (aJ (x++y) x.length).1 sum);have h2:x.length<(aJ (x++y) x.length).2:=by
      unfold aJ at hc ⊢
      split
      ·rename_i h3;rw[ar h3]at hc;simp at hc
      ·rename_i h3;rw[af h3]at hc;split
       ·simp
       ·rename_i h4;rw[af h4]at hc;split
        ·rename_i h5;rw[ar h5]at hc;simp at hc
        ·simp
     omega
  ·
   have hx:ae digit x fin=x.length:=by
    have h1:=bI digit x fin hf;rcases dD (ae digit x fin) x.length with au|LN
    ·exfalso;have h2:=MG au;have h3:ae digit (x++y) fin=ae digit x fin:=by
      obtain⟨c,r,hcr⟩: ∃c r,x.drop (ae digit x fin)=c::r:=by
       cases hd:x.drop (ae digit x fin)with
       |nil=>have:=bT List.length hd;simp at this;omega
       |cons c r=>exact⟨c,r,rfl⟩
      have hc:c=an x (ae digit x fin):=by
       have:=gy x (ae digit x fin) 0;rw[hcr]at this;simpa [an]using this
      have hx:x++y=x.take (ae digit x fin)++c::(r++y):=by
       conv=>lhs;rw[←tB (ae digit x fin) x,hcr]
       simp
      have ml:x=x.take (ae digit x fin)++c::r:=by
       conv=>lhs;rw[←tB (ae digit x fin) x,hcr]
      have hfl:fin≤(x.take (ae digit x fin)).length:=by
       have:=aV digit x fin;simp;omega
      have hd:digit c=false:=by rw[hc];exact h2
      have e1:=zb (p:=digit) (y:=r++y) hfl hd;have e2:=zb (p:=digit) (y:=r) hfl hd;rw[←hx]at e1;rw[←ml]at e2;rw[e1,←e2]
     omega
    ·omega
   rw[hx,Cm (aP _),ar (.inr (.inr rfl))];by_cases hc:ae digit (x++y) fin=fin∨(aJ (x++y) (ae digit (x++y) fin)).1<next∨(aJ (x++y) (ae digit (x++y) fin)).1=7
   ·rw[ar hc]
   ·rw[af hc]at h;have h1:=Ge f (x++y) (aJ (x++y) (ae digit (x++y) fin)).2 ((aJ (x++y) (ae digit (x++y) fin)).1+1) (jz (sat (((x++y).drop fin).take (ae digit (x++y) fin-fin))) (aJ (x++y) (ae digit (x++y) fin)).1 sum);have h2:=(jW (x++y) (ae digit (x++y) fin)).1;omega
theorem CU (h:aW (x++y)≤x.length):aW x=aW (x++y):=by
 unfold aW measure at*
 rw[OV 8 0 0 0 (aT _) (by omega) h]
def LZ (w:World) (p:Nat) (s:ByteArray) (at':Nat) (br sq:Bool) (v:Value) (er:Nat):Prop:=aH w p 151 #[.string s,.int .i64 (at':Int),.bool br,.bool sq,v,.int .i64 (er:Int)]
theorem E4 (hz:LZ w p s at' br sq v er) (ho:w.ownsRow base 139 3 v n xs) (hg:w.drew.grownBy w' v.ownBlock):LZ w' p s at' br sq v er:=
 aH.grown (w:=w.drew) hz hg (dL (e:=139) ho hz (by decide)).symm
theorem Jy {q:Nat} (hz:aH w q 139 cs) (hv:v.ownBlock≠some q) (hg:w.drew.grownBy w' v.ownBlock):aH w' q 139 cs:=
 aH.grown (w:=w.drew) hz hg hv.symm
theorem UR (w:World) (base p:Nat) (s:ByteArray) (at' k n:Nat) (x y:Int) (hx:x=(k:Int)) (hy:y=(n:Int)) (br sq:Bool) (v:Value) (ts:List Tok) (hs:s.size≤281474976710656) (hn:at'+n≤s.size) (hk:k≤6)
  (hz:LZ w p s at' br sq v 0) (aL:w.ownsRow base 139 3 v ts.length (aK ts)) (hlen:ts.length≤1099511627776) (gR:base≤p):
  Calls prog 109 #[.pointer (some ⟨p,0,none⟩),.int .i64 x,.int .i64 y] w fun e w'=>e= .returned (.tuple #[])∧
   ∃v',LZ w' p s (at'+n) br sq v' 0∧w'.ownsRow base 139 3 v' (ts++[(⟨k,(s.data.toList.drop at').take n,at'⟩:Tok)]).length (aK (ts++[(⟨k,(s.data.toList.drop at').take n,at'⟩:Tok)]))∧Below base w w':=by
 subst hx hy;have hw:IntKind.i64.wrap ((at':Int)+(n:Int))=((at'+n:Nat):Int):=by rw[oG];omega
 have q1:(0≤(at':Int)+(n:Int))=True:=by simp;omega
 have q2:((at':Int)+(n:Int)≤(s.size:Int))=True:=by simp;omega
 have q3:((at':Int)≤(at':Int)+(n:Int))=True:=by simp;omega
 have q4:((at':Int)+(n:Int)).toNat=at'+n:=by omega
 have c0:w.cell? ⟨p,0,none⟩=some (.string s):=by rw[hz.cell];rfl
 have c1:w.cell? ⟨p,1,none⟩=some (.int .i64 (at':Int)):=by rw[hz.cell];rfl
 have HZ:=aa hz;have HO:=aa aL;clear hz aL;go_enter func109,ntmps109;go_wp2_with fail;go_region_held3 (fun w'=>w'.cell? ⟨p,0,none⟩=some (.string s)∧w'.cell? ⟨p,1,none⟩=some (.int .i64 (at':Int))) (first|go_keep) (first|fail);rename_i hAB;clear hAB c0 c1;obtain⟨q,hq⟩: ∃q,q=w.heap.size:=⟨_,rfl⟩;have au:=HZ.out.lt;have hpq:p<q:=by omega
 have HVQ:Hid (v.ownBlock≠some q):=aa (fun h=>by have:=(HO.out.lt q h).2;omega);have db:LZ (w.alloc (.cells #[.int .i64 (k:Int),.string (s.extract at' (at'+n)),.int .i64 (at':Int)] 139)).drew p s at' br sq v 0:=aH.drew (aH.alloc HZ.out _);have uY:(w.alloc (.cells #[.int .i64 (k:Int),.string (s.extract at' (at'+n)),.int .i64 (at':Int)] 139)).drew.ownsRow base 139 3 v ts.length (aK ts):=HO.out.alloc _;have Eg:aH (w.alloc (.cells #[.int .i64 (k:Int),.string (s.extract at' (at'+n)),.int .i64 (at':Int)] 139)).drew q 139 #[.int .i64 (k:Int),.string (s.extract at' (at'+n)),.int .i64 (at':Int)]:=by
  rw[hq];exact aH.drew (aH.new w _ _)
 have aU:Below base w (w.alloc (.cells #[.int .i64 (k:Int),.string (s.extract at' (at'+n)),.int .i64 (at':Int)] 139)).drew:=((aS base w).alloc (by omega) _).drew;rw[←hq];generalize (w.alloc (.cells #[.int .i64 (k:Int),.string (s.extract at' (at'+n)),.int .i64 (at':Int)] 139)).drew=w1 at db uY Eg aU ⊢
 have c4:w1.cell? ⟨p,4,none⟩=some v:=by rw[db.cell];rfl
 have e4: ∀o,(w1.alloc o).cell? ⟨p,4,none⟩=some v:=fun o=>((aH.alloc db o).cell 4).trans rfl
 have e4': ∀o,(w1.drew.alloc o).cell? ⟨p,4,none⟩=some v:=fun o=>((aH.alloc (w:=w1.drew) db o).cell 4).trans rfl
 have g0:w1.cell? ⟨q,0,none⟩=some (.int .i64 (k:Int)):=(Eg.cell 0).trans rfl;have g1:w1.cell? ⟨q,1,none⟩=some (.string (s.extract at' (at'+n))):=(Eg.cell 1).trans rfl;have g2:w1.cell? ⟨q,2,none⟩=some (.int .i64 (at':Int)):=(Eg.cell 2).trans rfl;have WG:Hid (base≤w1.drew.heap.size):=aa (jt (pI gR db.lt));have re:=aa db;have qB:=aa uY;have HQ:=aa Eg;have bZ:=aa aU;clear db uY Eg aU hq au;go_wp2_with fail;refine wp_region_noPanic ?_;refine wp_region_held_drew (S:=fun w'=>w'.cell? ⟨q,0,none⟩=some (.int .i64 (k:Int))∧w'.cell? ⟨q,1,none⟩=some (.string (s.extract at' (at'+n)))∧w'.cell? ⟨q,2,none⟩=some (.int .i64 (at':Int))) (by kernel_rfl) ?_ (fun hHeld=>?_)
 ·(try dsimp only)
  first|done|go_keep|(refine⟨?_,?_,?_⟩<;>(rw[mX _ _ _ _ (by simp)];assumption))
 refine wpAnyH_take (i:=0) (v:=?_) rfl (by kernel_rfl) (by kernel_rfl) (by kernel_rfl) (fun _ _ _ h=>h) (Or.inl ⟨by rfl,?_⟩) (by assumption) ?_
 rotate_left
 ·intro w hSw
  try dsimp only at hSw
  go_simp
  first|done|(with_reducible rfl)
 try simp only[Act.put,kj,dG,dH]
 refine wpAnyH_take (i:=1) (v:=?_) rfl (by kernel_rfl) (by kernel_rfl) (by kernel_rfl) (fun _ _ _ h=>h) (Or.inl ⟨by rfl,?_⟩) (by assumption) ?_
 rotate_left
 ·intro w hSw
  try dsimp only at hSw
  go_simp
  first|done|(with_reducible rfl)
 try simp only[Act.put,kj,dG,dH]
 refine wpAnyH_take (i:=2) (v:=?_) rfl (by kernel_rfl) (by kernel_rfl) (by kernel_rfl) (fun _ _ _ h=>h) (Or.inl ⟨by rfl,?_⟩) (by assumption) ?_
 rotate_left
 ·intro w hSw
  try dsimp only at hSw
  go_simp
  first|done|(with_reducible rfl)
 try simp only[Act.put,kj,dG,dH]
 refine wpAnyH_take (i:=3) (v:=?_) rfl (by kernel_rfl) (by kernel_rfl) (by kernel_rfl) (fun _ _ _ h=>h) (Or.inl ⟨by rfl,?_⟩) (by assumption) ?_
 rotate_left
 ·intro w hSw
  try dsimp only at hSw
  go_simp
  first|done|(with_reducible rfl)
 try simp only[Act.put,kj,dG,dH]
 refine wpAnyH_take (i:=5) (v:=?_) rfl (by kernel_rfl) (by kernel_rfl) (by kernel_rfl) (fun _ _ _ h=>h) (Or.inl ⟨by rfl,?_⟩) (by assumption) ?_
 rotate_left
 ·intro w hSw
  try dsimp only at hSw
  go_simp
  first|done|(with_reducible rfl)
 try simp only[Act.put,kj,dG,dH]
 refine wpAnyH_ready (rs:=[4,6]) (by kernel_rfl) (by simp) ?_;refine AllReadyH.cons (i:=4) rfl (fun K hK=>?_) ?_
 ·go_simp
  refine hK.out _ _ ?_ (fun hHeld=>?_)
  ·(try dsimp only)
   first|done|go_keep|(refine⟨?_,?_,?_⟩<;>(rw[mX _ _ _ _ (by simp)];assumption))
  clear hK K
  try simp only[Act.put,kj,dG,dH]
  refine wpAnyH_ready (rs:=[6]) (by kernel_rfl) (by simp) ?_;refine AllReadyH.cons (i:=6) rfl (fun K hK=>?_) ?_
  ·go_simp
   refine hK.out _ _ ?_ (fun hHeld=>?_)
   ·(try dsimp only)
    first|done|go_keep|(refine⟨?_,?_,?_⟩<;>(rw[mX _ _ _ _ (by simp)];assumption))
   clear hK K
   try simp only[Act.put,kj,dG,dH]
   refine wpAnyH_ready (rs:=[7]) (by kernel_rfl) (by simp) ?_;refine AllReadyH.cons (i:=7) rfl (fun K hK=>?_) ?_
   ·refine sH (w0:=w1.drew) rfl (.tmp 32) (.tmp 34) 135 rfl base 139 (.agg #[.int .i64 0,.string ⟨#[]⟩,.int .i64 0]) 3 32 wh underlying135 rfl (by omega) v _ _ (by rfl) qB.out [.int .i64 (k:Int),.string (s.extract at' (at'+n)),.int .i64 (at':Int)] rfl (by rfl) (by intro u hu;simp at hu;rcases hu with rfl|rfl|rfl<;>rfl) (by unfold maxLen;omega) (by omega) WG.out ?_;intro v' w' ho hg;obtain⟨ao,n',c',rfl⟩:=wi ho;have ej:=E4 re.out qB.out hg;have tY:=Jy HQ.out HVQ.out hg;have d4:w'.cell? ⟨p,4,none⟩=some v:=(ej.cell 4).trans rfl;have f4:w'.frozen? ⟨p,4,none⟩=false:=ej.frozen 4;have f1:w'.frozen? ⟨p,1,none⟩=false:=ej.frozen 1;have d1:w'.cell? ⟨p,1,none⟩=some (.int .i64 (at':Int)):=(ej.cell 1).trans rfl;have y0:w'.cell? ⟨q,0,none⟩=some (.int .i64 (k:Int)):=(tY.cell 0).trans rfl;have y1:w'.cell? ⟨q,1,none⟩=some (.string (s.extract at' (at'+n))):=(tY.cell 1).trans rfl;have y2:w'.cell? ⟨q,2,none⟩=some (.int .i64 (at':Int)):=(tY.cell 2).trans rfl;have jg:=aa ej;have lD:=aa ho;have Xo:=aa hg;clear ej ho hg tY;refine hK.out _ _ ?_ (fun hHeld=>?_)
    ·(try dsimp only)
     first|done|go_keep|(refine⟨?_,?_,?_⟩<;>(rw[mX _ _ _ _ (by simp)];assumption))
    clear hK K
    try simp only[Act.put,kj,dG,dH]
    refine wpAnyH_take (i:=8) (v:=?_) rfl (by kernel_rfl) (by kernel_rfl) (by kernel_rfl) (fun _ _ _ h=>h) (Or.inl ⟨by rfl,?_⟩) (by assumption) ?_
    rotate_left
    ·intro w hSw
     try dsimp only at hSw
     go_simp
     first|done|(with_reducible rfl)
    try simp only[Act.put,kj,dG,dH]
    refine wpAnyH_take (i:=9) (v:=?_) rfl (by kernel_rfl) (by kernel_rfl) (by kernel_rfl) (fun _ _ _ h=>h) (Or.inl ⟨by rfl,?_⟩) (by assumption) ?_
    rotate_left
    ·intro w hSw
     try dsimp only at hSw
     go_simp
     first|done|(with_reducible rfl)
    try simp only[Act.put,kj,dG,dH]
    refine wpAnyH_ready (rs:=[10]) (by kernel_rfl) (by simp) ?_;refine AllReadyH.cons (i:=10) rfl (fun K hK=>?_) ?_
    ·go_simp
     refine hK.out _ _ ?_ (fun hHeld=>?_)
     ·(try dsimp only)
      first|done|go_keep|(refine⟨?_,?_,?_⟩<;>(rw[mX _ _ _ _ (by simp)];assumption))
     clear hK K
     try simp only[Act.put,kj,dG,dH]
     refine wpAnyH_done (by kernel_rfl) ?_ _;refine NoPanic.normal ?_;go_wp2_with fail;go_end0;have nh:=(aH.dw (aH.dw jg.out 4 (.slice ao n' c')) 1 (.int .i64 ((at':Int)+(n:Int))));refine⟨rfl,.slice ao n' c',?_,?_,?_⟩
     ·simpa [LZ]using nh
     ·have h:=aF (i:=1) (aF (i:=4) lD.out jg.out (by decide) (.slice ao n' c')) (aH.dw jg.out 4 (.slice ao n' c')) (by decide) (.int .i64 ((at':Int)+(n:Int)));have e:(aK (ts++[⟨k,(s.data.toList.drop at').take n,at'⟩]))=aK ts++[.int .i64 (k:Int),.string (s.extract at' (at'+n)),.int .i64 (at':Int)]:=by
       rw[jH,Tok.cells];have:(⟨((s.data.toList.drop at').take n).toArray⟩:ByteArray)=s.extract at' (at'+n):=by
        rw[←mk_data (s.extract at' (at'+n)),Lib.extract_data,show at'+n-at'=n by omega]
       rw[this]
      rw[e,fT];exact h
     ·have hb:=(bZ.out.drew).grown Xo.out WG.out (fun g hg=>(qB.out.lt g hg).1);exact(hb.setCell (p:=⟨p,4,none⟩) gR _).setCell (p:=⟨p,1,none⟩) gR _
    exact AllReadyH.nil
   exact AllReadyH.nil
  exact AllReadyH.nil
 refine AllReadyH.cons (i:=6) rfl (fun K hK=>?_) ?_
 ·go_simp
  refine hK.out _ _ ?_ (fun hHeld=>?_)
  ·(try dsimp only)
   first|done|go_keep|(refine⟨?_,?_,?_⟩<;>(rw[mX _ _ _ _ (by simp)];assumption))
  clear hK K
  try simp only[Act.put,kj,dG,dH]
  refine wpAnyH_ready (rs:=[4]) (by kernel_rfl) (by simp) ?_;refine AllReadyH.cons (i:=4) rfl (fun K hK=>?_) ?_
  ·go_simp
   refine hK.out _ _ ?_ (fun hHeld=>?_)
   ·(try dsimp only)
    first|done|go_keep|(refine⟨?_,?_,?_⟩<;>(rw[mX _ _ _ _ (by simp)];assumption))
   clear hK K
   try simp only[Act.put,kj,dG,dH]
   refine wpAnyH_ready (rs:=[7]) (by kernel_rfl) (by simp) ?_;refine AllReadyH.cons (i:=7) rfl (fun K hK=>?_) ?_
   ·refine sH (w0:=w1.drew) rfl (.tmp 32) (.tmp 34) 135 rfl base 139 (.agg #[.int .i64 0,.string ⟨#[]⟩,.int .i64 0]) 3 32 wh underlying135 rfl (by omega) v _ _ (by rfl) qB.out [.int .i64 (k:Int),.string (s.extract at' (at'+n)),.int .i64 (at':Int)] rfl (by rfl) (by intro u hu;simp at hu;rcases hu with rfl|rfl|rfl<;>rfl) (by unfold maxLen;omega) (by omega) WG.out ?_;intro v' w' ho hg;obtain⟨ao,n',c',rfl⟩:=wi ho;have ej:=E4 re.out qB.out hg;have tY:=Jy HQ.out HVQ.out hg;have d4:w'.cell? ⟨p,4,none⟩=some v:=(ej.cell 4).trans rfl;have f4:w'.frozen? ⟨p,4,none⟩=false:=ej.frozen 4;have f1:w'.frozen? ⟨p,1,none⟩=false:=ej.frozen 1;have d1:w'.cell? ⟨p,1,none⟩=some (.int .i64 (at':Int)):=(ej.cell 1).trans rfl;have y0:w'.cell? ⟨q,0,none⟩=some (.int .i64 (k:Int)):=(tY.cell 0).trans rfl;have y1:w'.cell? ⟨q,1,none⟩=some (.string (s.extract at' (at'+n))):=(tY.cell 1).trans rfl;have y2:w'.cell? ⟨q,2,none⟩=some (.int .i64 (at':Int)):=(tY.cell 2).trans rfl;have jg:=aa ej;have lD:=aa ho;have Xo:=aa hg;clear ej ho hg tY;refine hK.out _ _ ?_ (fun hHeld=>?_)
    ·(try dsimp only)
     first|done|go_keep|(refine⟨?_,?_,?_⟩<;>(rw[mX _ _ _ _ (by simp)];assumption))
    clear hK K
    try simp only[Act.put,kj,dG,dH]
    refine wpAnyH_take (i:=8) (v:=?_) rfl (by kernel_rfl) (by kernel_rfl) (by kernel_rfl) (fun _ _ _ h=>h) (Or.inl ⟨by rfl,?_⟩) (by assumption) ?_
    rotate_left
    ·intro w hSw
     try dsimp only at hSw
     go_simp
     first|done|(with_reducible rfl)
    try simp only[Act.put,kj,dG,dH]
    refine wpAnyH_take (i:=9) (v:=?_) rfl (by kernel_rfl) (by kernel_rfl) (by kernel_rfl) (fun _ _ _ h=>h) (Or.inl ⟨by rfl,?_⟩) (by assumption) ?_
    rotate_left
    ·intro w hSw
     try dsimp only at hSw
     go_simp
     first|done|(with_reducible rfl)
    try simp only[Act.put,kj,dG,dH]
    refine wpAnyH_ready (rs:=[10]) (by kernel_rfl) (by simp) ?_;refine AllReadyH.cons (i:=10) rfl (fun K hK=>?_) ?_
    ·go_simp
     refine hK.out _ _ ?_ (fun hHeld=>?_)
     ·(try dsimp only)
      first|done|go_keep|(refine⟨?_,?_,?_⟩<;>(rw[mX _ _ _ _ (by simp)];assumption))
     clear hK K
     try simp only[Act.put,kj,dG,dH]
     refine wpAnyH_done (by kernel_rfl) ?_ _;refine NoPanic.normal ?_;go_wp2_with fail;go_end0;have nh:=(aH.dw (aH.dw jg.out 4 (.slice ao n' c')) 1 (.int .i64 ((at':Int)+(n:Int))));refine⟨rfl,.slice ao n' c',?_,?_,?_⟩
     ·simpa [LZ]using nh
     ·have h:=aF (i:=1) (aF (i:=4) lD.out jg.out (by decide) (.slice ao n' c')) (aH.dw jg.out 4 (.slice ao n' c')) (by decide) (.int .i64 ((at':Int)+(n:Int)));have e:(aK (ts++[⟨k,(s.data.toList.drop at').take n,at'⟩]))=aK ts++[.int .i64 (k:Int),.string (s.extract at' (at'+n)),.int .i64 (at':Int)]:=by
       rw[jH,Tok.cells];have:(⟨((s.data.toList.drop at').take n).toArray⟩:ByteArray)=s.extract at' (at'+n):=by
        rw[←mk_data (s.extract at' (at'+n)),Lib.extract_data,show at'+n-at'=n by omega]
       rw[this]
      rw[e,fT];exact h
     ·have hb:=(bZ.out.drew).grown Xo.out WG.out (fun g hg=>(qB.out.lt g hg).1);exact(hb.setCell (p:=⟨p,4,none⟩) gR _).setCell (p:=⟨p,1,none⟩) gR _
    exact AllReadyH.nil
   exact AllReadyH.nil
  exact AllReadyH.nil
 exact AllReadyH.nil
theorem Ox (a b:Nat) (h:a≤b):10^a≤10^b:=ee (by decide) h
theorem agw (c a:Nat) (h:c=54+a):(10:Nat)^c=5^54*10^a*2^54:=by
 rw[h,dX,show (10:Nat)^54=5^54*2^54 by rw[←Bh],yw]
theorem afo (a b:Nat) (h:b=a+1):10^b=10*10^a:=by rw[h,Be]
theorem OW (a b c:Nat) (h:c=a+b):(10:Nat)^c=10^a*10^b:=by rw[h,dX]
theorem agx (a:Nat):(10:Nat)^a=2^a*5^a:=by rw[←Bh]
theorem acd (J c a b d:Nat) (hd:d=a+b) (hJ:J≤b):10^a*2^J ∣ c*10^d:=by
 have e2:2^J ∣ 10^b:=by
  rw[agx];exact Nat.dvd_trans (Nat.pow_dvd_pow 2 hJ) (Nat.dvd_mul_right _ _)
 rw[OW a b d hd];exact Nat.dvd_trans (Nat.mul_dvd_mul_left _ e2) (Nat.dvd_mul_left _ _)
theorem ace (a:Nat):0<10^a:=eX (by decide)
theorem acf {a c:Nat} (h:10^a≤V) (h2:c≤J):10^a*c≤V*J:=oH h h2
theorem agy (k a b c:Nat) (h:a+b=c):k*2^a*2^b=k*2^c:=by rw[←h,dX,bV]
def dn (D:Nat→Nat):Nat→Nat
 |0=>0
 |r+1=>dn D r*10+(D r-48)
theorem T7 (D:Nat→Nat) (nd:Nat): ∀r,r≤nd→pre D nd r=dn D r
 |0,_=>rfl
 |r+1,h=>by rw[pre,dn,T7 D nd r (by omega),sj,ar (by omega)]
theorem Cn (D:Nat→Nat): ∀(m i:Nat),ez D m≤i→i<m→D i=48
 |0,i,_,h=>by omega
 |m+1,i,h1,h2=>by
  unfold ez at h1;split at h1
  ·rename_i he;by_cases e:i=m
   ·subst e;exact he
   ·exact Cn D m i h1 (by omega)
  ·omega
theorem BM (D:Nat→Nat) (m:Nat): ∀r,r≤m→pre D (ez D m) r=dn D r
 |0,_=>rfl
 |r+1,h=>by
  rw[pre,dn,BM D m r (by omega),sj];split
  ·rfl
  ·rename_i hr;rw[Cn D m r (by omega) (by omega)]
theorem wQ (D:Nat→Nat) (m:Nat):pre D (ez D m) (ez D m)*10^(m-ez D m)=dn D m:=by
 have h:=mJ D m;have e:=ig D (ez D m) (m-ez D m);rw[←e,show ez D m+(m-ez D m)=m by omega,BM D m m (aP _)]
theorem Jz {D E:Nat→Nat}: ∀r,(∀i,i<r→D i=E i)→dn D r=dn E r
 |0,_=>rfl
 |r+1,h=>by rw[dn,dn,Jz r fun i hi=>h i (by omega),h r (by omega)]
theorem Ψ {D:Nat→Nat} {nd k r0 W:Nat} (h:jx D nd) (hr:1≤r0) (hf:pre D nd (r0-1)<2^k): ∀j,j≤W→j≤800→dn (sk D nd k r0 W) j=pre D nd (r0-1+j)/2^k
 |0,_,_=>by rw[dn,iv,tC hf]
 |j+1,h1,h2=>by
  have ih:=Ψ (W:=W) h hr hf j (by omega) (by omega);have hd:=pZ h (r0-1+j);have hD:sk D nd k r0 W j=48+pre D nd (r0+j)/2^k%10:=by
   rw[sk,ar ⟨by omega,by omega⟩,jh]
  have he:pre D nd (r0+j)=pre D nd (r0-1+j)*10+sj D nd (r0-1+j):=by
   rw[show r0+j=(r0-1+j)+1 by omega,pre]
  have hq:pre D nd (r0+j)/2^k/10=pre D nd (r0-1+j)/2^k:=by
   rw[Em,fu,←Em,he]
   congr 1
   omega
  rw[dn,ih,hD,←hq,show r0-1+(j+1)=r0+j by omega];generalize pre D nd (r0+j)/2^k=Q;omega
theorem UT (D:Nat→Nat) (nd:Nat) {a:Nat} (h:nd≤a) (m:Nat):pre D nd (a+m)=pre D nd a*10^m:=by
 rw[show a+m=nd+(a-nd+m)by omega,ig,dX,←bV,←ig,show nd+(a-nd)=a by omega]
theorem acg {S:cG} (h:S.Ok) {k:Nat} (h1:1≤k) (h2:k≤60):
  pre (S.rs k).D (S.rs k).nd (S.rs k).nd*10^(800-(S.rs k).nd)=pre S.D S.nd (AL S.D S.nd k+799)/2^k:=by
 obtain⟨f1,f2,f3,f4⟩:=oV h.gQ h.pos (k:=k) h2;obtain⟨R,hR⟩: ∃R,R=AL S.D S.nd k:=⟨_,rfl⟩;obtain⟨W,hW⟩: ∃W,W=rsW S.D S.nd k R:=⟨_,rfl⟩;rw[←hR]at f1 f2 f3 f4 ⊢
 have hK:0<2^k:=eX (by omega);have eD:(S.rs k).D=sk S.D S.nd k R W:=by show xt S.D S.nd k=_;rw[xt,←hR,←hW]
 have eN:(S.rs k).nd=ez (sk S.D S.nd k R W) (min W 800):=by show DG S.D S.nd k=_;rw[DG,xt,Bk,←hR,←hW]
 have hex: ∃m,S.nd-R≤m∧m<(S.nd-R)+(2000-(S.nd-R))∧mE S.D S.nd k R m=true:=by
  refine⟨S.nd+k+1,by omega,by have:=h.le;omega,?_⟩;rw[mE,zT,show R+(S.nd+k+1)=S.nd+(k+1+R)by omega,ig];have e:(10:Nat)^(k+1+R)=(10*2^k)*(5^k*10^R):=by
   rw[dX,ef,show (10:Nat)^k=2^k*5^k by rw[←Bh]];simp only[bV,fu,qD]
  rw[e,←bV,fu (pre S.D S.nd S.nd),bV];exact Nat.mul_mod_right _ _
 obtain⟨s1,s2,_⟩:=sE (p:=mE S.D S.nd k R) _ _ hex;have abp:pre S.D S.nd (R+W)%(10*2^k)=0:=by
  have:mE S.D S.nd k R W=true:=by rw[hW];exact s1
  exact nY this
 have hWn:S.nd-R≤W:=by rw[hW];exact s2
 have hf:pre S.D S.nd (R-1)<2^k:=f2 (R-1) (by omega);have hdn:=Ψ (W:=W) h.gQ f3 hf (min W 800) (Nat.min_le_left _ _) (Nat.min_le_right _ _);have ht:=wQ (sk S.D S.nd k R W) (min W 800);have ZO:=mJ (sk S.D S.nd k R W) (min W 800);rw[eD,eN];generalize ez (sk S.D S.nd k R W) (min W 800)=t at ht ZO ⊢
 have ach:(10:Nat)^(800-t)=10^(min W 800-t)*10^(800-min W 800):=by rw[←dX];congr 1;omega
 rw[ach,←bV,ht,hdn];rcases dD W 800 with au|lW
 ·rw[mr (by omega)];obtain⟨c,hc⟩: ∃c,pre S.D S.nd (R+W)=10*2^k*c:=⟨_,(Nat.mul_div_cancel' (Nat.dvd_of_mod_eq_zero abp)).symm⟩;have hd:=pZ h.gQ (R-1+W);have he:pre S.D S.nd (R+W)=pre S.D S.nd (R-1+W)*10+sj S.D S.nd (R-1+W):=by
   rw[show R+W=(R-1+W)+1 by omega,pre]
  have lX:pre S.D S.nd (R-1+W)/2^k=c:=by
   have:pre S.D S.nd (R-1+W)=pre S.D S.nd (R+W)/10:=by omega
   rw[this,hc,bV,Nat.mul_div_cancel_left _ (by omega),Nat.mul_div_cancel_left _ hK]
  rw[lX,show R+799=(R+W)+(799-W)by omega,UT S.D S.nd (by omega),hc,show 800-W=(799-W)+1 by omega,ef];rw[show 10*2^k*c*10^(799-W)=2^k*(c*(10^(799-W)*10))by simp only[bV,fu,qD],Nat.mul_div_cancel_left _ hK]
 ·rw[qE lW,EC,pK,oC,show R-1+800=R+799 by omega]
def vF (S:cG):Nat:=pre S.D S.nd S.nd*10^(800+S.dp.toNat-S.nd)
theorem agz {S:cG} (h:S.Ok) {k:Nat} (h1:1≤k) (h2:k≤60) (hd:0≤(S.rs k).dp) {T:Nat} (hT:10^(S.rs k).dp.toNat ∣ T):T≤vF (S.rs k)↔T*2^k≤vF S:=by
 obtain⟨ok,ud,_⟩:=cG.vJ h (k:=k) h1 h2;obtain⟨f1,f2,f3,f4⟩:=oV h.gQ h.pos (k:=k) h2;have hn:=acg h (k:=k) h1 h2;have hle:=h.le;have asi:=ok.le;obtain⟨R,hR⟩: ∃R,R=AL S.D S.nd k:=⟨_,rfl⟩;rw[←hR]at ud hn f3 f4;have hK:0<2^k:=eX (by omega);have e1:vF (S.rs k)=pre S.D S.nd (R+799)/2^k*10^(S.rs k).dp.toNat:=by
  rw[vF,←hn,bV,←dX]
  congr 2
  omega
 have e2:vF S=pre S.D S.nd (R+799)*10^(S.rs k).dp.toNat:=by
  rw[vF,show R+799=S.nd+(R+799-S.nd)by omega,ig,bV,←dX]
  congr 2
  omega
 obtain⟨τ,rfl⟩:=hT;have hP:0<10^(S.rs k).dp.toNat:=eX (by omega);rw[e1,e2,fu _ τ];generalize 10^(S.rs k).dp.toNat=P at hP ⊢
 generalize pre S.D S.nd (R+799)=X;rw[yw];constructor
 ·intro hh;have:=Tz hh hP;exact fc _ ((Eo hK).1 this)
 ·intro hh;have:=Tz hh hP;exact fc _ ((Eo hK).2 this)
theorem TE {D:Nat→Nat} {M L:Nat} (hM:M<10^L): ∀j,j≤L→j≤800→dn (tp D M L L) j=M/10^(L-j)
 |0,_,_=>by rw[dn,Nat.sub_zero,tC hM]
 |j+1,h1,h2=>by
  have ih:=TE (D:=D) hM j (by omega) (by omega);have hD:tp D M L L j=48+M/10^(L-1-j)%10:=by rw[tp,ar ⟨by omega,by omega,by omega⟩]
  have hq:M/10^(L-(j+1))/10=M/10^(L-j):=by
   rw[Em,←ef]
   congr 2
   omega
  rw[dn,ih,hD,←hq,show L-1-j=L-(j+1)by omega];generalize M/10^(L-(j+1))=Q;omega
theorem aci {S:cG} (h:S.Ok) {k:Nat} (h1:1≤k) (h2:k≤60) (r:Nat) (hr:r≤tn S.D S.nd k) (h8:r≤800):pre (S.ls k).D (S.ls k).nd r=Lc S.D S.nd k/10^(tn S.D S.nd k-r):=by
 have hb:=jX h.gQ h.pos h1 h2;show pre (pR S.D S.nd k) (xv S.D S.nd k) r=_;rw[xv,BM _ _ r (by omega),pR,TE hb.2.1 r hr h8]
theorem UU (h:1≤n):2^gE n≤10^n:=by
 unfold gE;by_cases h9:9≤n
 ·rw[ar h9];exact bn (by decide:(2:Nat)^27≤10^9) (ee (by omega) h9)
 ·rw[af h9];have: ∀m,m<9→1≤m→2^([1,3,6,9,13,16,19,23,26].getD m 0)≤10^m:=by decide
  exact this n (by omega) h
theorem acj {S:cG} (h:S.Ok) (hd:0<S.dp):0≤(S.rs (gE S.dp.toNat)).dp∧(S.rs (gE S.dp.toNat)).dp≤S.dp:=by
 obtain⟨k,hk⟩: ∃k,k=gE S.dp.toNat:=⟨_,rfl⟩;have hb:=jm S.dp.toNat;have ht:=UU (n:=S.dp.toNat) (by omega);rw[←hk]at hb ht ⊢
 obtain⟨_,ud,_⟩:=cG.vJ h (k:=k) hb.1 (by omega);obtain⟨f1,f2,f3,f4⟩:=oV h.gQ h.pos (k:=k) (by omega);have hR:AL S.D S.nd k≤S.dp.toNat+1:=by
  rcases dD (S.dp.toNat+1) (AL S.D S.nd k)with au|lW
  ·have:=f2 _ au;have h2:=lN h.gQ h.pos S.dp.toNat;omega
  ·exact lW
 omega
theorem JA : ∀ (f : Nat) (S : cG) (e : Int), S.Ok → 0 ≤ S.dp → S.dp ≤ 310 → ZN S ≤ f →
    ∃K:Nat,(uc f S e).2=e+K∧(uc f S e).1.Ok∧(uc f S e).1.dp=0∧ ∀T,10^310 ∣ T→(T≤vF (uc f S e).1↔T*2^K≤vF S)
  | 0, S, e, ok, h0, h1, hm => by
    have:S.dp=0:=by unfold ZN at hm;omega
    exact⟨0,by simp[uc],ok,this,fun T _=>by simp[uc]⟩
  | f + 1, S, e, ok, h0, h1, hm => by
    by_cases hd:0<S.dp
    · have hs := Jq ok hd
      obtain⟨d1,d2⟩:=acj ok hd
      have hb:=jm S.dp.toNat
      rw[Jp hd]
      obtain⟨k,hk⟩: ∃k,k=gE S.dp.toNat:=⟨_,rfl⟩
      rw[←hk]at hs d1 d2 hb ⊢
      have ok1:=(cG.vJ ok (k:=k) hb.1 (by omega)).1
      obtain⟨K,a,b,c,d⟩:=JA f (S.rs k) (e+k) ok1 d1 (by omega) (by omega)
      refine⟨k+K,by rw[a];omega,b,c,fun T hT=>?_⟩
      rw[d T hT,agz ok hb.1 (by omega) d1,bV,←dX,Bg K k]
      exact Nat.dvd_trans (Nat.pow_dvd_pow 10 (by omega)) (Nat.dvd_trans hT (Nat.dvd_mul_right _ _))
    · rw [Gt hd]
      exact⟨0,by simp,ok,by show S.dp=0;omega,fun T _=>by simp⟩
theorem OX {S:cG} (h:S.Ok):(S.D 0-48)*10^(S.nd-1)≤pre S.D S.nd S.nd∧pre S.D S.nd S.nd<(S.D 0-48+1)*10^(S.nd-1):=by
 have rA:pre S.D S.nd S.nd/10^(S.nd-1)=S.D 0-48:=by
  have:=Ay h.gQ 1 (S.nd-1);rw[show 1+(S.nd-1)=S.nd by have:=h.pos;omega]at this;rw[this];simp[pre,sj,h.pos]
 have hT:0<10^(S.nd-1):=eX (by omega);constructor
 ·rw[←rA];exact II _ _
 ·rw[←rA];exact(zR hT).1 (vw _)
theorem ack {S:cG} (h:S.Ok) (hd:S.dp=0) (h5:S.D 0<53):(S.ls 1).dp=0∧vF (S.ls 1)=vF S*2:=by
 have hb:=jX h.gQ h.pos (k:=1) (by omega) (by omega);obtain⟨ok,ud,_⟩:=cG.yK h (k:=1) (by omega) (by omega);have hl:=OX h;have hp:=h.pos;have hle:=h.le;have hM:Lc S.D S.nd 1=pre S.D S.nd S.nd*2:=rfl;have hnT:10^S.nd=10*10^(S.nd-1):=by rw[←Be];congr 1;omega
 have au:pre S.D S.nd S.nd*2<10^S.nd:=by
  have:(S.D 0-48+1)*10^(S.nd-1)≤5*10^(S.nd-1):=fc _ (by omega);omega
 have hL:tn S.D S.nd 1=S.nd:=by
  rcases dD S.nd (tn S.D S.nd 1)with hh|hh
  ·have Dn:10^S.nd≤10^(tn S.D S.nd 1-1):=ee (by omega) (by omega);omega
  ·omega
 have zL:(S.ls 1).dp=0:=by rw[ud,hL];omega
 refine⟨zL,?_⟩;have ht:=wQ (pR S.D S.nd 1) (min (tn S.D S.nd 1) 800);have ZO:=mJ (pR S.D S.nd 1) (min (tn S.D S.nd 1) 800);have hdn:=TE (D:=S.D) hb.2.1 (tn S.D S.nd 1) (aP _) (by omega);have e:dn (pR S.D S.nd 1) (tn S.D S.nd 1)=Lc S.D S.nd 1:=by
  rw[pR,hdn,EC,pK,Nat.div_one]
 rw[hL,mr hle]at ht ZO;rw[hL]at e;rw[e,hM]at ht;have sX:(S.ls 1).nd=ez (pR S.D S.nd 1) S.nd:=by show xv S.D S.nd 1=_;rw[xv,hL,mr hle]
 have hD:(S.ls 1).D=pR S.D S.nd 1:=rfl;rw[vF,vF,zL,hd,sX,hD];generalize ez (pR S.D S.nd 1) S.nd=t at ht ZO ⊢
 rw[show 800+(0:Int).toNat-t=(S.nd-t)+(800+(0:Int).toNat-S.nd)by simp;omega,dX,←bV,ht];rw[yw]
theorem E5 : ∀ (f : Nat) (S : cG) (e : Int), S.Ok → S.dp = 0 → SO S ≤ f →
    ∃J:Nat,(zJ f S e).2=e-J∧(zJ f S e).1.Ok∧(zJ f S e).1.dp=0∧53≤(zJ f S e).1.D 0∧vF (zJ f S e).1=vF S*2^J
  | 0, S, e, ok, h0, hm => by
    have:53≤S.D 0:=by unfold SO at hm;rw[af (by omega)]at hm;omega
    exact⟨0,by simp[zJ],ok,h0,this,by simp[zJ]⟩
  | f + 1, S, e, ok, h0, hm => by
    by_cases hl:yL S
    · have h5 : S.D 0 < 53 := by rcases hl with hl | ⟨_, hl⟩; omega; exact hl
      have hs:=Jr ok hl
      have hk:gE (-S.dp).toNat=1:=by rw[h0];rfl
      rw[hk]at hs
      rw[BF hl,hk]
      obtain⟨d1,d2⟩:=ack ok h0 h5
      have ok1:=(cG.yK ok (k:=1) (by omega) (by omega)).1
      obtain⟨J,a,b,c,d,g⟩:=E5 f (S.ls 1) (e-((1:Nat):Int)) ok1 d1 (by omega)
      refine⟨J+1,by rw[a];omega,b,c,d,?_⟩
      rw[g,d2,ef,bV,fu 2]
    · rw [Gu hl]
      have h5 : 53 ≤ S.D 0 := by
        rcases dD (S.D 0) 53 with h|h
        · exact absurd (.inr ⟨h0, h⟩) hl
        · exact h
      exact⟨0,by simp,ok,h0,h5,by simp⟩
theorem YK {S:cG} (h:S.Ok) (hd:S.dp=0) (h5:53≤S.D 0):FJ (S.ls 53)=9007199254740992↔(2^54-1)*5^54*10^746≤vF S:=by
 have hb:=jX h.gQ h.pos (k:=53) (by omega) (by omega);obtain⟨ok,ud,_⟩:=cG.yK h (k:=53) (by omega) (by omega);have hp:=h.pos;have hle:=h.le;have au:=xE h.gQ S.nd;obtain⟨N,hN⟩: ∃N,N=pre S.D S.nd S.nd:=⟨_,rfl⟩;obtain⟨L,hL⟩: ∃L,L=tn S.D S.nd 53:=⟨_,rfl⟩;have hM:Lc S.D S.nd 53=N*2^53:=by rw[Lc,hN]
 have F4:=aci h (k:=53) (by omega) (by omega);rw[←hL]at ud hb F4;rw[hM]at hb F4;rw[←hN]at au;obtain⟨p,hpL⟩: ∃p,L=S.nd+p:=⟨L-S.nd,by omega⟩;have afp:(S.ls 53).dp=(p:Int):=by rw[ud,hd,hpL];omega
 have asj:p≤16:=by
  rcases dD 16 p with hh|hh
  ·exfalso;have h1:10^(S.nd+16)≤10^(L-1):=ee (by omega) (by omega);have h2:N*2^53<10^S.nd*10^16:=by
    have:N*2^53<10^S.nd*2^53:=qU au (by decide);exact gO this (uj _ (by decide))
   rw[dX]at h1;omega
  ·exact hh
 have hA:0<10^S.nd:=eX (by omega);have e0:pre (S.ls 53).D (S.ls 53).nd p=N*2^53/10^S.nd:=by
  rw[F4 p (by omega) (by omega),show L-p=S.nd by omega]
 have e1:pre (S.ls 53).D (S.ls 53).nd (p+1)=N*2^53*10/10^S.nd:=by
  rw[F4 (p+1) (by omega) (by omega),show L-(p+1)=S.nd-1 by omega];have:10^S.nd=10^(S.nd-1)*10:=by rw[←ef];congr 1;omega
  rw[this,Nat.mul_div_mul_right _ _ (by omega)]
 have hq:N*2^53/10^S.nd≤9007199254740991:=by
  have:N*2^53/10^S.nd<2^53:=by
   rw[zR hA,fu (2^53)];exact qU au (by decide)
  have e:(2:Nat)^53=9007199254740992:=by decide
  omega
 obtain⟨q,hqq⟩: ∃q,q=N*2^53/10^S.nd:=⟨_,rfl⟩;obtain⟨r,hr⟩: ∃r,r=sj (S.ls 53).D (S.ls 53).nd p:=⟨_,rfl⟩;have er:pre (S.ls 53).D (S.ls 53).nd (p+1)=q*10+r:=by rw[pre,e0,hqq,hr]
 have hr9:r≤9:=by rw[hr];exact pZ ok.gQ p
 rw[←hqq]at e0 hq;have hri:lH (S.ls 53) p=q:=by rw[lH,e0,td (by omega)]
 have aku:q=9007199254740991→(Xn (S.ls 53) (S.ls 53).dp=true↔5≤r):=by
  intro hqe;have hp1:1≤p:=by
   rcases jK p with h0|h0
   ·rw[h0]at e0;simp only[pre]at e0;omega
   ·exact h0
  rw[afp];unfold Xn;by_cases hn:(S.ls 53).nd≤p
  ·rw[ar (.inr (by omega))];have:r=0:=by rw[hr,sj,af (by omega)]
   simp[this]
  ·rw[af (by omega),mq];have hrD:r=(S.ls 53).D p-48:=by rw[hr,sj,ar (by omega)]
   have hDr:=ok.gQ.1 p (by omega);unfold Bl;split
   ·rename_i hc;have X6:ED (S.ls 53).D p=true:=by
     have hpp:pre (S.ls 53).D (S.ls 53).nd p=pre (S.ls 53).D (S.ls 53).nd (p-1)*10+((S.ls 53).D (p-1)-48):=by
      have e:p=(p-1)+1:=by omega
      conv=>lhs;rw[e]
      rw[pre,sj,ar (by omega)]
     have hD1:=ok.gQ.1 (p-1) (by omega);unfold ED;rw[dQ (by omega:0<p),mA,zT];omega
    rw[X6,vC];simp only[true_iff];omega
   ·rw[zT];omega
 have ll:FJ (S.ls 53)=9007199254740992↔q=9007199254740991∧5≤r:=by
  have hdq:(S.ls 53).dp.toNat=p:=by rw[afp];rfl
  unfold FJ;rw[af (by omega),hdq,hri];by_cases Eg:q=9007199254740991
  ·have hs:=aku Eg;by_cases uV:Xn (S.ls 53) (S.ls 53).dp=true
   ·rw[ar uV];have:=hs.1 uV;omega
   ·rw[af uV];have: ¬5≤r:=fun h=>uV (hs.2 h)
    omega
  ·constructor
   ·intro hh;split at hh<;>omega
   ·rintro⟨h1,_⟩;exact absurd h1 Eg
 have Ht:(q=9007199254740991∧5≤r)↔90071992547409915≤q*10+r:=by omega
 rw[ll,Ht,←er,e1,Eo hA];have hF:vF S*2^54=N*2^54*10^(800-S.nd):=by
  rw[vF,←hN,hd,show 800+(0:Int).toNat-S.nd=800-S.nd by simp,yw]
 have hT:(2^54-1)*5^54*10^746*2^54=(2^54-1)*10^S.nd*10^(800-S.nd):=by
  have e8:(10:Nat)^S.nd*10^(800-S.nd)=10^800:=by rw[←dX];congr 1;omega
  rw[bV (2^54-1) (10^S.nd),e8];have e9:(10:Nat)^800=5^54*10^746*2^54:=agw 800 746 rfl;rw[e9];simp only[bV]
 have hP:0<10^(800-S.nd):=eX (by omega);have step:(2^54-1)*5^54*10^746≤vF S↔(2^54-1)*10^S.nd≤N*2^54:=by
  rw[←yu (show 0<2^54 by decide),hT,hF,yu hP]
 rw[step];have c1:(2:Nat)^54-1=18014398509481983:=by decide
 have c2:(2:Nat)^54=18014398509481984:=by decide
 have c3:(2:Nat)^53=9007199254740992:=by decide
 rw[c1,c2,c3];generalize 10^S.nd=A;omega
theorem iB {P:UInt8→Prop} (h: ∀n:Fin 256,P (UInt8.ofNat n.val)) (c:UInt8):P c:=by
 have hc:UInt8.ofNat c.toNat=c:=by simp
 have:=h ⟨c.toNat,mz c⟩;simp only[hc]at this;exact this
theorem wR {p:UInt8→Bool}: ∀{l:List UInt8} {i:Nat},i<(l.takeWhile p).length→p (an l i)=true
 |[],i,h=>by simp at h
 |c::r,i,h=>by
  rw[rf]at h;split at h
  ·rename_i hc;cases i with
   |zero=>exact hc
   |succ k=>exact wR (l:=r) (i:=k) (by simpa using h)
  ·simp at h
theorem tO {p:UInt8→Bool}: ∀{l:List UInt8} {n:Nat},n≤l.length→(∀i,i<n→p (an l i)=true)→(n<l.length→p (an l n)=false)→(l.takeWhile p).length=n
 |[],n,h,_,_=>by simp at h;simp[h]
 |c::r,0,_,_,h=>by
  have:=h (by simp);rw[rf,af (by have h2:p c=false:=this;rw[h2];simp)];rfl
 |c::r,n+1,h,h1,h2=>by
  have hc:p c=true:=h1 0 (by omega);rw[rf,ar hc,dI];have:=tO (p:=p) (l:=r) (n:=n) (by simpa using h) (fun i hi=>h1 (i+1) (by omega)) (fun hn=>h2 (by simpa using hn));omega
theorem QF (l:List UInt8) (i k:Nat):an (l.drop i) k=an l (i+k):=by
 simp[an,lf]
theorem mV {p:UInt8→Bool} (h1:i≤k) (h2:k<ae p l i):p (an l k)=true:=by
 unfold ae at h2;have:=wR (p:=p) (l:=l.drop i) (i:=k-i) (by omega)
 rwa [QF,show i+(k-i)=k by omega]at this
theorem qm (h:digit c=true∨c.toNat=46):tj c=false:=by
 have hc:(48≤c.toNat∧c.toNat≤57)∨c.toNat=46:=h.imp aG id;unfold tj;rw[show (c.toNat==101)=false from bK.2 (by omega),show (c.toNat==69)=false from bK.2 (by omega)];rfl
theorem UW (hd:aI l≠0):lp l (aI l)∧ ∃i0,i0<aI l∧digit (an l i0)=true:=by
 have hle:=l9 l;have h0:=bI digit l 0 (aT _);obtain⟨k,hk⟩: ∃k,ae digit l 0=k:=⟨_,rfl⟩;have oE: ∀i,i<k→digit (an l i)=true:=fun i hi=>mV (aT _) (by rw[hk];exact hi)
 have tw: ∀j,digit (an l j)=true→(an l j).toNat≠46:=fun j hj=>by have:=aG hj;omega
 unfold aI at hd hle ⊢
 rw[hk]at hd hle ⊢
 split
 ·rename_i hc;rw[ar hc]at hle;refine⟨⟨hle,fun i hi=>?_⟩,0,by have:=aV digit l (k+1);omega,oE 0 hc.2.2⟩;rcases Et i k with h|h|h
  ·exact .inl (oE i h)
  ·subst h;exact .inr ⟨hc.2.1,fun j hj=>tw j (oE j hj)⟩
  ·exact .inl (mV (by omega) hi)
 ·rename_i hc;rw[af hc]at hd hle;split
  ·rename_i ng;rw[ar ng]at hle;have h1:1<ae digit l 1:=by
    rcases dD 1 (ae digit l 1)with h|h
    ·exact h
    ·have hl:1<l.length:=ng.2.1;have e:ae digit l 2=ae digit l 1:=iD hl (by
      have:l[1]=an l 1:=by rw[an,lf,lB hl];rfl
      rw[this];exact ng.2.2.2)
     have:=aV digit l 2;omega
   refine⟨⟨hle,fun i hi=>?_⟩,1,h1,ng.2.2.2⟩;rcases jK i with h|h
   ·subst h;exact .inr ⟨ng.2.2.1,fun j hj=>by omega⟩
   ·exact .inl (mV h hi)
  ·rename_i ng;rw[af ng]at hd hle;exact⟨⟨hle,fun i hi=>.inl (oE i hi)⟩,0,by omega,oE 0 (by omega)⟩
theorem mf (h0:ag l=l.length) (bC:l≠[]) (hh:aO l=false):
  lp l (bJ l)∧(∃i0,i0<bJ l∧digit (an l i0)=true)∧(bJ l=l.length∨bJ l<l.length∧I2 l (bJ l) (pS l) (xw l)):=by
 have pN:0<l.length:=Es.2 bC;unfold ag at h0;rw[af (by rw[hh];simp)]at h0;have hd:aI l≠0:=by
  intro h;rw[ar h]at h0;omega
 rw[af hd]at h0;obtain⟨hm,i0,ti,ua⟩:=UW hd;have hle:=l9 l;have key:aI l=l.length∨aI l<l.length∧tj (an l (aI l))=true∧dF l (aI l)<l.length∧ae digit l (dF l (aI l))=l.length:=by
  unfold cQ at h0;split at h0
  ·rename_i hc;exact .inl h0
  ·rename_i hc;rw[not_or]at hc;split at h0
   ·rename_i ng;exact .inr ⟨by omega,by simpa using hc.2,by omega,h0⟩
   ·exact .inl h0
 have ZP:bJ l=aI l:=by
  refine tO hle (fun i hi=>?_) (fun au=>?_)
  ·have:=qm ((hm.2 i hi).imp id And.left);rw[this];rfl
  ·rcases key with h|h
   ·omega
   ·rw[h.2.1];rfl
 rw[ZP];refine⟨hm,⟨i0,ti,ua⟩,?_⟩;rcases key with h|⟨h1,h2,h3,h4⟩
 ·exact .inl h
 ·refine .inr ⟨h1,?_⟩;have SQ: ∀i,dF l (aI l)≤i→i<l.length→digit (an l i)=true:=fun i a b=>mV a (by rw[h4];exact b)
  have hx:pS l=dF l (aI l)∧((dF l (aI l)=aI l+1∧xw l=false∧digit (an l (dF l (aI l)))=true)∨(dF l (aI l)=aI l+2∧xw l=false∧(an l (aI l+1)).toNat=43)∨(dF l (aI l)=aI l+2∧xw l=true∧(an l (aI l+1)).toNat=45)):=by
   unfold dF at h3 SQ ⊢
   unfold pS xw;rw[ZP];by_cases ZQ:aI l+1<l.length∧zV (an l (aI l+1))=true
   ·rw[ar ZQ]at h3 SQ ⊢
    have hp:(an l (aI l+1)).toNat=43∨(an l (aI l+1)).toNat=45:=by simpa [zV]using ZQ.2
    rw[ar hp];refine⟨rfl,?_⟩;rcases hp with hp|hp
    ·exact .inr (.inl ⟨rfl,by rw[hp];rfl,hp⟩)
    ·exact .inr (.inr ⟨rfl,by rw[hp];rfl,hp⟩)
   ·rw[af ZQ]at h3 SQ ⊢
    have qR:=SQ (aI l+1) (aP _) h3;have hf:=aG qR;rw[af (by omega)];exact⟨rfl,.inl ⟨rfl,bK.2 (by omega),qR⟩⟩
  rw[hx.1];exact⟨h1,h2,hx.2,h3,SQ⟩
theorem sI (h0:ag l=l.length) (hh:aO l=true):2<l.length∧(an l 0).toNat=48∧tZ (an l 1)=true∧EE l l.length:=by
 unfold ag at h0;rw[ar hh]at h0;have h:=hh;simp[aO]at h;refine⟨h.1.1.1,h.1.1.2,h.1.2,aP _,fun i h1 h2=>mV h1 (by rw[h0];exact h2)⟩
theorem AB (h0:ag l=l.length) (bC:l≠[]) (hh:aO l=false) (h1:1<l.length):tZ (an l 1)=false∧((an l 1).toNat|||32)≠120:=by
 obtain⟨hm,⟨i0,ti,_⟩,he⟩:=mf h0 bC hh;have:digit (an l 1)=true∨(an l 1).toNat=46∨(an l 1).toNat=101∨(an l 1).toNat=69:=by
  rcases dD 1 (bJ l)with h|h
  ·rcases hm.2 1 h with a|a
   ·exact .inl a
   ·exact .inr (.inl a.1)
  ·have ue:bJ l=1:=by omega
   rcases he with he|⟨_,he⟩
   ·omega
   ·have:=he.tj;rw[ue]at this;simp[tj]at this;exact .inr (.inr this)
 have fF: ∀c:UInt8,(digit c=true∨c.toNat=46∨c.toNat=101∨c.toNat=69)→tZ c=false∧(c.toNat|||32)≠120:=iB (by decide+kernel);exact fF _ this
theorem OY (h:tZ c=true):(c.toNat|||32)=120:=by
 have fF: ∀c:UInt8,tZ c=true→(c.toNat|||32)=120:=iB (by decide+kernel);exact fF _ h
