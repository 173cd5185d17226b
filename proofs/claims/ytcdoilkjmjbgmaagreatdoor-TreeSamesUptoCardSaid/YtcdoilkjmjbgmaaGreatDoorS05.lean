import Derived.Laws.FloatArith
import Derived.Test.YtcdoilkjmjbgmaaGreatDoorS04
import Derived.Test.YtcdoilkjmjbgmaaGreatDoorS03
import Derived.Deep.RegionLaw
import Derived.BigRegion
import Derived.Deep.RegionHeld3
/- Part of the proof of YtcdoilkjmjbgmaaGreatDoorCardY: PlO PlQ PlR PlS PlT PlU PlUa PlN PlV PlW PlP PlX PlF PlG PlH LexC PlI RdA OvA OvB PlY. -/
set_option maxRecDepth 100000
set_option maxHeartbeats 4000000
set_option linter.unusedVariables false
set_option linter.unusedSimpArgs false
namespace Go.Proofs.YtcdoilkjmjbgmaaGreatDoor
open Go.RowKit
open Go.Proofs.Tryz
variable {y x l:List UInt8} {k F r nd K X d r0 j A B Y δ N M L m n mm sp np i base size p at' er J V:Nat} {D:Nat→Nat} {c:UInt8} {e:TypeId} {s t:ByteArray} {P:Int} {dt dg tr br sq b q:Bool} {ops:Array Oper} {o:Oper} {a:Act} {w0 w w':World} {v:Value} {xs:List Value} {cs:Array Value}
def PL:List Nat:=[4607182418800017408,4621819117588971520,4636737291354636288,4652007308841189376,4666723172467343360,4681608360884174848,4696837146684686336,4711630319722168320,4726483295884279808,4741671816366391296,4756540486875873280,4771362005757984768,4786511204640096256,4801453603149578240,4816244402031689728,4831355200913801216,4846369599423283200,4861130398305394688,4876203697187506176,4891288408196988160,4906019910204099648,4921056587992461136,4936209963552724370]
def eY:Nat:=9218868437227405312
def Ih (y:Nat):Bool:=match Ieee.double.read y with| .number false m _=>m != 0|_=>false
theorem I7 {y:Nat} (h:Ih y=true): ∃m e,Ieee.double.read y= .number false m e∧m≠0:=by
 unfold Ih at h;split at h
 ·rename_i m e he;exact⟨m,e,he,by simpa using h⟩
 ·cases h
theorem UA: ∀y∈PL,Ih y=true:=by decide+kernel
theorem OD {x:Nat} (h:x≤eY):(∃m e,Ieee.double.read x= .number false m e)∨Ieee.double.read x= .infinity false:=by
 have h0:x<9223372036854775808:=o7 h (by decide);have hs:Ieee.double.signWeight=9223372036854775808:=by decide+kernel
 have hi:Ieee.double.infRung=eY:=by decide+kernel
 have e1:x/9223372036854775808=0:=tp h0;have e2:x%9223372036854775808=x:=s5 h0;unfold Ieee.Format.read;rw[hs,hi,e1,e2];simp only[Nat.zero_mod];split
 ·exact .inl ⟨_,_,rfl⟩
 ·split
  ·exact .inl ⟨_,_,rfl⟩
  ·rename_i h1 h2;have:x=eY:=by omega
   rw[az this];exact .inr rfl
theorem uv (m:Nat) (e:Int):Ieee.double.nearest false m e≤eY:=by
 have hi:Ieee.double.infRung=eY:=by decide+kernel
 unfold Ieee.Format.nearest;split
 ·simp[Ieee.Format.word]
 ·simp only[Ieee.Format.word,lk,iw,hi];exact Nat.min_le_right _ _
theorem EM:Ieee.double.write (.infinity false)≤eY:=by decide+kernel
theorem abN {x y:Nat} (hx:x≤eY) (hy:Ih y=true): ∃r,floatBits .mul .f64 x y=some r∧r≤eY:=by
 obtain⟨n,j,hr,hn⟩:=I7 hy;have LA:floatBits .mul .f64 x y=((Ieee.double.read x).product (Ieee.double.read y)).map Ieee.double.write:=rfl;rw[LA,hr];rcases OD hx with⟨m,e,h⟩|h
 ·rw[h];exact⟨_,rfl,uv _ _⟩
 ·rw[h];simp only[Ieee.Datum.product,ah hn];exact⟨_,rfl,EM⟩
theorem abO {x y:Nat} (hx:x≤eY) (hy:Ih y=true): ∃r,floatBits .quo .f64 x y=some r∧r≤eY:=by
 obtain⟨n,j,hr,hn⟩:=I7 hy;have LA:floatBits .quo .f64 x y=((Ieee.double.read x).quotient (Ieee.double.fractionBits+2) (Ieee.double.read y)).map Ieee.double.write:=rfl;rw[LA,hr];rcases OD hx with⟨m,e,h⟩|h
 ·rw[h];simp only[Ieee.Datum.quotient,ah hn];exact⟨_,rfl,uv _ _⟩
 ·rw[h];exact⟨_,rfl,EM⟩
theorem I8 (m:Nat):floatOfInt .f64 (m:Int)≤eY:=by
 unfold floatOfInt FloatKind.nearest FloatKind.encode;have:decide ((m:Int)<0)=false:=by simp
 show Ieee.double.write (.number (decide ((m:Int)<0)) _ 0)≤eY;rw[this];exact uv _ _
def u9 (x y:Nat):Nat:=(floatBits .mul .f64 x y).getD 0
def FQ (x y:Nat):Nat:=(floatBits .quo .f64 x y).getD 0
theorem Gg {x y:Nat} (hx:x≤eY) (hy:Ih y=true):floatBits .mul .f64 x y=some (u9 x y)∧u9 x y≤eY:=by
 obtain⟨r,h1,h2⟩:=abN hx hy;unfold u9;rw[h1];exact⟨rfl,h2⟩
theorem OE {x y:Nat} (hx:x≤eY) (hy:Ih y=true):floatBits .quo .f64 x y=some (FQ x y)∧FQ x y≤eY:=by
 obtain⟨r,h1,h2⟩:=abO hx hy;unfold FQ;rw[h1];exact⟨rfl,h2⟩
def fi (k:Nat):Nat:=PL.getD k 0
theorem rA (h:k<23):Ih (fi k)=true:=by
 have hl:k<PL.length:=h;rw[fi,lf,lJ hl];exact UA _ (jj hl)
def FR (x:Nat):Bool:=(FloatKind.f64.format.order x 4831355200913801216==some .gt)||(FloatKind.f64.format.order x 14054727237768577024==some .lt)
def fJ (m : Nat) (p : Int) : Option Nat :=
  if m/4503599627370496≠0 then none
  else if p=0 then some (floatOfInt .f64 (m:Int))
  else if 0 < p ∧ p ≤ 37 then
    (if FR (if 22 < p then u9 (floatOfInt .f64 (m : Int)) (fi (p - 22).toNat) else floatOfInt .f64 (m : Int)) then none
     else some (u9 (if 22<p then u9 (floatOfInt .f64 (m:Int)) (fi (p-22).toNat)else floatOfInt .f64 (m:Int)) (fi (if 22<p then 22 else p.toNat))))
  else if p<0∧ -22≤p then some (FQ (floatOfInt .f64 (m:Int)) (fi (-p).toNat))
  else none
def Hh (D:Nat→Nat) (i c:Nat):Nat→Nat:=fun j=>if j=i then c else D j
def eE (D:Nat→Nat):Nat→Nat
 |0=>0
 |m+1=>if D m=48 then eE D m else m+1
theorem mF (D:Nat→Nat): ∀m,eE D m≤m
 |0=>aS _
 |m+1=>by have:=mF D m;unfold eE;split<;>omega
def pB (D:Nat→Nat) (nd:Nat) (dp:Int):Int:=if eE D nd=0 then 0 else dp
def pj (p:Nat→Bool):Nat→Nat→Nat
 |0,r=>r
 |f+1,r=>if p r=true then r else pj p f (r+1)
theorem Bv {p:Nat→Bool} (hF:r<F) (h:p r=true):pj p (F-r) r=r:=by
 obtain⟨f,hf⟩: ∃f,F-r=f+1:=⟨F-r-1,by omega⟩;rw[hf,pj,az h]
theorem xH {p:Nat→Bool} (hF:r<F) (h:p r=false):pj p (F-r) r=pj p (F-(r+1)) (r+1):=by
 obtain⟨f,hf⟩: ∃f,F-r=f+1:=⟨F-r-1,by omega⟩;have h2:F-(r+1)=f:=by omega
 rw[hf,h2,pj,ah (by rw[h];simp)]
def sa (D:Nat→Nat) (nd r:Nat):Nat:=if r<nd then D r-48 else 0
def pre (D:Nat→Nat) (nd:Nat):Nat→Nat
 |0=>0
 |r+1=>pre D nd r*10+sa D nd r
def js (D:Nat→Nat) (nd:Nat):Prop:=(∀i,i<nd→48≤D i∧D i≤57)∧(0<nd→D 0≠48)
theorem pC (h:js D nd) (r:Nat):sa D nd r≤9:=by
 unfold sa;split
 ·rename_i hr;have:=h.1 r hr;omega
 ·omega
theorem lN {D : Nat → Nat} {nd : Nat} (h : js D nd) (hn : 0 < nd) : ∀ r, 10 ^ r ≤ pre D nd (r + 1)
  | 0 => by
    have h1:=h.1 0 hn
    have h2:=h.2 hn
    simp only[pre,sa,az hn]
    omega
  | r + 1 => by
    have ih:=lN h hn r
    rw[pre,ep]
    omega
theorem xx {D:Nat→Nat} {nd:Nat} (h:js D nd): ∀r,pre D nd r<10^r
 |0=>by simp[pre]
 |r+1=>by
  have ih:=xx h r;have:=pC h r;rw[pre,ep];omega
theorem gX (D:Nat→Nat) (nd:Nat): ∀m,pre D nd (nd+m)=pre D nd nd*10^m
 |0=>by simp
 |m+1=>by
  rw[←A6,pre,gX D nd m,sa,ah (by omega),ep];simp[cg]
def tC (D:Nat→Nat) (nd k r:Nat):Bool:=decide (2^k≤pre D nd r)
def AF (D:Nat→Nat) (nd k:Nat):Nat:=pj (tC D nd k) 1000 0
def iY (D:Nat→Nat) (nd k r0 i:Nat):Nat:=pre D nd (r0+i)/2^k%10
def mB (D:Nat→Nat) (nd k r0 j:Nat):Bool:=decide (pre D nd (r0+j)%(10*2^k)=0)
def rsW (D:Nat→Nat) (nd k r0:Nat):Nat:=pj (mB D nd k r0) (2000-(nd-r0)) (nd-r0)
def sb (D:Nat→Nat) (nd k r0 j:Nat):Nat→Nat:=fun i=>if i<j∧i<800 then 48+iY D nd k r0 i else D i
def Xd (D:Nat→Nat) (nd k r0 j:Nat):Bool:=(List.range j).any fun i=>decide (800≤i)&&decide (0<iY D nd k r0 i)
theorem Ym (hK:0<K) (hd:d≤9):(X%(10*K))/K=X/K%10∧(X%(10*K))%K*10+d=(X*10+d)%(10*K):=by
 have h1:X%(10*K)=X%K+K*(X/K%10):=by
  rw[fx 10 K];exact Nat.mod_mul
 have aA:X%K<K:=my _ hK;refine⟨?_,?_⟩
 ·rw[h1,Nat.add_mul_div_left _ _ hK,tp aA,mr]
 ·rw[h1,Ti,Nat.mod_mod];have h2:X=X%K+K*(X/K):=(Nat.mod_add_div X K).symm;have e:10*K*(X/K)=10*(K*(X/K)):=cg _ _ _;have h3:X*10+d=(X%K*10+d)+10*K*(X/K):=by
   rw[e];generalize K*(X/K)=Q at h2 ⊢
   generalize X%K=R at h2 ⊢
   omega
  have ajE:X%K*10+d<10*K:=by
   generalize X%K=R at aA ⊢
   omega
  rw[h3,Ti,s5 ajE]
theorem I9 (hj:j<800):Hh (sb D nd k r0 j) j (48+iY D nd k r0 j)=sb D nd k r0 (j+1):=by
 funext i;unfold Hh sb;by_cases e:i=j
 ·subst e;rw[az rfl,az ⟨by omega,hj⟩]
 ·rw[ah e];by_cases h:i<j∧i<800
  ·rw[az h,az ⟨by omega,h.2⟩]
  ·rw[ah h,ah (by omega)]
theorem OF (hj:800≤j):sb D nd k r0 (j+1)=sb D nd k r0 j:=by
 funext i;unfold sb;by_cases h:i<j∧i<800
 ·rw[az h,az ⟨by omega,h.2⟩]
 ·rw[ah h,ah (by omega)]
theorem UB (h:j≤r):sb D nd k r0 j r=D r:=by
 unfold sb;rw[ah (by omega)]
theorem UC:sb D nd k r0 0=D:=by
 funext i;unfold sb;rw[ah (by omega)]
theorem Bw:Xd D nd k r0 (j+1)=(Xd D nd k r0 j||(decide (800≤j)&&decide (0<iY D nd k r0 j))):=by
 unfold Xd;rw[qU,List.any_append];simp
theorem Qo (h:j≤800):Xd D nd k r0 j=false:=by
 unfold Xd;rw[List.any_eq_false];intro i hi;have:=qj.1 hi;rw[gj (by omega)];simp
def Bd (D:Nat→Nat) (nd k:Nat):Nat:=min (rsW D nd k (AF D nd k)) 800
def xk (D:Nat→Nat) (nd k:Nat):Nat→Nat:=sb D nd k (AF D nd k) (rsW D nd k (AF D nd k))
def Ds (D:Nat→Nat) (nd k:Nat):Nat:=eE (xk D nd k) (Bd D nd k)
def PN (D:Nat→Nat) (nd k:Nat) (dp:Int):Int:=pB (xk D nd k) (Bd D nd k) (dp-((AF D nd k:Int)-1))
def XO (D:Nat→Nat) (nd k:Nat) (tr:Bool):Bool:=tr||Xd D nd k (AF D nd k) (rsW D nd k (AF D nd k))
def gT (D:Nat→Nat) (nd:Nat):List UInt8→Nat→Bool
 |[],_=>false
 |c::r,i=>if nd≤i then true else if D i=c.toNat then gT D nd r (i+1)else decide (D i<c.toNat)
def Sg (D:Nat→Nat):Nat→Nat→Nat
 |_,0=>0
 |i,m+1=>(D i-48)*10^m+Sg D (i+1) m
def vl:List UInt8→Nat
 |[]=>0
 |c::r=>(c.toNat-48)*10^r.length+vl r
def xl:List UInt8→Prop
 |[]=>True
 |[c]=>49≤c.toNat∧c.toNat≤57
 |c::d::r=>48≤c.toNat∧c.toNat≤57∧xl (d::r)
theorem xl.head: ∀{r:List UInt8},xl (c::r)→48≤c.toNat∧c.toNat≤57
 |[],h=>⟨bR (by omega) h.1,h.2⟩
 |_::_,h=>⟨h.1,h.2.1⟩
theorem xl.tail: ∀{r:List UInt8},xl (c::r)→xl r
 |[],_=>trivial
 |_::_,h=>h.2.2
theorem TN {c:UInt8}: ∀{r:List UInt8},xl (c::r)→0<vl (c::r)
 |[],h=>by simp only[xl]at h;simp only[vl,o8,o9];omega
 |d::r,h=>by
  have:=TN h.2.2;rw[vl];omega
theorem η: ∀{r:List UInt8},xl r→vl r<10^r.length
 |[],_=>by simp[vl]
 |c::r,h=>by
  have ih:=η h.tail;have hc:=h.head;rw[vl,ek,ep];have:(c.toNat-48)*10^r.length≤9*10^r.length:=fg _ (by omega);omega
theorem TO {D:Nat→Nat} {nd:Nat} (h:js D nd): ∀(m i:Nat),i+m≤nd→Sg D i m<10^m
 |0,_,_=>by simp[Sg]
 |m+1,i,hi=>by
  have ih:=TO h m (i+1) (by omega);have hc:=h.1 i (by omega);rw[Sg,ep];have:(D i-48)*10^m≤9*10^m:=fg _ (by omega);omega
theorem OG {D:Nat→Nat} {nd:Nat}: ∀(m i:Nat),i+m=nd→pre D nd nd=pre D nd i*10^m+Sg D i m
 |0,i,hi=>by rw[←hi];simp[Sg]
 |m+1,i,hi=>by
  have ih:=OG (D:=D) (nd:=nd) m (i+1) (by omega);rw[ih,pre,Sg,sa,az (by omega),ep,ow,cg,fx 10 (10^m)];omega
theorem UD {e:Nat} (hX:X<A) (hY:Y<B):((d*A+X)*(B*10)<(e*B+Y)*(A*10))↔(d<e∨(d=e∧X*B<Y*A)):=by
 have hA:0<A:=by omega
 have hB:0<B:=by omega
 have e1:(d*A+X)*(B*10)=(d*(A*B)+X*B)*10:=by rw[←cg,ow,cg]
 have e2:(e*B+Y)*(A*10)=(e*(A*B)+Y*A)*10:=by rw[←cg,ow,cg,fx B A]
 rw[e1,e2];have hXB:X*B<A*B:=qB hX hB;have hYA:Y*A<A*B:=by rw[fx A B];exact qB hY hA
 obtain⟨P,hP⟩: ∃P,P=A*B:=⟨_,rfl⟩;rw[←hP]at hXB hYA ⊢
 rcases Ed d e with h|h|h
 ·have:(d+1)*P≤e*P:=fg _ h;rw[ow]at this;constructor
  ·intro _;exact .inl h
  ·intro _;omega
 ·subst h;constructor
  ·intro h2;exact .inr ⟨rfl,by omega⟩
  ·rintro(h2|⟨_,h2⟩)
   ·omega
   ·omega
 ·have:(e+1)*P≤d*P:=fg _ h;rw[ow]at this;constructor
  ·intro h2;omega
  ·rintro(h2|⟨h2,_⟩)
   ·omega
   ·omega
theorem EN {D:Nat→Nat} {nd:Nat} (h:js D nd): ∀(r:List UInt8) (i m:Nat),i+m=nd→xl r→(gT D nd r i=true↔Sg D i m*10^r.length<vl r*10^m)
 |[],i,m,_,_=>by simp[gT,vl]
 |c::r,i,0,hi,hr=>by
  have:=TN hr;rw[gT,az (by omega)];simp only[Sg,yB,o9,oj,true_iff];exact this
 |c::r,i,m+1,hi,hr=>by
  have ih:=EN h r (i+1) m (by omega) hr.tail;have hX:=TO h m (i+1) (by omega);have hY:=η hr.tail;have hd:=h.1 i (by omega);have hc:=hr.head;rw[gT,ah (by omega),Sg,vl,ek,ep,ep,UD hX hY];by_cases hD:D i=c.toNat
  ·rw[az hD,ih,hD];simp
  ·rw[ah hD,zK];omega
theorem abP {s:List UInt8} (h:js D nd) (hn:0<nd) (hs:xl s) (hv:vl s=5^k) (hl:s.length+δ=k+1) (hδ:1≤δ) (ajF:10^(δ-1)≤2^k) (ajG:2^k≤10^δ):
  (gT D nd s 0=false→10^(nd+δ-1)≤pre D nd nd*2^k∧pre D nd nd*2^k<10^(nd+δ))∧
  (gT D nd s 0=true→10^(nd+δ-2)≤pre D nd nd*2^k∧pre D nd nd*2^k<10^(nd+δ-1)):=by
 have hN:pre D nd nd=Sg D 0 nd:=by have:=OG (D:=D) (nd:=nd) nd 0 (by omega);simpa [pre]using this
 have hp:=EN h s 0 nd (by omega) hs;rw[←hN,hv]at hp;have AG:10^(nd-1)≤pre D nd nd:=by
  have:=lN h hn (nd-1)
  rwa [Iw hn]at this
 have sP:=xx h nd;obtain⟨N,hNN⟩: ∃N,N=pre D nd nd:=⟨_,rfl⟩;rw[←hNN]at hp AG sP ⊢
 have Hg:(5:Nat)^k*2^k=10^k:=by rw[←Ba]
 constructor
 ·intro hf;have lW:5^k*10^nd≤N*10^s.length:=by
   rcases dE (N*10^s.length) (5^k*10^nd)with aA|lW
   ·have:=hp.2 aA;rw[hf]at this;simp at this
   ·exact lW
  constructor
  ·have h1:10^s.length*10^(nd+δ-1)≤10^s.length*(N*2^k):=by
    have e1:10^s.length*10^(nd+δ-1)=5^k*10^nd*2^k:=by
     rw[yn,Hg,←dV,←dV];congr 1;omega
    have e2:10^s.length*(N*2^k)=N*10^s.length*2^k:=by rw[←cg,fx (10^s.length) N]
    rw[e1,e2];exact fg _ lW
   exact Nat.le_of_mul_le_mul_left h1 (eZ (by omega))
  ·rw[dV];exact iv (qB sP (eZ (by omega))) (tZ _ ajG)
 ·intro ht;have aA:=hp.1 ht;constructor
  ·have e1:(10:Nat)^(nd+δ-2)=10^(nd-1)*10^(δ-1):=by rw[←dV];congr 1;omega
   rw[e1];exact ov AG ajF
  ·have h1:10^s.length*(N*2^k)<10^s.length*10^(nd+δ-1):=by
    have e1:10^s.length*10^(nd+δ-1)=5^k*10^nd*2^k:=by
     rw[yn,Hg,←dV,←dV];congr 1;omega
    have e2:10^s.length*(N*2^k)=N*10^s.length*2^k:=by rw[←cg,fx (10^s.length) N]
    rw[e1,e2];exact qB aA (eZ (by omega))
   exact Nat.lt_of_mul_lt_mul_left h1
def Di (k:Nat):Nat:=(Go.Pinned.cheatRows.getD k (0,[])).1
def Lq (k:Nat):List UInt8:=(Go.Pinned.cheatRows.getD k (0,[])).2
def IP:List UInt8→Bool
 |[]=>true
 |[c]=>decide (49≤c.toNat)&&decide (c.toNat≤57)
 |c::d::r=>decide (48≤c.toNat)&&decide (c.toNat≤57)&&IP (d::r)
theorem Ja: ∀{l:List UInt8},IP l=true→xl l
 |[],_=>trivial
 |[c],h=>by simp only[IP,kH,ua]at h;exact h
 |c::d::r,h=>by
  rw[IP,kH,kH]at h;exact⟨mR h.1.1,mR h.1.2,Ja h.2⟩
def TP (k:Nat):Bool:=IP (Lq k)&&decide (vl (Lq k)=5^k)&&decide ((Lq k).length+Di k=k+1)&&decide (1≤Di k)&&decide (10^(Di k-1)≤2^k)&&decide (2^k≤10^Di k)&&decide (Di k≤20)&&decide ((Lq k).length≤60)
theorem Qp:((List.range 60).all fun k=>TP (k+1))=true:=by kernel_rfl
structure Yn (k:Nat):Prop where
 gK:xl (Lq k)
 val:vl (Lq k)=5^k
 len:(Lq k).length+Di k=k+1
 pos:1≤Di k
 lo:10^(Di k-1)≤2^k
 hi:2^k≤10^Di k
 small:Di k≤20
 short:(Lq k).length≤60
theorem Bx (h1:1≤k) (h2:k≤60):Yn k:=by
 have:=qS.1 Qp (k-1) (qj.2 (by omega));rw[Iw h1]at this;simp only[TP,kH,ua]at this;obtain⟨⟨⟨⟨⟨⟨⟨a,b⟩,c⟩,d⟩,e⟩,f⟩,g⟩,i⟩:=this;exact⟨Ja a,b,c,d,e,f,g,i⟩
def KX (D:Nat→Nat) (nd k:Nat):Nat:=pre D nd nd*2^k
def LU (D:Nat→Nat) (nd k:Nat):Bool:=gT D nd (Lq k) 0
def tf (D:Nat→Nat) (nd k:Nat):Nat:=if LU D nd k=true then nd+Di k-1 else nd+Di k
def tg (D:Nat→Nat) (M L j:Nat):Nat→Nat:=fun i=>if L-j≤i∧i<L∧i<800 then 48+M/10^(L-1-i)%10 else D i
def Wr (M L j:Nat):Bool:=(List.range j).any fun t=>decide (800≤L-1-t)&&decide (M/10^t%10≠0)
def RR (N k j:Nat):Nat:=(N%10^j*2^k)/10^j
theorem jY (h:js D nd) (hn:0<nd) (h1:1≤k) (h2:k≤60):10^(tf D nd k-1)≤KX D nd k∧KX D nd k<10^tf D nd k∧nd≤tf D nd k∧tf D nd k≤nd+20:=by
 have c:=Bx h1 h2;have hl:=abP h hn c.gK c.val c.len c.pos c.lo c.hi;have cp:=c.pos;have cs:=c.small;unfold tf KX;cases hb:LU D nd k
 ·rw[ah (by simp)];have:=hl.1 hb;exact⟨this.1,this.2,by omega,by omega⟩
 ·rw[az rfl];have:=hl.2 hb;exact⟨by rw[show nd+Di k-1-1=nd+Di k-2 by omega];exact this.1,this.2,by omega,by omega⟩
theorem Jb (hd:N/10^j%10=d):(RR N k j+d*2^k)%10=N*2^k/10^j%10∧(RR N k j+d*2^k)/10=RR N k (j+1)∧RR N k j<2^k:=by
 have hT:0<10^j:=eZ (by omega);have hm:N%10^(j+1)=N%10^j+10^j*d:=by rw[ep,Nat.mod_mul,hd]
 have h1:RR N k j+d*2^k=N%10^(j+1)*2^k/10^j:=by
  rw[hm,ow,cg,Nat.add_mul_div_left _ _ hT,RR]
 refine⟨?_,?_,?_⟩
 ·rw[h1];have h2:N=N%10^(j+1)+10^(j+1)*(N/10^(j+1)):=(Nat.mod_add_div _ _).symm;have h3:N*2^k=N%10^(j+1)*2^k+10^j*(10*(N/10^(j+1)*2^k)):=by
   conv=>lhs;rw[h2]
   rw[ow,ep,cg (10^j) 10,cg (10^j),cg 10]
  rw[h3,Nat.add_mul_div_left _ _ hT,Ti]
 ·rw[h1,RR,D8,←ep]
 ·rw[RR,zJ hT,fx (2^k)];exact qB (my _ hT) (eZ (by omega))
theorem Ar {D:Nat→Nat} {nd:Nat} (h:js D nd) (a:Nat): ∀j,pre D nd (a+j)/10^j=pre D nd a
 |0=>by simp
 |j+1=>by
  have ih:=Ar h a j;have hd:=pC h (a+j);rw[←A6,pre,ep,fx (10^j),←D8,show (pre D nd (a+j)*10+sa D nd (a+j))/10=pre D nd (a+j)by omega,ih]
theorem Yo (h:js D nd) {j:Nat} (hj:j<nd):pre D nd nd/10^j%10=D (nd-1-j)-48:=by
 have e:nd=(nd-1-j)+1+j:=by omega
 have h1:=Ar h (nd-1-j+1) j;rw[←e]at h1;have hd:=pC h (nd-1-j);rw[h1,pre];have h2:sa D nd (nd-1-j)=D (nd-1-j)-48:=by rw[sa,az (by omega)]
 omega
theorem MA (h:N<10^nd) (hj:nd≤j):RR N k j=N*2^k/10^j:=by
 rw[RR,s5 (iv h (dZ (by omega) hj))]
theorem Jc (hj:j<L) (h8:L-(j+1)<800):Hh (tg D M L j) (L-(j+1)) (48+M/10^j%10)=tg D M L (j+1):=by
 funext i;unfold Hh tg;by_cases e:i=L-(j+1)
 ·have e2:L-1-i=j:=by omega
  rw[az e,az ⟨by omega,by omega,by omega⟩,e2]
 ·rw[ah e];by_cases h:L-j≤i∧i<L∧i<800
  ·rw[az h,az ⟨by omega,h.2⟩]
  ·rw[ah h,ah (by omega)]
theorem As (h8:800≤L-(j+1)):tg D M L (j+1)=tg D M L j:=by
 funext i;unfold tg;by_cases h:L-j≤i∧i<L∧i<800
 ·rw[az h,az ⟨by omega,h.2⟩]
 ·rw[ah h,ah (by omega)]
theorem UE (h:r<L-j):tg D M L j r=D r:=by
 unfold tg;rw[ah (by omega)]
theorem UF:tg D M L 0=D:=by
 funext i;unfold tg;rw[ah (by omega)]
theorem oC:Wr M L (j+1)=(Wr M L j||(decide (800≤L-1-j)&&decide (M/10^j%10≠0))):=by
 unfold Wr;rw[qU,List.any_append];simp
def po (D:Nat→Nat) (nd k:Nat):Nat→Nat:=tg D (KX D nd k) (tf D nd k) (tf D nd k)
def xm (D:Nat→Nat) (nd k:Nat):Nat:=eE (po D nd k) (min (tf D nd k) 800)
def PO (D:Nat→Nat) (nd k:Nat) (dp:Int):Int:=pB (po D nd k) (min (tf D nd k) 800) (dp+((tf D nd k:Int)-nd))
def XP (D:Nat→Nat) (nd k:Nat) (tr:Bool):Bool:=tr||Wr (KX D nd k) (tf D nd k) (tf D nd k)
structure cM where
 D:Nat→Nat
 nd:Nat
 dp:Int
 tr:Bool
structure cM.Ok (S:cM):Prop where
 gK:js S.D S.nd
 pos:0<S.nd
 le:S.nd≤800
def cM.ls (S:cM) (k:Nat):cM:=⟨po S.D S.nd k,xm S.D S.nd k,PO S.D S.nd k S.dp,XP S.D S.nd k S.tr⟩
def cM.rs (S:cM) (k:Nat):cM:=⟨xk S.D S.nd k,Ds S.D S.nd k,PN S.D S.nd k S.dp,XO S.D S.nd k S.tr⟩
theorem xI {D:Nat→Nat} (h:D 0≠48): ∀m,0<m→0<eE D m
 |0,h0=>absurd h0 (by omega)
 |m+1,_=>by
  unfold eE;split
  ·rename_i he;cases m with
   |zero=>exact absurd he h
   |succ q=>exact xI h (q+1) (by omega)
  ·omega
theorem Cf (h1: ∀i,i<m→48≤D i∧D i≤57) (h0:D 0≠48):js D (eE D m):=
 ⟨fun i hi=>h1 i (iv hi (mF D m)),fun _=>h0⟩
theorem cM.yF {S:cM} (h:S.Ok) {k:Nat} (h1:1≤k) (h2:k≤60):(S.ls k).Ok∧(S.ls k).dp=S.dp+((tf S.D S.nd k:Int)-S.nd)∧(S.ls k).D 0=48+KX S.D S.nd k/10^(tf S.D S.nd k-1):=by
 have hb:=jY h.gK h.pos h1 h2;have hp:=h.pos;obtain⟨L,hL⟩: ∃L,L=tf S.D S.nd k:=⟨_,rfl⟩;obtain⟨M,hM⟩: ∃M,M=KX S.D S.nd k:=⟨_,rfl⟩;rw[←hL,←hM]at hb;have eF:po S.D S.nd k=tg S.D M L L:=by rw[po,←hL,←hM]
 have oo: ∀i,i<min L 800→48≤tg S.D M L L i∧tg S.D M L L i≤57:=fun i hi=>by
  unfold tg;rw[az ⟨by omega,by omega,by omega⟩];omega
 have re:M/10^(L-1)%10=M/10^(L-1)∧1≤M/10^(L-1):=by
  have hT:0<10^(L-1):=eZ (by omega);constructor
  ·apply s5;rw[zJ hT,fx,←ep,show (L-1).succ=L by omega];exact hb.2.1
  ·exact Nat.div_pos hb.1 hT
 have h0:tg S.D M L L 0=48+M/10^(L-1):=by
  unfold tg;rw[az ⟨by omega,by omega,by omega⟩,Nat.sub_zero,re.1]
 have bW:tg S.D M L L 0≠48:=by have:=re.2;omega
 have hm0:0<min L 800:=by omega
 have eN:xm S.D S.nd k=eE (tg S.D M L L) (min L 800):=by rw[xm,eF,←hL]
 have htp:=xI bW _ hm0;refine⟨⟨?_,?_,?_⟩,?_,?_⟩
 ·show js (po S.D S.nd k) (xm S.D S.nd k);rw[eF,eN];exact Cf oo bW
 ·show 0<xm S.D S.nd k;rw[eN];exact htp
 ·show xm S.D S.nd k≤800;rw[eN];have:=mF (tg S.D M L L) (min L 800);omega
 ·show PO S.D S.nd k S.dp=_;rw[PO,eF,←hL,pB,ah (by omega)]
 ·show po S.D S.nd k 0=_;rw[eF,h0,←hL,←hM]
theorem sx {p:Nat→Bool}: ∀(f r:Nat),(∃m,r≤m∧m<r+f∧p m=true)→p (pj p f r)=true∧r≤pj p f r∧ ∀m,r≤m→m<pj p f r→p m=false
 |0,r,h=>by obtain⟨m,h1,h2,_⟩:=h;omega
 |f+1,r,h=>by
  rw[pj];by_cases hp:p r=true
  ·rw[az hp];exact⟨hp,aS _,fun m h1 h2=>by omega⟩
  ·rw[ah hp];obtain⟨m,h1,h2,h3⟩:=h;have hm:m≠r:=by rintro rfl;exact hp h3
   obtain⟨a,b,c⟩:=sx f (r+1) ⟨m,by omega,by omega,h3⟩;refine⟨a,by omega,fun q h4 h5=>?_⟩;by_cases hq:q=r
   ·subst hq;simpa using hp
   ·exact c q (by omega) h5
theorem oD (h:js D nd) (hn:0<nd) (hk:k≤60):2^k≤pre D nd (AF D nd k)∧(∀m,m<AF D nd k→pre D nd m<2^k)∧1≤AF D nd k∧AF D nd k≤21:=by
 have hex:tC D nd k 21=true:=by
  rw[tC,zK];have h1:10^20≤pre D nd 21:=lN h hn 20;have h2:(2:Nat)^k≤2^60:=dZ (by omega) hk;have h3:(2:Nat)^60≤10^20:=by decide
  omega
 obtain⟨a,b,c⟩:=sx (p:=tC D nd k) 1000 0 ⟨21,by omega,by omega,hex⟩;have a':2^k≤pre D nd (AF D nd k):=mR a;refine⟨a',fun m hm=>?_,?_,?_⟩
 ·have:=c m (aV _) hm;have:=sX this;omega
 ·rcases jL (AF D nd k)with h0|h0
  ·rw[h0]at a';have:0<2^k:=eZ (by omega);simp[pre]at a'
  ·exact h0
 ·rcases dE 21 (AF D nd k)with h0|h0
  ·have:=c 21 (by omega) h0;rw[hex]at this;cases this
  ·exact h0
theorem cM.vH {S:cM} (h:S.Ok) {k:Nat} (h1:1≤k) (h2:k≤60):(S.rs k).Ok∧(S.rs k).dp=S.dp-((AF S.D S.nd k:Int)-1)∧(S.rs k).D 0=48+pre S.D S.nd (AF S.D S.nd k)/2^k:=by
 obtain⟨hr1,Pp,Sh,hr4⟩:=oD h.gK h.pos h2;obtain⟨R,hR⟩: ∃R,R=AF S.D S.nd k:=⟨_,rfl⟩;rw[←hR]at hr1 Pp Sh hr4;have hK:0<2^k:=eZ (by omega);have aA:pre S.D S.nd R<10*2^k:=by
  obtain⟨q,rfl⟩: ∃q,R=q+1:=⟨R-1,by omega⟩;have h3:=Pp q (by omega);have h4:=pC h.gK q;rw[pre];omega
 obtain⟨W,hW⟩: ∃W,W=rsW S.D S.nd k R:=⟨_,rfl⟩;have lX:1≤W:=by
  rcases jL W with h0|h0
  ·exfalso;have hex: ∃m,S.nd-R≤m∧m<(S.nd-R)+(2000-(S.nd-R))∧mB S.D S.nd k R m=true:=by
    refine⟨S.nd+k+1,by omega,by have:=h.le;omega,?_⟩;rw[mB,zK,show R+(S.nd+k+1)=S.nd+(k+1+R)by omega,gX];have e:(10:Nat)^(k+1+R)=(10*2^k)*(5^k*10^R):=by
     rw[dV,ep,show (10:Nat)^k=2^k*5^k by rw[←Ba]];simp only[cg,fx,qh]
    rw[e,←cg,fx (pre S.D S.nd S.nd),cg];exact Nat.mul_mod_right _ _
   obtain⟨a,_,_⟩:=sx (p:=mB S.D S.nd k R) _ _ hex;have hz:mB S.D S.nd k R 0=true:=by
    have:mB S.D S.nd k R W=true:=by rw[hW];exact a
    rwa [h0]at this
   have:=mR hz;rw[iz,s5 aA]at this;omega
  ·exact h0
 have eF:xk S.D S.nd k=sb S.D S.nd k R W:=by rw[xk,←hR,←hW]
 have e0:Bd S.D S.nd k=min W 800:=by rw[Bd,←hR,←hW]
 have oo: ∀i,i<min W 800→48≤sb S.D S.nd k R W i∧sb S.D S.nd k R W i≤57:=fun i hi=>by
  unfold sb iY;rw[az ⟨by omega,by omega⟩];omega
 have hl:pre S.D S.nd R/2^k<10∧1≤pre S.D S.nd R/2^k:=⟨by rw[zJ hK];exact aA,Nat.div_pos hr1 hK⟩;have h0:sb S.D S.nd k R W 0=48+pre S.D S.nd R/2^k:=by
  unfold sb iY;rw[az ⟨by omega,by omega⟩,iz,s5 hl.1]
 have bW:sb S.D S.nd k R W 0≠48:=by have:=hl.2;omega
 have hm0:0<min W 800:=by omega
 have eN:Ds S.D S.nd k=eE (sb S.D S.nd k R W) (min W 800):=by rw[Ds,eF,e0]
 have htp:=xI bW _ hm0;refine⟨⟨?_,?_,?_⟩,?_,?_⟩
 ·show js (xk S.D S.nd k) (Ds S.D S.nd k);rw[eF,eN];exact Cf oo bW
 ·show 0<Ds S.D S.nd k;rw[eN];exact htp
 ·show Ds S.D S.nd k≤800;rw[eN];have:=mF (sb S.D S.nd k R W) (min W 800);omega
 ·show PN S.D S.nd k S.dp=_;rw[PN,eF,e0,pB,ah (by omega),←hR]
 ·show xk S.D S.nd k 0=_;rw[eF,h0,←hR]
def cM.Xe (k:Nat) (S:cM):cM:=if h:60<k then cM.Xe (k-60) (S.ls 60)else S.ls k
termination_by k
def cM.Lr (k:Nat) (S:cM):cM:=if h:60<k then cM.Lr (k-60) (S.rs 60)else S.rs k
termination_by k
theorem cM.UG {S:cM} (h:60<k):cM.Xe k S=cM.Xe (k-60) (S.ls 60):=by rw[cM.Xe,dif_pos h]
theorem cM.vZ {S:cM} (h:k≤60):cM.Xe k S=S.ls k:=by rw[cM.Xe,dif_neg (by omega)]
theorem cM.Jd {S:cM} (h:60<k):cM.Lr k S=cM.Lr (k-60) (S.rs 60):=by rw[cM.Lr,dif_pos h]
theorem cM.wa {S:cM} (h:k≤60):cM.Lr k S=S.rs k:=by rw[cM.Lr,dif_neg (by omega)]
def gC (n:Nat):Nat:=if 9≤n then 27 else[1,3,6,9,13,16,19,23,26].getD n 0
theorem je (n:Nat):1≤gC n∧gC n≤27:=by
 unfold gC;by_cases h:9≤n
 ·rw[az h];omega
 ·rw[ah h];have: ∀m,m<9→1≤[1,3,6,9,13,16,19,23,26].getD m 0∧[1,3,6,9,13,16,19,23,26].getD m 0≤27:=by decide
  exact this n (by omega)
theorem MB (h:1≤n):3≤gC n:=by
 unfold gC;by_cases h9:9≤n
 ·rw[az h9];omega
 ·rw[ah h9];have: ∀m,m<9→1≤m→3≤[1,3,6,9,13,16,19,23,26].getD m 0:=by decide
  exact this n (by omega) h
theorem UH (h:2≤n):6≤gC n:=by
 unfold gC;by_cases h9:9≤n
 ·rw[az h9];omega
 ·rw[ah h9];have: ∀m,m<9→2≤m→6≤[1,3,6,9,13,16,19,23,26].getD m 0:=by decide
  exact this n (by omega) h
def tU:Nat→cM→Int→cM×Int
 |0,S,e=>(S,e)
 |f+1,S,e=>if 0<S.dp then tU f (S.rs (gC S.dp.toNat)) (e+gC S.dp.toNat)else(S,e)
def Zy (S:cM):Nat:=2*S.dp.toNat+(if 56≤S.D 0 then 1 else 0)
theorem Gh {S:cM} (h: ¬0<S.dp) (f:Nat) (e:Int):tU f S e=(S,e):=by
 cases f with
 |zero=>rfl
 |succ f=>rw[tU,ah h]
theorem Je {S:cM} (h:0<S.dp) (f:Nat) (e:Int):tU (f+1) S e=tU f (S.rs (gC S.dp.toNat)) (e+gC S.dp.toNat):=by rw[tU,az h]
theorem Jf {S:cM} (cH:S.Ok) (h:0<S.dp):Zy (S.rs (gC S.dp.toNat))<Zy S:=by
 obtain⟨k,hk⟩: ∃k,k=gC S.dp.toNat:=⟨_,rfl⟩;have hb:=je S.dp.toNat;have h3:=MB (n:=S.dp.toNat) (by omega);rw[←hk]at hb h3 ⊢
 obtain⟨_,h2,h4⟩:=cM.vH cH (k:=k) hb.1 (by omega);obtain⟨f1,f2,f3,f4⟩:=oD cH.gK cH.pos (k:=k) (by omega);obtain⟨R,hR⟩: ∃R,R=AF S.D S.nd k:=⟨_,rfl⟩;rw[←hR]at h2 h4 f1 f2 f3;unfold Zy;rw[h2];by_cases hR1:R=1
 ·have hpr:pre S.D S.nd 1=S.D 0-48:=by simp[pre,sa,cH.pos]
  rw[hR1,hpr]at f1 h4;have hd:=cH.gK.1 0 cH.pos;have hp8:(8:Nat)≤2^k:=dZ (n:=2) (by omega) h3;have h56:56≤S.D 0:=by omega
  have FT: ¬56≤(S.rs k).D 0:=by
   rw[h4];have:(S.D 0-48)/2^k≤(S.D 0-48)/8:=Og hp8 (by omega);omega
  rw[az h56,ah FT,hR1];omega
 ·have:(S.dp-((R:Int)-1)).toNat+1≤S.dp.toNat:=by omega
  split<;>split<;>omega
def yG (S:cM):Prop:=S.dp<0∨(S.dp=0∧S.D 0<53)
instance (S:cM):Decidable (yG S):=inferInstanceAs (Decidable (_∨_))
def zB:Nat→cM→Int→cM×Int
 |0,S,e=>(S,e)
 |f+1,S,e=>if yG S then zB f (S.ls (gC (-S.dp).toNat)) (e-gC (-S.dp).toNat)else(S,e)
def Si (S:cM):Nat:=if S.dp<0 then 100*(-S.dp).toNat+(if S.D 0=49 then 1 else 0)else 60-S.D 0
theorem Gi {S:cM} (h: ¬yG S) (f:Nat) (e:Int):zB f S e=(S,e):=by
 cases f with
 |zero=>rfl
 |succ f=>rw[zB,ah h]
theorem By {S:cM} (h:yG S) (f:Nat) (e:Int):zB (f+1) S e=zB f (S.ls (gC (-S.dp).toNat)) (e-gC (-S.dp).toNat):=by rw[zB,az h]
theorem Jg {S:cM} (cH:S.Ok) (h:yG S):Si (S.ls (gC (-S.dp).toNat))<Si S:=by
 obtain⟨k,hk⟩: ∃k,k=gC (-S.dp).toNat:=⟨_,rfl⟩;have hb:=je (-S.dp).toNat;rw[←hk]at hb ⊢
 obtain⟨_,h2,h4⟩:=cM.yF cH (k:=k) hb.1 (by omega);have Hi:=jY cH.gK cH.pos (k:=k) hb.1 (by omega);have hd:=cH.gK.1 0 cH.pos;have Pq:=cH.gK.2 cH.pos;have hD:48≤(S.ls k).D 0:=by rw[h4];exact Nat.le_add_right _ _
 have cok:=Bx hb.1 (by omega:k≤60);have AG:10^(S.nd-1)≤pre S.D S.nd S.nd:=by
  have:=lN cH.gK cH.pos (S.nd-1)
  rwa [Iw cH.pos]at this
 have re:pre S.D S.nd S.nd/10^(S.nd-1)=S.D 0-48:=by
  have:=Ar cH.gK 1 (S.nd-1);rw[show 1+(S.nd-1)=S.nd by have:=cH.pos;omega]at this;rw[this];simp[pre,sa,cH.pos]
 have hT:0<10^(S.nd-1):=eZ (by omega);have hnT:10^S.nd=10*10^(S.nd-1):=by
  rw[←A7]
  congr 1
  have:=cH.pos;omega
 obtain⟨N,hN⟩: ∃N,N=pre S.D S.nd S.nd:=⟨_,rfl⟩;obtain⟨L,hL⟩: ∃L,L=tf S.D S.nd k:=⟨_,rfl⟩;have hM:KX S.D S.nd k=N*2^k:=by rw[KX,hN]
 rw[←hL]at h2 h4 Hi;rw[hM]at h4 Hi;rw[←hN]at AG re;obtain⟨A,hA⟩: ∃A,A=10^(S.nd-1):=⟨_,rfl⟩;rw[←hA]at AG re hT hnT;rcases h with h|⟨h,h5⟩
 ·unfold Si;rw[az h];by_cases hg:L=S.nd
  ·
   have RS:k=3:=by
    have hle:tf S.D S.nd k=S.nd+Di k-1∨tf S.D S.nd k=S.nd+Di k:=by
     unfold tf;split
     ·exact .inl rfl
     ·exact .inr rfl
    have jK:Di k≤1:=by rw[←hL,hg]at hle;omega
    have tV:S.dp= -1:=by
     rcases dE 1 (-S.dp).toNat with hh|hh
     ·have h6:=UH (n:=(-S.dp).toNat) hh;rw[←hk]at h6;have Hg:=cok.hi;have:2^k≤10^1:=bR Hg (dZ (by omega) jK);have h64:2^6≤2^k:=dZ (by omega) h6;omega
     ·omega
    rw[hk,tV];rfl
   subst RS;have aA:N*8<10*A:=by
    have:=Hi.2.1;rw[hg,hnT]at this;exact this
   have ajH:S.D 0=49:=by
    have h7:N/A≤1:=by
     rw[←Nat.lt_succ_iff,zJ hT];omega
    rw[re]at h7;omega
   have FT:56≤(S.ls 3).D 0:=by
    rw[h4,hg,←hA];have:8≤N*2^3/A:=by
     rw[Ea hT];have:N*2^3=N*8:=rfl;omega
    omega
   rw[h2,hg,az ajH];have e:S.dp+((S.nd:Int)-S.nd)=S.dp:=by omega
   rw[e,az h,ah (by omega)];omega
  ·have aqZ:S.dp<(S.ls k).dp:=by rw[h2];have:=Hi.2.2.1;omega
   by_cases hn:(S.ls k).dp<0
   ·rw[az hn];split<;>split<;>omega
   ·rw[ah hn];split<;>omega
 ·have mP:k=1:=by rw[hk,h];rfl
  subst mP;have aA:N*2<10*A:=by
   have h8:N<(S.D 0-48+1)*A:=by
    rw[←re];exact(zJ hT).1 (vu _)
   have h9:(S.D 0-48+1)*A≤5*A:=fg _ (by omega);omega
  have hLe:L=S.nd:=by
   rcases dE S.nd L with hh|hh
   ·exfalso;have Hg:10^S.nd≤10^(L-1):=dZ (by omega) (by omega);have h11:=Hi.1;rw[hnT]at Hg;have:N*2^1=N*2:=rfl;omega
   ·have:=Hi.2.2.1;omega
  have FT:(S.ls 1).D 0≥48+2*(S.D 0-48):=by
   rw[h4,hLe,←hA];have:2*(S.D 0-48)≤N*2^1/A:=by
    rw[Ea hT];have h12:(S.D 0-48)*A≤N:=by rw[←re];exact Iu _ _
    have:N*2^1=N*2:=rfl;rw[cg];omega
   omega
  unfold Si;have e:(S.ls 1).dp=0:=by rw[h2,hLe,h];omega
  rw[ah (by omega),ah (by omega)];omega
def En (D:Nat→Nat) (i:Nat):Bool:=decide (0<i)&&decide ((D (i-1)-48)%2≠0)
def Be (S:cM) (i:Nat):Bool:=if S.D i=53∧i+1=S.nd then(S.tr||En S.D i)else decide (53≤S.D i)
def Xf (S:cM) (n:Int):Bool:=if n<0∨(S.nd:Int)≤n then false else Be S n.toNat
def lH (S:cM) (i:Nat):Nat:=pre S.D S.nd i%18446744073709551616
def FB (S:cM):Nat:=if 20<S.dp then 18446744073709551615 else if Xf S S.dp=true then(lH S S.dp.toNat+1)%18446744073709551616 else lH S S.dp.toNat
def gD (m x:Int):Int:=bits .or .u64 (bits .and .u64 m 4503599627370495) (IntKind.u64.wrap (IntKind.u64.wrap (bits .and .i64 x 2047)*4503599627370496))
def Bf:Int×Bool:=(gD 0 2047,true)
def pD (m:Nat) (e:Int):Int×Bool:=if (m&&&4503599627370496)=0 then(gD m 0,false)else(gD m (e+1023),false)
def uf (m:Nat) (e:Int):Int×Bool:=if m=9007199254740992 then(if 2047≤e+1+1023 then Bf else pD 4503599627370496 (e+1))else pD m e
def pE (S:cM) (e:Int):Int×Bool:=if 2047≤e+1023 then Bf else uf (FB (S.ls 53)) e
def tD (S:cM) (e:Int):Int×Bool:=if e< -1022 then pE (cM.Lr (-1022-e).toNat S) (-1022)else pE S e
def FC (S:cM):Int×Bool:=
 if S.nd=0 then(gD 0 0,false)
 else if 310<S.dp then Bf
 else if S.dp< -330 then(gD 0 0,false)
 else tD (zB 34000 (tU 1000 S 0).1 (tU 1000 S 0).2).1 ((zB 34000 (tU 1000 S 0).1 (tU 1000 S 0).2).2-1)
structure RF where
 fk:Nat
 th:Nat
 nd:Nat
 dp:Int
 dot:Bool
 gK:Bool
 tr:Bool
def gE (s:RF) (c:UInt8):RF:=
 if c.toNat=46 then⟨s.fk,s.th,s.nd,s.nd,true,s.gK,s.tr⟩
 else if c.toNat=48∧s.nd=0 then⟨s.fk,s.th,s.nd,s.dp-1,s.dot,true,s.tr⟩
 else if s.th<19 then⟨s.fk*10+(c.toNat-48),s.th+1,s.nd+1,s.dp,s.dot,true,s.tr⟩
 else⟨s.fk,s.th,s.nd+1,s.dp,s.dot,true,s.tr||c.toNat != 48⟩
def rf0:RF:=⟨0,0,0,0,false,false,false⟩
def fl (l:List UInt8) (k:Nat):RF:=(l.take k).foldl gE rf0
theorem oL (l:List UInt8):fl l 0=rf0:=rfl
theorem im (h:k<l.length):fl l (k+1)=gE (fl l k) (au l k):=by
 have:l[k]=au l k:=by rw[au,lf,lJ h];rfl
 rw[fl,jO h,yq,this];rfl
def lu (l:List UInt8) (m:Nat):Prop:=m≤l.length∧ ∀i,i<m→digit (au l i)=true∨((au l i).toNat=46∧ ∀j,j<i→(au l j).toNat≠46)
structure ab2 (k:Nat) (s:RF):Prop where
 th:s.th≤19∧s.th≤s.nd∧s.nd≤k
 fk:s.fk<10^s.th
 dp: -(k:Int)≤s.dp∧s.dp≤k
theorem aJ (h:digit c=true):48≤c.toNat∧c.toNat≤57:=by simpa [digit]using h
theorem Qq {s:RF} (h:ab2 k s) (hc:digit c=true∨c.toNat=46):ab2 (k+1) (gE s c):=by
 obtain⟨⟨h1,h2,h3⟩,h4,h5,h6⟩:=h;unfold gE;split
 ·exact⟨⟨h1,h2,by show s.nd≤k+1;omega⟩,h4,by constructor<;>(simp only;omega)⟩
 ·rename_i hn;have hd:=aJ (hc.resolve_right hn);split
  ·exact⟨⟨h1,h2,by show s.nd≤k+1;omega⟩,h4,by constructor<;>(simp only;omega)⟩
  ·split
   ·refine⟨⟨by show s.th+1≤19;omega,by show s.th+1≤s.nd+1;omega,by show s.nd+1≤k+1;omega⟩,?_,by constructor<;>(simp only;omega)⟩;show s.fk*10+(c.toNat-48)<10^(s.th+1);rw[ep];omega
   ·exact⟨⟨h1,by show s.th≤s.nd+1;omega,by show s.nd+1≤k+1;omega⟩,h4,by constructor<;>(simp only;omega)⟩
theorem At {l:List UInt8} {m:Nat} (h:lu l m): ∀k,k≤m→ab2 k (fl l k)
 |0,_=>⟨⟨by simp[oL,rf0],by simp[oL,rf0],by simp[oL,rf0]⟩,by simp[oL,rf0],by simp[oL,rf0]⟩
 |k+1,hk=>by
  have hl:=h.1;rw[im (by omega)];refine Qq (At h k (by omega)) ?_;rcases h.2 k (by omega)with hd|hd
  ·exact .inl hd
  ·exact .inr hd.1
theorem MC (s:RF) (c:UInt8):(gE s c).dot=(s.dot||c.toNat==46):=by
 unfold gE;split
 ·rename_i h;simp[h]
 ·rename_i h;have h':(c.toNat==46)=false:=by simpa using h
  rw[h',qk]
  repeat' split
  all_goals rfl
theorem Jh {l:List UInt8}: ∀k,k≤l.length→(∀j,j<k→(au l j).toNat≠46)→(fl l k).dot=false
 |0,_,_=>rfl
 |k+1,hk,h=>by
  have h1:((au l k).toNat==46)=false:=by simpa using h k (by omega)
  rw[im (by omega),MC,Jh k (by omega) fun j hj=>h j (by omega),h1];rfl
theorem Cg {s:RF} (h:digit c=true∨s.gK=true):(gE s c).gK=true∨(c.toNat=46∧(gE s c).gK=s.gK):=by
 unfold gE;split
 ·rename_i hc;exact .inr ⟨hc,rfl⟩
 ·left
  repeat' split
  all_goals rfl
theorem Ji {l:List UInt8} {m:Nat} (h:lu l m) {i:Nat} (hd:digit (au l i)=true): ∀k,k≤m→i<k→(fl l k).gK=true
 |0,_,hi=>by omega
 |k+1,hk,hi=>by
  have hl:=h.1;rw[im (by omega)];by_cases he:i=k
  ·subst he;rcases Cg (s:=fl l i) (.inl hd)with h1|⟨h1,_⟩
   ·exact h1
   ·have:=aJ hd;omega
  ·have ih:=Ji h hd k (by omega) (by omega);rcases Cg (c:=au l k) (.inr ih)with h1|⟨_,h1⟩
   ·exact h1
   ·rw[h1,ih]
theorem afP {D:Nat} (h:fl l k=⟨M,N,D,P,dt,dg,tr⟩) (hk:k<l.length) (hc:(au l k).toNat=46):fl l (k+1)=⟨M,N,D,D,true,dg,tr⟩:=by
 rw[im hk,h,gE,az hc]
theorem Yp {D:Nat} (h:fl l k=⟨M,N,D,P,dt,dg,tr⟩) (hk:k<l.length) (hc:(au l k).toNat=48) (hD:D=0):fl l (k+1)=⟨M,N,D,P-1,dt,true,tr⟩:=by
 rw[im hk,h,gE,ah (by omega),az ⟨hc,hD⟩]
theorem afQ {D:Nat} (h:fl l k=⟨M,N,D,P,dt,dg,tr⟩) (hk:k<l.length) (hc:digit (au l k)=true) (hD: ¬((au l k).toNat=48∧D=0)) (hN:N<19):
  fl l (k+1)=⟨M*10+((au l k).toNat-48),N+1,D+1,P,dt,true,tr⟩:=by
 have:=aJ hc;rw[im hk,h,gE,ah (by omega),ah hD,az hN]
theorem Yq {D:Nat} (h:fl l k=⟨M,N,D,P,dt,dg,tr⟩) (hk:k<l.length) (hc:(au l k).toNat=48) (hD: ¬((au l k).toNat=48∧D=0)) (hN: ¬N<19):
  fl l (k+1)=⟨M,N,D+1,P,dt,true,tr⟩:=by
 have hb:((au l k).toNat != 48)=false:=by rw[hc];rfl
 rw[im hk,h,gE,ah (by omega),ah hD,ah hN];simp only[hb,qk]
theorem Yr {D:Nat} (h:fl l k=⟨M,N,D,P,dt,dg,tr⟩) (hk:k<l.length) (hc:digit (au l k)=true) (RT:(au l k).toNat≠48) (hN: ¬N<19):
  fl l (k+1)=⟨M,N,D+1,P,dt,true,true⟩:=by
 have:=aJ hc;have hb:((au l k).toNat != 48)=true:=by simpa using RT
 rw[im hk,h,gE,ah (by omega),ah (by omega),ah hN];simp only[hb,vz]
def mC (e:Nat) (c:UInt8):Nat:=if e<10000 then e*10+(c.toNat-48)else e
def zC (l:List UInt8) (j k:Nat):Nat:=((l.drop j).take (k-j)).foldl mC 0
theorem oM (l:List UInt8) (j:Nat):zC l j j=0:=by simp[zC]
theorem wb (hj:j≤k) (h:k<l.length):zC l j (k+1)=mC (zC l j k) (au l k):=by
 have hk:k-j<(l.drop j).length:=by simp;omega
 have:(l.drop j)[k-j]=au l k:=by
  rw[vr,au,lf,lJ h];simp[show j+(k-j)=k by omega]
 rw[zC,show k+1-j=k-j+1 by omega,jO hk,yq,this];rfl
theorem UI (e:Nat) (c:UInt8) (h:e≤100009) (hc:digit c=true):mC e c≤100009:=by
 have:=aJ hc;unfold mC;split<;>omega
theorem F2: ∀k,j≤k→k≤l.length→(∀i,j≤i→i<k→digit (au l i)=true)→zC l j k≤100009:=by
 intro k hj;induction k with
 |zero=>intro _ _;simp[zC]
 |succ k ih=>
  intro hk h;by_cases he:j=k+1
  ·subst he;rw[oM];omega
  ·rw[wb (by omega) (by omega)];exact UI _ _ (ih (by omega) (by omega) fun i h1 h2=>h i h1 (by omega)) (h k (by omega) (by omega))
structure IQ (l:List UInt8) (m j:Nat) (neg:Bool):Prop where
 lt:m<l.length
 tc:tc (au l m)=true
 sign:(j=m+1∧neg=false∧digit (au l j)=true)∨(j=m+2∧neg=false∧(au l (m+1)).toNat=43)∨(j=m+2∧neg=true∧(au l (m+1)).toNat=45)
 some:j<l.length
 fh: ∀i,j≤i→i<l.length→digit (au l i)=true
def oz (r:RF) (e:Int):Int:=if r.fk≠0 then(if r.dot then r.dp else(r.nd:Int))+e-(r.th:Int)else 0
structure DS where
 D:Nat→Nat
 nd:Nat
 dp:Int
 dot:Bool
def lv (s:DS) (c:UInt8):DS:=
 if c.toNat=46 then⟨s.D,s.nd,s.nd,true⟩
 else if c.toNat=48∧s.nd=0 then⟨s.D,s.nd,s.dp-1,s.dot⟩
 else⟨Hh s.D s.nd c.toNat,s.nd+1,s.dp,s.dot⟩
def ds0:DS:=⟨fun _=>0,0,0,false⟩
def dP (l:List UInt8) (k:Nat):DS:=(l.take k).foldl lv ds0
theorem l9 (l:List UInt8):dP l 0=ds0:=rfl
theorem ma (h:k<l.length):dP l (k+1)=lv (dP l k) (au l k):=by
 have:l[k]=au l k:=by rw[au,lf,lJ h];rfl
 rw[dP,jO h,yq,this];rfl
structure ab3 (k:Nat) (s:DS):Prop where
 nd:s.nd≤k
 gK:js s.D s.nd
 dp: -(k:Int)≤s.dp∧s.dp≤k
theorem Qr {s:DS} (h:ab3 k s) (hc:digit c=true∨c.toNat=46):ab3 (k+1) (lv s c):=by
 obtain⟨h1,h2,h3,h4⟩:=h;unfold lv;split
 ·exact⟨by show s.nd≤k+1;omega,h2,by constructor<;>(simp only;omega)⟩
 ·rename_i hn;have hd:=aJ (hc.resolve_right hn);split
  ·exact⟨by show s.nd≤k+1;omega,h2,by constructor<;>(simp only;omega)⟩
  ·rename_i hz;refine⟨by show s.nd+1≤k+1;omega,⟨fun i hi=>?_,fun _=>?_⟩,by constructor<;>(simp only;omega)⟩
   ·show 48≤Hh s.D s.nd c.toNat i∧Hh s.D s.nd c.toNat i≤57;unfold Hh;split
    ·omega
    ·rename_i bW;exact h2.1 i (by simp only at hi;omega)
   ·show Hh s.D s.nd c.toNat 0≠48;unfold Hh;split
    ·omega
    ·exact h2.2 (by omega)
theorem vP {l:List UInt8} {m:Nat} (h:lu l m): ∀k,k≤m→ab3 k (dP l k)
 |0,_=>⟨by simp[l9,ds0],⟨fun i hi=>by simp[l9,ds0]at hi,fun hi=>by simp[l9,ds0]at hi⟩,by simp[l9,ds0]⟩
 |k+1,hk=>by
  have hl:=h.1;rw[ma (by omega)];refine Qr (vP h k (by omega)) ?_;rcases h.2 k (by omega)with hd|hd
  ·exact .inl hd
  ·exact .inr hd.1
theorem MD {s:DS} (h:c.toNat≠46):(lv s c).dot=s.dot:=by
 unfold lv;rw[ah h];split<;>rfl
theorem Bz {l:List UInt8}: ∀k,k≤l.length→(∀j,j<k→(au l j).toNat≠46)→(dP l k).dot=false
 |0,_,_=>rfl
 |k+1,hk,h=>by
  rw[ma (by omega),MD (h k (by omega))];exact Bz k (by omega) fun j hj=>h j (by omega)
theorem afR (h:dP l k=⟨D,N,P,dt⟩) (hk:k<l.length) (hc:(au l k).toNat=46):dP l (k+1)=⟨D,N,N,true⟩:=by
 rw[ma hk,h,lv,az hc]
theorem Ys (h:dP l k=⟨D,0,P,dt⟩) (hk:k<l.length) (hc:(au l k).toNat=48):dP l (k+1)=⟨D,0,P-1,dt⟩:=by
 rw[ma hk,h,lv,ah (by omega),az ⟨hc,rfl⟩]
theorem afS (h:dP l k=⟨D,N,P,dt⟩) (hk:k<l.length) (hc:(au l k).toNat≠46) (hz: ¬((au l k).toNat=48∧N=0)):dP l (k+1)=⟨Hh D N (au l k).toNat,N+1,P,dt⟩:=by
 rw[ma hk,h,lv,ah hc,ah hz]
def Hs (l:List UInt8) (mm:Nat) (e:Int):cM:=⟨(dP l mm).D,(dP l mm).nd,(if (dP l mm).dot then(dP l mm).dp else((dP l mm).nd:Int))+e,false⟩
theorem abQ (h:lu l mm) (hm:mm≤700) {e:Int} (he: -100009≤e∧e≤100009):((Hs l mm e).nd=0∨(Hs l mm e).Ok)∧ -200000≤(Hs l mm e).dp∧(Hs l mm e).dp≤200000:=by
 have h1:=vP h mm (aS _);have h2:=h1.nd;have h3:=h1.dp;refine⟨?_,?_⟩
 ·rcases jL (dP l mm).nd with h0|h0
  ·exact .inl h0
  ·exact .inr ⟨h1.gK,h0,by show (dP l mm).nd≤800;omega⟩
 ·unfold Hs;simp only;split<;>omega
def lh:Nat→Nat→Int→Nat×Int
 |0,m,e=>(m,e)
 |f+1,m,e=>if m≠0∧m<18014398509481984 then lh f (m*2) (e-1)else(m,e)
theorem OH (h: ¬(m≠0∧m<18014398509481984)) (e:Int): ∀f,lh f m e=(m,e)
 |0=>rfl
 |f+1=>by rw[lh,ah h]
def mj:Nat→Nat→Int→Nat×Int
 |0,m,e=>(m,e)
 |f+1,m,e=>if 36028797018963968≤m then mj f (m/2|||m%2) (e+1)else(m,e)
theorem Yt (h: ¬36028797018963968≤m) (e:Int): ∀f,mj f m e=(m,e)
 |0=>rfl
 |f+1=>by rw[mj,ah h]
theorem BB: ∀(f m:Nat) (e:Int),(m≠0→18014398509481984≤m*2^f)→m<18446744073709551616→(lh f m e).1<18446744073709551616∧((lh f m e).1≠0→18014398509481984≤(lh f m e).1)∧e-f≤(lh f m e).2∧(lh f m e).2≤e
 |0,m,e,h,hm=>⟨hm,fun h0=>by have:=h h0;rw[lh];simpa using this,by rw[lh];simp,by rw[lh];simp⟩
 |f+1,m,e,h,hm=>by
  rw[lh];split
  ·rename_i h2;have:=BB f (m*2) (e-1) (fun _=>by have:=h h2.1;rw[ep]at this;rw[cg,fx 2];exact this) (by omega);refine⟨this.1,this.2.1,?_,?_⟩<;>omega
  ·rename_i h2;refine⟨hm,fun h0=>?_,by simp only;omega,Int.le_refl _⟩;simp only at h0 ⊢
   omega
theorem Gj (h:m<2*2^n) (hn:1≤n):m/2|||m%2<2^n:=by
 apply Ee
 ·omega
 ·have:(2:Nat)^1≤2^n:=dZ (by omega) hn;omega
theorem BC: ∀(f m:Nat) (e:Int),m<2^(55+f)→(mj f m e).1<36028797018963968∧e≤(mj f m e).2∧(mj f m e).2≤e+f
 |0,m,e,h=>⟨by rw[mj];simpa using h,by rw[mj];simp,by rw[mj];simp⟩
 |f+1,m,e,h=>by
  rw[mj];split
  ·have:=BC f (m/2|||m%2) (e+1) (Gj (by rw[show 55+(f+1)=(55+f)+1 by omega,ep]at h;omega) (by omega));refine⟨this.1,?_,?_⟩<;>omega
  ·rename_i h2;refine⟨by simp only;omega,Int.le_refl _,by simp only;omega⟩
def hxR (m:Nat):Nat:=(m&&&3)|||(m/4%2)
def vI (m:Nat) (e:Int):Nat×Bool:=if 1023<e then((gD 4503599627370496 2047).toNat,true)else((gD m (e+1023)).toNat,false)
def qm (m:Nat) (e:Int):Nat×Bool:=if m<4503599627370496 then vI m (-1023)else vI m e
def yH (m:Nat) (e:Int):Nat×Bool:=
 if hxR m=3 then(if m/4+1=9007199254740992 then qm 4503599627370496 (e+3)else qm (m/4+1) (e+2))else qm (m/4) (e+2)
def zN (m:Nat) (tr:Bool):Nat:=if tr=true then m|||1 else m
def Sj (m:Nat) (p:Int) (tr:Bool):Nat×Bool:=
 yH (mj 9 (zN (lh 54 m (p+52)).1 tr) (lh 54 m (p+52)).2).1 (mj 9 (zN (lh 54 m (p+52)).1 tr) (lh 54 m (p+52)).2).2
structure RX where
 fk:Nat
 th:Nat
 nd:Nat
 tr:Bool
def mv (c:UInt8):Nat:=if digit c=true then c.toNat-48 else(c.toNat|||32)-87
def nT (s:RX) (c:UInt8):RX:=
 if c.toNat=48∧s.nd=0 then s
 else if s.th<16 then⟨s.fk*16+mv c,s.th+1,s.nd+1,s.tr⟩
 else⟨s.fk,s.th,s.nd+1,s.tr||c.toNat != 48⟩
def eH (l:List UInt8) (k:Nat):RX:=((l.drop 2).take (k-2)).foldl nT ⟨0,0,0,false⟩
theorem BD (l:List UInt8):eH l 2=⟨0,0,0,false⟩:=by simp[eH]
theorem mc (hj:2≤k) (h:k<l.length):eH l (k+1)=nT (eH l k) (au l k):=by
 have hk:k-2<(l.drop 2).length:=by simp;omega
 have:(l.drop 2)[k-2]=au l k:=by
  rw[vr,au,lf,lJ h];simp[show 2+(k-2)=k by omega]
 rw[eH,show k+1-2=k-2+1 by omega,jO hk,yq,this];rfl
theorem BE: ∀c:UInt8,gO c=true→digit c=false→97≤c.toNat|||32∧c.toNat|||32≤102:=by
 have: ∀n:Fin 256,gO (UInt8.ofNat n.val)=true→digit (UInt8.ofNat n.val)=false→97≤(UInt8.ofNat n.val).toNat|||32∧(UInt8.ofNat n.val).toNat|||32≤102:=by decide+kernel
 intro c h1 h2;have hc:UInt8.ofNat c.toNat=c:=by simp
 have:=this ⟨c.toNat,uc c⟩;simp only[hc]at this;exact this h1 h2
theorem Gk (c:UInt8) (h:gO c=true):mv c<16:=by
 unfold mv;split
 ·rename_i hd;have:=aJ hd;omega
 ·rename_i hd;have:=BE c h (by simpa using hd);omega
structure ajI (k:Nat) (s:RX):Prop where
 th:s.th≤16∧s.th≤s.nd∧s.nd≤k
 fk:s.fk<16^s.th
def Eo (l:List UInt8) (m:Nat):Prop:=m≤l.length∧ ∀i,2≤i→i<m→gO (au l i)=true
theorem Gl (h:Eo l m): ∀k,2≤k→k≤m→ajI k (eH l k):=by
 intro k hk;induction k with
 |zero=>omega
 |succ k ih=>
  intro hm;have hl:=h.1;by_cases he:k+1=2
  ·rw[he,BD];exact⟨⟨by simp,by simp,by simp⟩,by simp⟩
  ·have ih:=ih (by omega) (by omega);have hv:=Gk _ (h.2 k (by omega) (by omega));rw[mc (by omega) (by omega)];cases hr:eH l k with
   |mk M N D T=>
    rw[hr]at ih;obtain⟨⟨h1,h2,h3⟩,h4⟩:=ih;simp only at h1 h2 h3 h4;unfold nT;split
    ·exact⟨⟨h1,h2,by show D≤k+1;omega⟩,h4⟩
    ·split
     ·refine⟨⟨by show N+1≤16;simp only at*;omega,by show N+1≤D+1;omega,by show D+1≤k+1;omega⟩,?_⟩;show M*16+_<16^(N+1);rw[ep];omega
     ·exact⟨⟨h1,by show N≤D+1;omega,by show D+1≤k+1;omega⟩,h4⟩
theorem Yu {D:Nat} (h:eH l k=⟨M,N,D,tr⟩) (hj:2≤k) (hk:k<l.length) (hc:(au l k).toNat=48) (hD:D=0):eH l (k+1)=⟨M,N,D,tr⟩:=by
 rw[mc hj hk,h,nT,az ⟨hc,hD⟩]
theorem θ {D:Nat} (h:eH l k=⟨M,N,D,tr⟩) (hj:2≤k) (hk:k<l.length) (hD: ¬((au l k).toNat=48∧D=0)) (hN:N<16):eH l (k+1)=⟨M*16+mv (au l k),N+1,D+1,tr⟩:=by
 rw[mc hj hk,h,nT,ah hD,az hN]
theorem Yv {D:Nat} (h:eH l k=⟨M,N,D,tr⟩) (hj:2≤k) (hk:k<l.length) (hc:(au l k).toNat=48) (hD: ¬((au l k).toNat=48∧D=0)) (hN: ¬N<16):eH l (k+1)=⟨M,N,D+1,tr⟩:=by
 have hb:((au l k).toNat != 48)=false:=by rw[hc];rfl
 rw[mc hj hk,h,nT,ah hD,ah hN];simp only[hb,qk]
theorem OI {D:Nat} (h:eH l k=⟨M,N,D,tr⟩) (hj:2≤k) (hk:k<l.length) (hc:(au l k).toNat≠48) (hN: ¬N<16):eH l (k+1)=⟨M,N,D+1,true⟩:=by
 have hb:((au l k).toNat != 48)=true:=by simpa using hc
 rw[mc hj hk,h,nT,ah (by omega),ah hN];simp only[hb,vz]
def SU (x:Nat):Nat:=x%18446744073709551616&&&9223372036854775807
def dQ (x:Nat):Bool:=(FloatKind.f64.format.order (SU x) 9218868437227405311==some .gt)
structure SM where
 n:Nat
 behind:Nat
 Bg:Bool
def jT (s:SM) (c:UInt8):SM:=
 if c.toNat=46 then⟨s.n,s.behind,true⟩
 else⟨s.n*10+(c.toNat-48),if s.Bg=true then s.behind+1 else s.behind,s.Bg⟩
def dF (l:List UInt8) (k:Nat):SM:=(l.take k).foldl jT ⟨0,0,false⟩
def oN (l:List UInt8):Bool:=l.all fun c=>digit c||c.toNat==46
def gU (l:List UInt8):Bool:=decide (l.length≤15)&&oN l
def xy (l:List UInt8):Nat:=FQ (floatOfInt .f64 ((dF l l.length).n:Int)) (fi (dF l l.length).behind)
def LB (l:List UInt8):Nat:=
 (Sj (eH l l.length).fk (if (eH l l.length).fk≠0 then 4*((eH l l.length).nd:Int)-4*((eH l l.length).th:Int)else 0) (eH l l.length).tr).1
def bL (l:List UInt8):Nat:=(l.takeWhile fun c=> !tc c).length
def xn (l:List UInt8):Bool:=(au l (bL l+1)).toNat==45
def pq (l:List UInt8):Nat:=if (au l (bL l+1)).toNat=43∨(au l (bL l+1)).toNat=45 then bL l+2 else bL l+1
def fW (l:List UInt8):Int:=if bL l<l.length then(if xn l=true then-(zC l (pq l) l.length:Int)else(zC l (pq l) l.length:Int))else 0
def Dt (d:Nat) (p:Int) (tr:Bool) (full:cM):Nat:=
 if d=0 then 0
 else if 310<p then eY
 else if p< -345 then 0
 else if tr=true then(if (FloatKind.f64.format.order (lp d p) (lp (d+1) p)==some .eq)=true then lp d p else(FC full).1.toNat)
 else match fJ d p with|some x=>x|none=>lp d p
def LC (l:List UInt8):Nat:=Dt (fl l (bL l)).fk (oz (fl l (bL l)) (fW l)) (fl l (bL l)).tr (Hs l (bL l) (fW l))
def jU (l:List UInt8):Nat:=if gU l=true then xy l else if tT (au l 1)=true then LB l else LC l
def rp (t:List UInt8):Bool:=(t.take 4).map low==[105,110,102]||(t.take 4).map low==[110,97,110]
def bV (br:Bool) (t:List UInt8):Nat:=if t.contains 58 then 2 else if !br&&rp t then 3 else 1
def Jj (l:List UInt8):List UInt8:=l.takeWhile fun c=> !tc c
def abR (l:List UInt8):Nat:=l.foldl (fun n c=>n*10+(c.toNat-48)) 0
def fk (l:List UInt8):Nat:=abR ((Jj l).filter digit)
def behind (l:List UInt8):Nat:=((Jj l).dropWhile fun c=>c.toNat != 46).length-1
def vc (l:List UInt8):Bool:= !gU l&&dQ (jU l)
def dD (l:List UInt8) (a b c:Nat):Bool:=l.length==3&&((au l 0).toNat|||32)==a&&((au l 1).toNat|||32)==b&&((au l 2).toNat|||32)==c
def bI (l:List UInt8):Nat:=
 if 512<l.length then 1
 else if dD l 105 110 102||dD l 110 97 110 then 0
 else if l=[]∨an l≠l.length then 20
 else if vc l then 21 else 0
inductive AO where
 |bad (e:Nat)
 |tok (kind n:Nat) (br sq:Bool)
def kA (l:List UInt8):Nat:=if an l<aX l then 4 else 3
def cD (l:List UInt8):Nat:=if an l<aX l then aX l else an l
def ct (l:List UInt8):Bool:=decide (cD l<l.length)&&(letter (au l (cD l))||digit (au l (cD l))||(au l (cD l)).toNat==46)
def iO (l:List UInt8):Nat:=if an l<aX l then(bz (l.take (cD l))).2 else bI (l.take (cD l))
def bG (l:List UInt8) (br sq:Bool):AO:=if ct l=true then .bad 112 else if iO l≠0 then .bad 112 else .tok (kA l) (cD l) br sq
theorem Qs (l:List UInt8):cD l≤l.length:=by
 unfold cD;split
 ·exact kD l
 ·exact pX l
theorem AP (h:((n:Int) != 0)=false):n=0:=by
 have:(n:Int)=0:=by simpa using h
 omega
theorem zO (h:((n:Int) != 0)=true):n≠0:=by
 have: ¬(n:Int)=0:=by simpa using h
 omega
theorem yU (hn:cD t.data.toList=n) (h:n<t.size):ct t.data.toList=(letter t[n]||digit t[n]||(t[n].toNat==46)):=by
 rw[ct,hn,af,dO h,mx,ay h]
theorem wL (hn:cD t.data.toList=n) (h: ¬n<t.size):ct t.data.toList=false:=by
 rw[ct,hn,af,gj h,qX]
theorem fE (h:ct l=true):bG l br sq= .bad 112:=by rw[bG,az h]
theorem kX (h:ct l=false) (h2:iO l≠0):bG l br sq= .bad 112:=by
 rw[bG,h,ah (by simp),az h2]
theorem mN (hk:kA l=k) (hn:cD l=n) (h:ct l=false) (h2:iO l=0):bG l br sq= .tok k n br sq:=by
 rw[bG,h,ah (by simp),ah (by omega),hk,hn]
theorem Jk (hs:aX l=sp) (h:an l<sp):kA l=4∧cD l=sp∧iO l=(bz (l.take sp)).2:=by
 subst hs;refine⟨?_,?_,?_⟩
 ·rw[kA,az h]
 ·rw[cD,az h]
 ·rw[iO,az h,cD,az h]
theorem OJ (hn:an l=np) (h: ¬np<aX l):kA l=3∧cD l=np∧iO l=bI (l.take np):=by
 subst hn;refine⟨?_,?_,?_⟩
 ·rw[kA,ah h]
 ·rw[cD,ah h]
 ·rw[iO,ah h,cD,ah h]
def SW:List (List UInt8):=[[61,61],[33,61],[61,126],[33,126],[60,61],[62,61]]
def Hk (l:List UInt8):Bool:=decide (1<l.length)&&SW.contains (l.take 2)
def LD:List Nat:=[40,41,44,58,61,60,62,43,45,42,47,37,94,64]
def sc (l:List UInt8) (br sq:Bool):AO:=
 if Hk l=true then .tok 6 2 br sq
 else if (au l 0).toNat=123 then .tok 6 1 true sq
 else if (au l 0).toNat=125 then .tok 6 1 false sq
 else if (au l 0).toNat=91 then .tok 6 1 br true
 else if (au l 0).toNat=93 then .tok 6 1 br false
 else if LD.contains (au l 0).toNat=true then .tok 6 1 br sq
 else .bad 110
theorem Yw (h:Hk l=true):sc l br sq= .tok 6 2 br sq:=by rw[sc,az h]
theorem iM (h:Hk l=false) {c:Nat} (hc:(au l 0).toNat=c):sc l br sq=
  if c=123 then .tok 6 1 true sq else if c=125 then .tok 6 1 false sq else if c=91 then .tok 6 1 br true else if c=93 then .tok 6 1 br false
  else if LD.contains c=true then .tok 6 1 br sq else .bad 110:=by
 rw[sc,h,hc,ah (by simp)]
def s6 (l:List UInt8) (br sq:Bool):AO:=
 match bC l 0 with
 |none=>.bad 111
 |some n=>if (lM (l.take n)).1=0 then .tok 5 n br sq else .bad 111
def aZ (l:List UInt8) (br sq:Bool):AO:=
 if letter (au l 0)=true then .tok (bV br (l.take (ag (bn (!br&& !sq)) l 0))) (ag (bn (!br&& !sq)) l 0) br sq
 else if (au l 0).toNat=58∧(!br&& !sq)=true then .tok 2 (ag (bn true) l 1) br sq
 else if digit (au l 0)=true∨((au l 0).toNat=46∧1<l.length∧digit (au l 1)=true)then bG l br sq
 else if dC (au l 0)=true then s6 l br sq
 else sc l br sq
theorem mG (q : UInt8) : ∀ (l : List UInt8) (n : Nat), eI q l = some n → 1 ≤ n ∧ n ≤ l.length
  | [], n, h => by simp [eI] at h
  | [c], n, h => by
    simp only[eI]at h
    split at h
    · simp at h; subst h; simp
    · simp at h
  | c :: d :: r, n, h => by
    simp only[eI]at h
    split at h
    · simp at h; subst h; simp
    · split at h
      · obtain ⟨m, hm, rfl⟩ := xe.1 h
        have:=mG q (d::r) m hm
        simp at*;omega
      · split at h
        · simp at h
        · split at h
          · split at h
            · simp at h
            · obtain ⟨m, hm, rfl⟩ := xe.1 h
              have:=mG q r m hm
              simp at*;omega
          · obtain ⟨m, hm, rfl⟩ := xe.1 h
            have:=mG q (d::r) m hm
            simp at*;omega
theorem xJ (h:bC l i=some n):i+2≤n∧n≤l.length:=by
 unfold bC at h;split at h
 ·obtain⟨m,hm,rfl⟩:=xe.1 h;have:=mG _ _ m hm;simp at this;omega
 ·simp at h
theorem gq (l:List UInt8) (i j:Nat):au (l.drop i) j=au l (i+j):=by
 simp[au,lf]
theorem yV (l:List UInt8) (i:Nat):bC l i=(bC (l.drop i) 0).map (· +i):=by
 rw[bC,bC,gq,yz,nP];by_cases h:i<l.length∧dC (au l i)=true
 ·rw[az h,az ⟨by omega,h.2⟩];cases eI (au l i) (l.drop (i+1))
  ·rfl
  ·simp;omega
 ·rw[ah h,ah (by intro h2;exact h ⟨by omega,h2.2⟩)];rfl
structure Tok where
 kind:Nat
 text:List UInt8
 pos:Nat
def jq (c:UInt8):Bool:=c.toNat==9||c.toNat==10||c.toNat==13||c.toNat==32
def eJ (c:UInt8):Bool:=c.toNat != 10
def cV (l:List UInt8):Nat:=min (ag eJ l 0+1) l.length
def qn:Nat→List UInt8→Nat→Bool→Bool→List Tok×Option (Nat×Nat)
 |0,_,_,_,_=>([],none)
 |f+1,l,p,br,sq=>
  if l=[]then([],none)
  else if jq (au l 0)=true then qn f (l.drop 1) (p+1) br sq
  else if (au l 0).toNat=35 then qn f (l.drop (cV l)) (p+cV l) br sq
  else match aZ l br sq with
   | .bad e=>([],some (p,e))
   | .tok k n b q=>(⟨k,l.take n,p⟩::(qn f (l.drop n) (p+n) b q).1,(qn f (l.drop n) (p+n) b q).2)
def cK (l:List UInt8) (p:Nat) (br sq:Bool):List Tok×Option (Nat×Nat):=qn l.length l p br sq
theorem lO (h:l≠[]):0<l.length:=Ec.2 h
theorem kd (h:l≠[]):1≤cV l∧cV l≤l.length:=by
 have:=lO h;unfold cV;omega
theorem UJ (h:l≠[]):l=au l 0::l.drop 1:=by
 cases l with
 |nil=>exact absurd rfl h
 |cons c r=>rfl
theorem tH {p:UInt8→Bool} (h:l≠[]) (hp:p (au l 0)=true):1≤ag p l 0:=by
 cases l with
 |nil=>exact absurd rfl h
 |cons c r=>
  have hp':p c=true:=hp;simp[ag,qN,hp']
theorem Aa (h:l≠[]) (hd:digit (au l 0)=true∨((au l 0).toNat=46∧1<l.length∧digit (au l 1)=true)):1≤an l:=by
 unfold an;split
 ·have:=aW gO l 2;omega
 ·have h1:1≤aK l:=by
   rcases hd with hd|⟨h1,h2,h3⟩
   ·have hs:=tH h hd;unfold aK;split
    ·have:=aW digit l (ag digit l 0+1);omega
    ·rw[ah (by omega)];exact hs
   ·have h0:ag digit l 0=0:=by
     cases l with
     |nil=>exact absurd rfl h
     |cons c r=>
      have:digit c=false:=by
       have h1':c.toNat=46:=h1;simp[digit,h1']
      simp[ag,qN,this]
    rw[aK,h0,ah (by omega),az ⟨rfl,h2,h1,h3⟩];exact aW digit l 1
  rw[ah (by omega)];have:=lY l (aK l) (lZ l);omega
theorem iS (h:l≠[]) (ht:aZ l br sq= .tok k n b q):1≤n∧n≤l.length:=by
 have hl:=lO h;unfold aZ at ht;split at ht
 ·rename_i h1;injection ht with _ h2
  subst h2;exact⟨tH h (tG h1),bK _ l 0 (aV _)⟩
 ·split at ht
  ·injection ht with _ h2
   subst h2;exact⟨aW _ l 1,bK _ l 1 hl⟩
  ·split at ht
   ·rename_i h1;have hp:=Aa h h1;have hle:=Qs l;unfold bG at ht;split at ht
    ·cases ht
    ·split at ht
     ·cases ht
     ·injection ht with _ h2
      subst h2;refine⟨?_,hle⟩;unfold cD;split<;>omega
   ·split at ht
    ·unfold s6 at ht;split at ht
     ·cases ht
     ·rename_i m hm;have:=xJ hm;split at ht
      ·injection ht with _ h2
       omega
      ·cases ht
    ·unfold sc at ht;split at ht
     ·rename_i h2;simp[Hk]at h2;injection ht with _ h3
      omega
     ·repeat' split at ht
      all_goals first
       |(injection ht with _ h3;omega)
       |cases ht
theorem ke : ∀ (f g : Nat) (l : List UInt8) (p : Nat) (br sq : Bool), l.length ≤ f → l.length ≤ g → qn f l p br sq = qn g l p br sq
  | 0, g, l, p, br, sq, hf, _ => by
    have:l=[]:=Ia (by omega)
    subst this
    cases g<;>simp[qn]
  | f + 1, 0, l, p, br, sq, _, hg => by
    have:l=[]:=Ia (by omega)
    subst this
    simp[qn]
  | f + 1, g + 1, l, p, br, sq, hf, hg => by
    rw[qn,qn]
    by_cases h:l=[]
    · rw [az h, az h]
    · have hl := lO h
      have hr:=kd h
      rw[ah h,ah h,ke f g (l.drop 1) _ _ _ (by simp;omega) (by simp;omega),ke f g (l.drop (cV l)) _ _ _ (by simp;omega) (by simp;omega)]
      cases ht:aZ l br sq with
      | bad e => rfl
      | tok k n b q =>
        have hn:=iS h ht
        dsimp only
        rw[ke f g (l.drop n) _ _ _ (by simp;omega) (by simp;omega)]
theorem sy (p:Nat) (br sq:Bool):cK [] p br sq=([],none):=rfl
theorem oE (h:l≠[]) (p:Nat) (br sq:Bool):cK l p br sq=
  if jq (au l 0)=true then cK (l.drop 1) (p+1) br sq
  else if (au l 0).toNat=35 then cK (l.drop (cV l)) (p+cV l) br sq
  else match aZ l br sq with
   | .bad e=>([],some (p,e))
   | .tok k n b q=>(⟨k,l.take n,p⟩::(cK (l.drop n) (p+n) b q).1,(cK (l.drop n) (p+n) b q).2):=by
 have hl:=lO h;have hr:=kd h;obtain⟨f,hf⟩: ∃f,l.length=f+1:=⟨l.length-1,by omega⟩;unfold cK;rw[hf,qn,ah h,ke f (l.drop 1).length (l.drop 1) _ _ _ (by simp;omega) (aS _),ke f (l.drop (cV l)).length (l.drop (cV l)) _ _ _ (by simp;omega) (aS _)];cases ht:aZ l br sq with
 |bad e=>rfl
 |tok k n b q=>
  have hn:=iS h ht;dsimp only;rw[ke f (l.drop n).length (l.drop n) _ _ _ (by simp;omega) (aS _)]
theorem cN (h:l≠[]) (hb:jq (au l 0)=true) (p:Nat) (br sq:Bool):cK l p br sq=cK (l.drop 1) (p+1) br sq:=by
 rw[oE h,az hb]
theorem ajJ (h:c.toNat=35):jq c=false:=by simp[jq,h]
theorem jE (h:l≠[]) (hc:(au l 0).toNat=35) (p:Nat) (br sq:Bool):cK l p br sq=cK (l.drop (cV l)) (p+cV l) br sq:=by
 rw[oE h,ajJ hc,ah (by simp),az hc]
theorem sA (h:l≠[]) {br sq:Bool} {e:Nat} (hb:jq (au l 0)=false) (hc:(au l 0).toNat≠35) (ht:aZ l br sq= .bad e) (p:Nat):cK l p br sq=([],some (p,e)):=by
 rw[oE h,hb,ah (by simp),ah hc,ht]
theorem oO (h:l≠[]) {br sq b q:Bool} {k n:Nat} (hb:jq (au l 0)=false) (hc:(au l 0).toNat≠35) (ht:aZ l br sq= .tok k n b q) (p:Nat):
  cK l p br sq=(⟨k,l.take n,p⟩::(cK (l.drop n) (p+n) b q).1,(cK (l.drop n) (p+n) b q).2):=by
 rw[oE h,hb,ah (by simp),ah hc,ht]
def nf (w:World) (p:Nat):Nat:=match w.cell? ⟨p,1,none⟩with|some (.int _ k)=>k.toNat|_=>0
def Tok.cells (t:Tok):List Value:=[.int .i64 (t.kind:Int),.string ⟨t.text.toArray⟩,.int .i64 (t.pos:Int)]
def aO (ts:List Tok):List Value:=ts.flatMap Tok.cells
theorem jH (ts:List Tok) (t:Tok):aO (ts++[t])=aO ts++t.cells:=by simp[aO]
theorem sB {P:Program} {K:Act → World → Prop} {Q:Exit → Act → World → Prop} {E:Prop} 
    (hg : o.guard = none) (s x : Operand) (t : TypeId) (ye : o.op = Op.call { callee := Callee.builtin Builtin.append, args := #[s, x], argTypes := #[t, t] })
    (base : Nat) (e : TypeId) (z : Value) (size bytes : Nat) (mz : (P.info? e).map (fun i => (i.zero, i.size, i.bytes)) = some (some z, size, bytes)) (h1 : P.underlying t = some (.slice e)) (Ll : z.cells.size = size) (iI : 0 < size)
    (v : Value) (n : Nat) (xs : List Value) (hs : a.eval s = v) (aP : w0.ownsRow base e size v n xs) (us : List Value) (Zv : us.length = size)
    (hx : a.eval x = .slice (some ⟨w0.heap.size, 0, none⟩) 1 1) (R6 : ∀ u ∈ us, u.oneCell' = true) (ud : n + 1 ≤ maxLen) (hb : (n + 1) * bytes ≤ 140737488355328) (cT : base ≤ w0.heap.size)
    (hK : ∀ v' w', w'.ownsRow base e size v' (n + 1) (xs ++ us) → w0.grownBy w' v.ownBlock → K (a.put o.dst v') w') :
    if Region.wanted o (yielded ops a.tmps)=true then Oper.wp P o a (w0.alloc (.cells us.toArray e)) K Q else E:=by
  have hw:Region.wanted o (yielded ops a.tmps)=true:=by simp[Region.wanted,hg]
  rw[az hw]
  obtain⟨i,hi,hz,Pf,KS⟩:=lF mz
  obtain ⟨v', w', aaY, r1, r2, _⟩ := run_append_own (P := P) (w0.alloc (.cells us.toArray e)) base t o.type e i z size bytes h1 hi hz Pf KS Ll iI v n xs (aP.alloc _) ⟨w0.heap.size, 0, none⟩ 1 1 us (by omega)
    (by intro j u hu
        have hj:j<us.length:=(AV.1 hu).1
        rw[lE,mr,xf _ _ _ _ rfl]
        simpa using hu) R6 ud hb (by simp;omega)
  unfold Oper.wp
  simp[execOp,ye,resolve,invoke,builtin,hs,hx,aaY,Result.andThen]
  exact hK v' w' r1 (ee (yl w0 _ _) r2)
def qH (w:World) (p:Nat) (s:ByteArray) (at':Nat) (br sq:Bool) (v:Value):Prop:=aM w p 191 #[.string s,.int .i64 (at':Int),.bool br,.bool sq,v]
theorem we:(prog.info? 139).map (fun i=>(i.zero,i.size,i.bytes))=some (some (.agg #[.int .i64 0,.string ⟨#[]⟩,.int .i64 0]),3,32):=by
 kernel_rfl
theorem Qt {row:Option Nat} (h:w.ownsRow base e size v n xs) (hb:w.grownBy w' row) (hg: ∀g,v.ownBlock=some g→some g≠row):w'.ownsRow base e size v n xs:=by
 refine⟨h.1,?_⟩;rcases h.2 with hn|⟨g,cap,cur,rfl,h1,h2,h3,h4,h5,h6⟩
 ·exact .inl hn
 ·have aA:g<w.heap.size:=by
   rcases dE g w.heap.size with aA|lW
   ·exact aA
   ·rw[AW lW]at h2;cases h2
  exact .inr ⟨g,cap,cur,rfl,h1,(hb.block g aA (hg g rfl)).trans h2,h3,h4,h5,h6⟩
theorem wg (h:w.ownsRow base e size v n xs): ∃ao n' c',v= .slice ao n' c':=by
 rcases h.2 with⟨rfl,_⟩|⟨g,cap,cur,rfl,_⟩
 ·exact⟨_,_,_,rfl⟩
 ·exact⟨_,_,_,rfl⟩
theorem Jl (hz:qH w p s at' br sq v) (ho:w.ownsRow base 139 3 v n xs) (hg:w.drew.grownBy w' v.ownBlock):qH w' p s at' br sq v:=
 aM.grown (w:=w.drew) hz hg (cW (e:=139) ho hz (by decide)).symm
def nu (base p:Nat) (s:ByteArray) (at':Nat) (br sq:Bool) (ts:List Tok) (w:World) (e:Ending) (w':World):Prop:=
 e= .returned (.int .i64 0)∧ ∃v,qH w' p s at' br sq v∧w'.ownsRow base 139 3 v ts.length (aO ts)∧Below base w w'
theorem eR (w:World) (base p:Nat) (s:ByteArray) (at' k n:Nat) (x y:Int) (hx:x=(k:Int)) (hy:y=(n:Int)) (br sq:Bool) (v:Value) (ts:List Tok) (hs:s.size≤281474976710656) (hn:at'+n≤s.size) (hk:k≤6)
  (hz:qH w p s at' br sq v) (aP:w.ownsRow base 139 3 v ts.length (aO ts)) (hlen:ts.length≤1099511627776) (gN:base≤p):
  Calls prog 147 #[.pointer (some ⟨p,0,none⟩),.int .i64 x,.int .i64 y] w (nu base p s (at'+n) br sq (ts++[⟨k,(s.data.toList.drop at').take n,at'⟩]) w):=by
 subst hx hy;have hw:IntKind.i64.wrap ((at':Int)+(n:Int))=((at'+n:Nat):Int):=by rw[ou];omega
 have q1:(0≤(at':Int)+(n:Int))=True:=by simp;omega
 have q2:((at':Int)+(n:Int)≤(s.size:Int))=True:=by simp;omega
 have q3:((at':Int)≤(at':Int)+(n:Int))=True:=by simp;omega
 have q4:((at':Int)+(n:Int)).toNat=at'+n:=by omega
 have c0:w.cell? ⟨p,0,none⟩=some (.string s):=by rw[hz.cell];rfl
 have c1:w.cell? ⟨p,1,none⟩=some (.int .i64 (at':Int)):=by rw[hz.cell];rfl
 have c4:w.cell? ⟨p,4,none⟩=some v:=by rw[hz.cell];rfl
 have e4: ∀o,(w.alloc o).cell? ⟨p,4,none⟩=some v:=fun o=>((aM.alloc hz o).cell 4).trans rfl
 have e4': ∀o,(w.drew.alloc o).cell? ⟨p,4,none⟩=some v:=fun o=>((aM.alloc (w:=w.drew) hz o).cell 4).trans rfl
 have HZ:=ae hz;have HO:=ae aP;clear hz aP;go_enter func147,ntmps147;go_wp2_with fail;refine wp_region_noPanic ?_;refine wp_region_held_drew (S:=fun w'=>w'.cell? ⟨p,0,none⟩=some (.string s)∧w'.cell? ⟨p,1,none⟩=some (.int .i64 (at':Int))) (by kernel_rfl) ?_ (fun hHeld=>?_)
 ·(try dsimp only)
  first|done|go_keep|(refine⟨?_,?_⟩<;>(rw[mQ _ _ _ _ (by simp)];assumption))
 refine wpAnyH_take (i:=0) (v:=?_) rfl (by kernel_rfl) (by kernel_rfl) (by kernel_rfl) (fun _ _ _ h=>h) (Or.inl ⟨by rfl,?_⟩) (by assumption) ?_
 rotate_left
 ·intro w hSw
  try dsimp only at hSw
  go_simp
  first|done|(with_reducible rfl)
 try simp only[Act.put,km,dL,dH]
 refine wpAnyH_take (i:=1) (v:=?_) rfl (by kernel_rfl) (by kernel_rfl) (by kernel_rfl) (fun _ _ _ h=>h) (Or.inl ⟨by rfl,?_⟩) (by assumption) ?_
 rotate_left
 ·intro w hSw
  try dsimp only at hSw
  go_simp
  first|done|(with_reducible rfl)
 try simp only[Act.put,km,dL,dH]
 refine wpAnyH_take (i:=2) (v:=?_) rfl (by kernel_rfl) (by kernel_rfl) (by kernel_rfl) (fun _ _ _ h=>h) (Or.inl ⟨by rfl,?_⟩) (by assumption) ?_
 rotate_left
 ·intro w hSw
  try dsimp only at hSw
  go_simp
  first|done|(with_reducible rfl)
 try simp only[Act.put,km,dL,dH]
 refine wpAnyH_take (i:=3) (v:=?_) rfl (by kernel_rfl) (by kernel_rfl) (by kernel_rfl) (fun _ _ _ h=>h) (Or.inl ⟨by rfl,?_⟩) (by assumption) ?_
 rotate_left
 ·intro w hSw
  try dsimp only at hSw
  go_simp
  first|done|(with_reducible rfl)
 try simp only[Act.put,km,dL,dH]
 refine wpAnyH_take (i:=5) (v:=?_) rfl (by kernel_rfl) (by kernel_rfl) (by kernel_rfl) (fun _ _ _ h=>h) (Or.inl ⟨by rfl,?_⟩) (by assumption) ?_
 rotate_left
 ·intro w hSw
  try dsimp only at hSw
  go_simp
  first|done|(with_reducible rfl)
 try simp only[Act.put,km,dL,dH]
 refine wpAnyH_take (i:=6) (v:=?_) rfl (by kernel_rfl) (by kernel_rfl) (by kernel_rfl) (fun _ _ _ h=>h) (Or.inl ⟨by rfl,?_⟩) (by assumption) ?_
 rotate_left
 ·intro w hSw
  try dsimp only at hSw
  go_simp
  first|done|(with_reducible rfl)
 try simp only[Act.put,km,dL,dH]
 refine wpAnyH_take (i:=7) (v:=?_) rfl (by kernel_rfl) (by kernel_rfl) (by kernel_rfl) (fun _ _ _ h=>h) (Or.inl ⟨by rfl,?_⟩) (by assumption) ?_
 rotate_left
 ·intro w hSw
  try dsimp only at hSw
  go_simp
  first|done|(with_reducible rfl)
 try simp only[Act.put,km,dL,dH]
 refine wpAnyH_take (i:=8) (v:=?_) rfl (by kernel_rfl) (by kernel_rfl) (by kernel_rfl) (fun _ _ _ h=>h) (Or.inl ⟨by rfl,?_⟩) (by assumption) ?_
 rotate_left
 ·intro w hSw
  try dsimp only at hSw
  go_simp
  first|done|(with_reducible rfl)
 try simp only[Act.put,km,dL,dH]
 refine wpAnyH_take (i:=9) (v:=?_) rfl (by kernel_rfl) (by kernel_rfl) (by kernel_rfl) (fun _ _ _ h=>h) (Or.inl ⟨by rfl,?_⟩) (by assumption) ?_
 rotate_left
 ·intro w hSw
  try dsimp only at hSw
  go_simp
  first|done|(with_reducible rfl)
 try simp only[Act.put,km,dL,dH]
 refine wpAnyH_take (i:=10) (v:=?_) rfl (by kernel_rfl) (by kernel_rfl) (by kernel_rfl) (fun _ _ _ h=>h) (Or.inl ⟨by rfl,?_⟩) (by assumption) ?_
 rotate_left
 ·intro w hSw
  try dsimp only at hSw
  go_simp
  first|done|(with_reducible rfl)
 try simp only[Act.put,km,dL,dH]
 refine wpAnyH_take (i:=11) (v:=?_) rfl (by kernel_rfl) (by kernel_rfl) (by kernel_rfl) (fun _ _ _ h=>h) (Or.inl ⟨by rfl,?_⟩) (by assumption) ?_
 rotate_left
 ·intro w hSw
  try dsimp only at hSw
  go_simp
  first|done|(with_reducible rfl)
 try simp only[Act.put,km,dL,dH]
 refine wpAnyH_take (i:=12) (v:=?_) rfl (by kernel_rfl) (by kernel_rfl) (by kernel_rfl) (fun _ _ _ h=>h) (Or.inl ⟨by rfl,?_⟩) (by assumption) ?_
 rotate_left
 ·intro w hSw
  try dsimp only at hSw
  go_simp
  first|done|(with_reducible rfl)
 try simp only[Act.put,km,dL,dH]
 refine wpAnyH_take (i:=13) (v:=?_) rfl (by kernel_rfl) (by kernel_rfl) (by kernel_rfl) (fun _ _ _ h=>h) (Or.inl ⟨by rfl,?_⟩) (by assumption) ?_
 rotate_left
 ·intro w hSw
  try dsimp only at hSw
  go_simp
  first|done|(with_reducible rfl)
 try simp only[Act.put,km,dL,dH]
 refine wpAnyH_take (i:=14) (v:=?_) rfl (by kernel_rfl) (by kernel_rfl) (by kernel_rfl) (fun _ _ _ h=>h) (Or.inl ⟨by rfl,?_⟩) (by assumption) ?_
 rotate_left
 ·intro w hSw
  try dsimp only at hSw
  go_simp
  first|done|(with_reducible rfl)
 try simp only[Act.put,km,dL,dH]
 refine wpAnyH_take (i:=15) (v:=?_) rfl (by kernel_rfl) (by kernel_rfl) (by kernel_rfl) (fun _ _ _ h=>h) (Or.inl ⟨by rfl,?_⟩) (by assumption) ?_
 rotate_left
 ·intro w hSw
  try dsimp only at hSw
  go_simp
  first|done|(with_reducible rfl)
 try simp only[Act.put,km,dL,dH]
 refine wpAnyH_take (i:=16) (v:=?_) rfl (by kernel_rfl) (by kernel_rfl) (by kernel_rfl) (fun _ _ _ h=>h) (Or.inl ⟨by rfl,?_⟩) (by assumption) ?_
 rotate_left
 ·intro w hSw
  try dsimp only at hSw
  go_simp
  first|done|(with_reducible rfl)
 try simp only[Act.put,km,dL,dH]
 refine wpAnyH_take (i:=17) (v:=?_) rfl (by kernel_rfl) (by kernel_rfl) (by kernel_rfl) (fun _ _ _ h=>h) (Or.inl ⟨by rfl,?_⟩) (by assumption) ?_
 rotate_left
 ·intro w hSw
  try dsimp only at hSw
  go_simp
  first|done|(with_reducible rfl)
 try simp only[Act.put,km,dL,dH]
 refine wpAnyH_take (i:=18) (v:=?_) rfl (by kernel_rfl) (by kernel_rfl) (by kernel_rfl) (fun _ _ _ h=>h) (Or.inl ⟨by rfl,?_⟩) (by assumption) ?_
 rotate_left
 ·intro w hSw
  try dsimp only at hSw
  go_simp
  first|done|(with_reducible rfl)
 try simp only[Act.put,km,dL,dH]
 refine wpAnyH_take (i:=19) (v:=?_) rfl (by kernel_rfl) (by kernel_rfl) (by kernel_rfl) (fun _ _ _ h=>h) (Or.inl ⟨by rfl,?_⟩) (by assumption) ?_
 rotate_left
 ·intro w hSw
  try dsimp only at hSw
  go_simp
  first|done|(with_reducible rfl)
 try simp only[Act.put,km,dL,dH]
 refine wpAnyH_take (i:=20) (v:=?_) rfl (by kernel_rfl) (by kernel_rfl) (by kernel_rfl) (fun _ _ _ h=>h) (Or.inl ⟨by rfl,?_⟩) (by assumption) ?_
 rotate_left
 ·intro w hSw
  try dsimp only at hSw
  go_simp
  first|done|(with_reducible rfl)
 try simp only[Act.put,km,dL,dH]
 refine wpAnyH_take (i:=21) (v:=?_) rfl (by kernel_rfl) (by kernel_rfl) (by kernel_rfl) (fun _ _ _ h=>h) (Or.inl ⟨by rfl,?_⟩) (by assumption) ?_
 rotate_left
 ·intro w hSw
  try dsimp only at hSw
  go_simp
  first|done|(with_reducible rfl)
 try simp only[Act.put,km,dL,dH]
 refine wpAnyH_take (i:=22) (v:=?_) rfl (by kernel_rfl) (by kernel_rfl) (by kernel_rfl) (fun _ _ _ h=>h) (Or.inl ⟨by rfl,?_⟩) (by assumption) ?_
 rotate_left
 ·intro w hSw
  try dsimp only at hSw
  go_simp
  first|done|(with_reducible rfl)
 try simp only[Act.put,km,dL,dH]
 refine wpAnyH_take (i:=23) (v:=?_) rfl (by kernel_rfl) (by kernel_rfl) (by kernel_rfl) (fun _ _ _ h=>h) (Or.inl ⟨by rfl,?_⟩) (by assumption) ?_
 rotate_left
 ·intro w hSw
  try dsimp only at hSw
  go_simp
  first|done|(with_reducible rfl)
 try simp only[Act.put,km,dL,dH]
 refine wpAnyH_take (i:=24) (v:=?_) rfl (by kernel_rfl) (by kernel_rfl) (by kernel_rfl) (fun _ _ _ h=>h) (Or.inl ⟨by rfl,?_⟩) (by assumption) ?_
 rotate_left
 ·intro w hSw
  try dsimp only at hSw
  go_simp
  first|done|(with_reducible rfl)
 try simp only[Act.put,km,dL,dH]
 refine wpAnyH_take (i:=25) (v:=?_) rfl (by kernel_rfl) (by kernel_rfl) (by kernel_rfl) (fun _ _ _ h=>h) (Or.inl ⟨by rfl,?_⟩) (by assumption) ?_
 rotate_left
 ·intro w hSw
  try dsimp only at hSw
  go_simp
  first|done|(with_reducible rfl)
 try simp only[Act.put,km,dL,dH]
 refine wpAnyH_ready (rs:=[4,26]) (by kernel_rfl) (by simp) ?_;refine AllReadyH.cons (i:=4) rfl (fun K hK=>?_) ?_
 ·go_simp
  refine hK.out _ _ ?_ (fun hHeld=>?_)
  ·(try dsimp only)
   first|done|go_keep|(refine⟨?_,?_⟩<;>(rw[mQ _ _ _ _ (by simp)];assumption))
  clear hK K
  try simp only[Act.put,km,dL,dH]
  refine wpAnyH_ready (rs:=[26]) (by kernel_rfl) (by simp) ?_;refine AllReadyH.cons (i:=26) rfl (fun K hK=>?_) ?_
  ·go_simp
   refine hK.out _ _ ?_ (fun hHeld=>?_)
   ·(try dsimp only)
    first|done|go_keep|(refine⟨?_,?_⟩<;>(rw[mQ _ _ _ _ (by simp)];assumption))
   clear hK K
   try simp only[Act.put,km,dL,dH]
   refine wpAnyH_ready (rs:=[27]) (by kernel_rfl) (by simp) ?_;refine AllReadyH.cons (i:=27) rfl (fun K hK=>?_) ?_
   ·refine sB (w0:=w.drew) rfl (.tmp 11) (.tmp 33) 135 rfl base 139 (.agg #[.int .i64 0,.string ⟨#[]⟩,.int .i64 0]) 3 32 we underlying135 rfl (by omega) v _ _ (by rfl) HO.out [.int .i64 (k:Int),.string (s.extract at' (at'+n)),.int .i64 (at':Int)] rfl (by rfl) (by intro u hu;simp at hu;rcases hu with rfl|rfl|rfl<;>rfl) (by unfold maxLen;omega) (by omega) (jk (o7 gN HZ.out.lt)) ?_;intro v' w' ho hg;obtain⟨ao,n',c',rfl⟩:=wg ho;have ej:=Jl HZ.out HO.out hg;have d4:w'.cell? ⟨p,4,none⟩=some v:=(ej.cell 4).trans rfl;have f4:w'.frozen? ⟨p,4,none⟩=false:=ej.frozen 4;have f1:w'.frozen? ⟨p,1,none⟩=false:=ej.frozen 1;have d0:w'.cell? ⟨p,0,none⟩=some (.string s):=(ej.cell 0).trans rfl;have d1:w'.cell? ⟨p,1,none⟩=some (.int .i64 (at':Int)):=(ej.cell 1).trans rfl;have iE:=ae ej;have lD:=ae ho;have HG2:=ae hg;clear ej ho hg;refine hK.out _ _ ?_ (fun hHeld=>?_)
    ·(try dsimp only)
     first|done|go_keep|(refine⟨?_,?_⟩<;>(rw[mQ _ _ _ _ (by simp)];assumption))
    clear hK K
    try simp only[Act.put,km,dL,dH]
    refine wpAnyH_take (i:=28) (v:=?_) rfl (by kernel_rfl) (by kernel_rfl) (by kernel_rfl) (fun _ _ _ h=>h) (Or.inl ⟨by rfl,?_⟩) (by assumption) ?_
    rotate_left
    ·intro w hSw
     try dsimp only at hSw
     go_simp
     first|done|(with_reducible rfl)
    try simp only[Act.put,km,dL,dH]
    refine wpAnyH_take (i:=29) (v:=?_) rfl (by kernel_rfl) (by kernel_rfl) (by kernel_rfl) (fun _ _ _ h=>h) (Or.inl ⟨by rfl,?_⟩) (by assumption) ?_
    rotate_left
    ·intro w hSw
     try dsimp only at hSw
     go_simp
     first|done|(with_reducible rfl)
    try simp only[Act.put,km,dL,dH]
    refine wpAnyH_ready (rs:=[30]) (by kernel_rfl) (by simp) ?_;refine AllReadyH.cons (i:=30) rfl (fun K hK=>?_) ?_
    ·go_simp
     refine hK.out _ _ ?_ (fun hHeld=>?_)
     ·(try dsimp only)
      first|done|go_keep|(refine⟨?_,?_⟩<;>(rw[mQ _ _ _ _ (by simp)];assumption))
     clear hK K
     try simp only[Act.put,km,dL,dH]
     refine wpAnyH_done (by kernel_rfl) ?_ _;refine NoPanic.normal ?_;go_wp2_with fail;go_ret;have mh:=(aM.dz (aM.dz iE.out 4 (.slice ao n' c')) 1 (.int .i64 ((at':Int)+(n:Int))));refine⟨rfl,.slice ao n' c',?_,?_,?_⟩
     ·simpa [qH]using mh
     ·have h:=aG (i:=1) (aG (i:=4) lD.out iE.out (by decide) (.slice ao n' c')) (aM.dz iE.out 4 (.slice ao n' c')) (by decide) (.int .i64 ((at':Int)+(n:Int)));have e:(aO (ts++[⟨k,(s.data.toList.drop at').take n,at'⟩]))=aO ts++[.int .i64 (k:Int),.string (s.extract at' (at'+n)),.int .i64 (at':Int)]:=by
       rw[jH,Tok.cells];have:(⟨((s.data.toList.drop at').take n).toArray⟩:ByteArray)=s.extract at' (at'+n):=by
        rw[←mk_data (s.extract at' (at'+n)),Lib.extract_data,show at'+n-at'=n by omega]
       rw[this]
      rw[e,iF];exact h
     ·have aA:=HZ.out.lt;have hb:=((aU base w).drew).grown HG2.out (jk (o7 gN aA)) (fun g hg=>(HO.out.lt g hg).1);exact(hb.setCell (p:=⟨p,4,none⟩) gN _).setCell (p:=⟨p,1,none⟩) gN _
    exact AllReadyH.nil
   exact AllReadyH.nil
  exact AllReadyH.nil
 refine AllReadyH.cons (i:=26) rfl (fun K hK=>?_) ?_
 ·go_simp
  refine hK.out _ _ ?_ (fun hHeld=>?_)
  ·(try dsimp only)
   first|done|go_keep|(refine⟨?_,?_⟩<;>(rw[mQ _ _ _ _ (by simp)];assumption))
  clear hK K
  try simp only[Act.put,km,dL,dH]
  refine wpAnyH_ready (rs:=[4]) (by kernel_rfl) (by simp) ?_;refine AllReadyH.cons (i:=4) rfl (fun K hK=>?_) ?_
  ·go_simp
   refine hK.out _ _ ?_ (fun hHeld=>?_)
   ·(try dsimp only)
    first|done|go_keep|(refine⟨?_,?_⟩<;>(rw[mQ _ _ _ _ (by simp)];assumption))
   clear hK K
   try simp only[Act.put,km,dL,dH]
   refine wpAnyH_ready (rs:=[27]) (by kernel_rfl) (by simp) ?_;refine AllReadyH.cons (i:=27) rfl (fun K hK=>?_) ?_
   ·refine sB (w0:=w.drew) rfl (.tmp 11) (.tmp 33) 135 rfl base 139 (.agg #[.int .i64 0,.string ⟨#[]⟩,.int .i64 0]) 3 32 we underlying135 rfl (by omega) v _ _ (by rfl) HO.out [.int .i64 (k:Int),.string (s.extract at' (at'+n)),.int .i64 (at':Int)] rfl (by rfl) (by intro u hu;simp at hu;rcases hu with rfl|rfl|rfl<;>rfl) (by unfold maxLen;omega) (by omega) (jk (o7 gN HZ.out.lt)) ?_;intro v' w' ho hg;obtain⟨ao,n',c',rfl⟩:=wg ho;have ej:=Jl HZ.out HO.out hg;have d4:w'.cell? ⟨p,4,none⟩=some v:=(ej.cell 4).trans rfl;have f4:w'.frozen? ⟨p,4,none⟩=false:=ej.frozen 4;have f1:w'.frozen? ⟨p,1,none⟩=false:=ej.frozen 1;have d0:w'.cell? ⟨p,0,none⟩=some (.string s):=(ej.cell 0).trans rfl;have d1:w'.cell? ⟨p,1,none⟩=some (.int .i64 (at':Int)):=(ej.cell 1).trans rfl;have iE:=ae ej;have lD:=ae ho;have HG2:=ae hg;clear ej ho hg;refine hK.out _ _ ?_ (fun hHeld=>?_)
    ·(try dsimp only)
     first|done|go_keep|(refine⟨?_,?_⟩<;>(rw[mQ _ _ _ _ (by simp)];assumption))
    clear hK K
    try simp only[Act.put,km,dL,dH]
    refine wpAnyH_take (i:=28) (v:=?_) rfl (by kernel_rfl) (by kernel_rfl) (by kernel_rfl) (fun _ _ _ h=>h) (Or.inl ⟨by rfl,?_⟩) (by assumption) ?_
    rotate_left
    ·intro w hSw
     try dsimp only at hSw
     go_simp
     first|done|(with_reducible rfl)
    try simp only[Act.put,km,dL,dH]
    refine wpAnyH_take (i:=29) (v:=?_) rfl (by kernel_rfl) (by kernel_rfl) (by kernel_rfl) (fun _ _ _ h=>h) (Or.inl ⟨by rfl,?_⟩) (by assumption) ?_
    rotate_left
    ·intro w hSw
     try dsimp only at hSw
     go_simp
     first|done|(with_reducible rfl)
    try simp only[Act.put,km,dL,dH]
    refine wpAnyH_ready (rs:=[30]) (by kernel_rfl) (by simp) ?_;refine AllReadyH.cons (i:=30) rfl (fun K hK=>?_) ?_
    ·go_simp
     refine hK.out _ _ ?_ (fun hHeld=>?_)
     ·(try dsimp only)
      first|done|go_keep|(refine⟨?_,?_⟩<;>(rw[mQ _ _ _ _ (by simp)];assumption))
     clear hK K
     try simp only[Act.put,km,dL,dH]
     refine wpAnyH_done (by kernel_rfl) ?_ _;refine NoPanic.normal ?_;go_wp2_with fail;go_ret;have mh:=(aM.dz (aM.dz iE.out 4 (.slice ao n' c')) 1 (.int .i64 ((at':Int)+(n:Int))));refine⟨rfl,.slice ao n' c',?_,?_,?_⟩
     ·simpa [qH]using mh
     ·have h:=aG (i:=1) (aG (i:=4) lD.out iE.out (by decide) (.slice ao n' c')) (aM.dz iE.out 4 (.slice ao n' c')) (by decide) (.int .i64 ((at':Int)+(n:Int)));have e:(aO (ts++[⟨k,(s.data.toList.drop at').take n,at'⟩]))=aO ts++[.int .i64 (k:Int),.string (s.extract at' (at'+n)),.int .i64 (at':Int)]:=by
       rw[jH,Tok.cells];have:(⟨((s.data.toList.drop at').take n).toArray⟩:ByteArray)=s.extract at' (at'+n):=by
        rw[←mk_data (s.extract at' (at'+n)),Lib.extract_data,show at'+n-at'=n by omega]
       rw[this]
      rw[e,iF];exact h
     ·have aA:=HZ.out.lt;have hb:=((aU base w).drew).grown HG2.out (jk (o7 gN aA)) (fun g hg=>(HO.out.lt g hg).1);exact(hb.setCell (p:=⟨p,4,none⟩) gN _).setCell (p:=⟨p,1,none⟩) gN _
    exact AllReadyH.nil
   exact AllReadyH.nil
  exact AllReadyH.nil
 exact AllReadyH.nil
theorem db (h:i<x.length):au (x++y) i=au x i:=by
 simp[au,lf,Tj h]
theorem eG {p:UInt8→Bool} (hi:i≤x.length) (h:ag p (x++y) i≤x.length):ag p x i=ag p (x++y) i:=by
 have e:(x++y).drop i=x.drop i++y:=Io hi;unfold ag at h ⊢
 rw[e]at h ⊢
 obtain⟨z,hz⟩: ∃z,z=x.drop i:=⟨_,rfl⟩;have hzl:z.length=x.length-i:=by rw[hz];simp
 rw[←hz]at h ⊢
 clear hz e;have h2:((z++y).takeWhile p).length≤z.length:=by omega
 have h3: ∀z:List UInt8,((z++y).takeWhile p).length≤z.length→(z.takeWhile p).length=((z++y).takeWhile p).length:=by
  intro z;induction z with
  |nil=>intro h;exact(Nat.le_zero.1 h).symm
  |cons c r ih=>
   intro h;simp only[oh,qN]at*
   split
   ·rename_i hp;rw[az hp]at h;simp at h;simp[ih h]
   ·rfl
 rw[h3 z h2]
theorem yW {p:UInt8→Bool} (hi:i≤x.length) (hc:p c=false):ag p (x++c::y) i=ag p x i:=by
 refine(eG hi ?_).symm;unfold ag;rw[Io hi];have h3: ∀z:List UInt8,((z++c::y).takeWhile p).length≤z.length:=by
  intro z;induction z with
  |nil=>simp[qN,hc]
  |cons d r ih=>
   simp only[oh,qN];split
   ·simp;omega
   ·simp
 have:=h3 (x.drop i);simp at this ⊢
 omega
theorem ME {p:UInt8→Bool} : ∀{l:List UInt8} {i:Nat},ag p l i<l.length→p (au l (ag p l i))=false:=by
 intro l i;unfold ag;obtain⟨z,hz⟩: ∃z,z=l.drop i:=⟨_,rfl⟩;intro h;have h1:au l (i+(z.takeWhile p).length)=au z (z.takeWhile p).length:=by rw[hz,gq]
 rw[←hz]at h ⊢
 rw[h1];have hl:(z.takeWhile p).length<z.length:=by rw[hz]at h ⊢;simp at h ⊢;omega
 clear h h1 hz;induction z with
 |nil=>simp at hl
 |cons c r ih=>
  simp only[qN]at*
  split
  ·rename_i hp;rw[az hp]at hl;simp only[ek,Nat.add_lt_add_iff_right]at hl;exact ih hl
  ·rename_i hp;simpa [au]using hp
theorem dw {p:UInt8→Bool} (h:i<l.length) (hp:p (au l i)=false):ag p l i=i:=by
 refine wG h ?_;rw[←hp,au,lf,lJ h];rfl
theorem JY (h:2<x.length):aR (x++y)=aR x:=by
 unfold aR;rw[db (by omega),db (by omega),db h,dO h,dO (by simp;omega)]
theorem Ch (h:aK (x++y)≤x.length):aK x=aK (x++y):=by
 have h0:ag digit (x++y) 0≤aK (x++y):=by
  unfold aK;split
  ·have:=aW digit (x++y) (ag digit (x++y) 0+1);omega
  ·split
   ·omega
   ·omega
 have h1:=eG (p:=digit) (x:=x) (y:=y) (aV _) (by omega);unfold aK at*
 rw[h1];generalize ag digit (x++y) 0=k at*
 by_cases c1:k<(x++y).length∧(au (x++y) k).toNat=46∧0<k
 ·rw[az c1]at h ⊢
  have h2:=aW digit (x++y) (k+1);have hk:k<x.length:=by omega
  rw[db hk]at c1;rw[az ⟨hk,c1.2⟩];exact eG (by omega) h
 ·rw[ah c1]at h ⊢
  rw[ah (by rintro⟨a,b,c⟩;exact c1 ⟨by simp;omega,by rw[db a];exact b,c⟩)];by_cases c2:k=0∧1<(x++y).length∧(au (x++y) 0).toNat=46∧digit (au (x++y) 1)=true
  ·rw[az c2]at h ⊢
   have h2:2≤ag digit (x++y) 1:=by
    have:=iu (p:=digit) (l:=x++y) (i:=1) c2.2.1 (by
     have:=c2.2.2.2;rw[au,lf,lJ c2.2.1]at this;exact this)
    rw[←this];exact aW digit _ 2
   rw[db (by omega),db (by omega)]at c2;rw[az ⟨c2.1,by omega,c2.2.2⟩];exact eG (by omega) h
  ·rw[ah c2];rw[ah (by rintro⟨a,b,c,d⟩;exact c2 ⟨a,by simp;omega,by rw[db (by omega)];exact c,by rw[db b];exact d⟩)]
theorem Ci (hi:i≤x.length) (h:cU (x++y) i≤x.length):cU x i=cU (x++y) i:=by
 by_cases hx:x.length≤i
 ·have h1:cU x i=i:=by rw[cU,az (.inl hx)]
  have h2:=lY (x++y) i (by simp;omega);omega
 ·have ha:au (x++y) i=au x i:=db (by omega);unfold cU at h ⊢
  rw[ha]at h ⊢
  cases he:tc (au x i)
  ·rw[az (.inr rfl),az (.inr rfl)]
  ·rw[he]at h;have n1: ¬((x++y).length≤i∨true=false):=by simp;omega
   have n2: ¬(x.length≤i∨true=false):=by simp;omega
   rw[ah n1]at h;rw[ah n1,ah n2];by_cases hs:i+1<x.length
   ·have hj:dG (x++y) i=dG x i:=by
     unfold dG;rw[db hs];by_cases hp:zM (au x (i+1))=true
     ·rw[az ⟨by simp;omega,hp⟩,az ⟨hs,hp⟩]
     ·rw[ah (by intro h;exact hp h.2),ah (by intro h;exact hp h.2)]
    have hb:=nE x i (by omega);rw[hj]at h ⊢
    by_cases hd:ag digit (x++y) (dG x i)≤x.length
    ·rw[eG hb.2 hd]
    ·have lW:dG x i<ag digit (x++y) (dG x i):=by omega
     rw[az lW]at h;omega
   ·
    have hj:dG x i=i+1:=by rw[dG,ah (by intro h;exact hs h.1)]
    rw[hj,bP (by omega),ah (by omega)];have hb:=nE (x++y) i (by simp;omega);by_cases hd:dG (x++y) i<ag digit (x++y) (dG (x++y) i)
    ·rw[az hd]at h;omega
    ·rw[ah hd]
theorem DF (h:an (x++y)≤x.length):an x=an (x++y):=by
 by_cases h2:2<x.length
 ·unfold an at h ⊢
  rw[JY h2]at h ⊢
  cases hh:aR x
  ·rw[hh]at h;simp only[lk,iw]at h ⊢
   have hle:aK (x++y)≤x.length:=by
    by_cases h0:aK (x++y)=0
    ·omega
    ·rw[ah h0]at h;have:=lY (x++y) _ (lZ (x++y));omega
   rw[Ch hle];by_cases h0:aK (x++y)=0
   ·rw[az h0,az h0]
   ·rw[ah h0]at h;rw[ah h0,ah h0];exact Ci hle h
  ·rw[hh]at h;simp only[kK]at h ⊢
   exact eG (by omega) h
 ·have hn:aR x=false:=by simp[aR];omega
  have xd:aR (x++y)=false:=by
   cases hh:aR (x++y)
   ·rfl
   ·have h3:3≤an (x++y):=by
     have Ws:=hh;simp only[aR,kH,ua]at Ws;rw[an,hh,az rfl];have:=iu (p:=gO) (l:=x++y) (i:=2) Ws.1.1.1 (by
      have:=Ws.2;rw[au,lf,lJ Ws.1.1.1]at this;exact this)
     rw[←this];exact aW gO _ 3
    omega
  unfold an at h ⊢
  rw[xd]at h;rw[hn,xd];simp only[lk,iw]at h ⊢
  have hle:aK (x++y)≤x.length:=by
   by_cases h0:aK (x++y)=0
   ·omega
   ·rw[ah h0]at h;have:=lY (x++y) _ (lZ (x++y));omega
  rw[Ch hle];by_cases h0:aK (x++y)=0
  ·rw[az h0,az h0]
  ·rw[ah h0]at h;rw[ah h0,ah h0];exact Ci hle h
theorem F3: ∀(f:Nat) (l:List UInt8) (fin next sum:Nat),fin≤(D3 f l fin next sum).1
 |0,_,_,_,_=>aS _
 |f+1,l,fin,next,sum=>by
  rw[D3];split
  ·exact aS _
  ·have h1:=F3 f l (aN l (ag digit l fin)).2 ((aN l (ag digit l fin)).1+1) (jw (sat ((l.drop fin).take (ag digit l fin-fin))) (aN l (ag digit l fin)).1 sum);have h2:=(jX l (ag digit l fin)).1;have h3:=aW digit l fin;omega
theorem Cj (h:l.length≤i):aN l i=(7,i):=by rw[aN,az h]
theorem MF (hi:i<x.length) (h:(aN (x++y) i).2≤x.length):aN x i=aN (x++y) i:=by
 have h1: ¬(x++y).length≤i:=by simp;omega
 unfold aN at h ⊢
 rw[ah h1]at h;rw[ah h1,ah (by omega)];rw[db hi]at h ⊢
 by_cases hm:au x i=109∧i+1<(x++y).length∧au (x++y) (i+1)=115
 ·rw[az hm]at h;simp only at h;rw[az hm,az ⟨hm.1,by omega,by rw[←db (y:=y) (by omega)];exact hm.2.2⟩]
 ·rw[ah hm,ah (by rintro⟨a,b,c⟩;exact hm ⟨a,by simp;omega,by rw[db b];exact c⟩)]
theorem JZ (hi:i<x.length) (h:x.length<(aN (x++y) i).2):(aN x i).1=4∧(aN (x++y) i).1=6:=by
 have h1: ¬(x++y).length≤i:=by simp;omega
 unfold aN at h ⊢
 rw[ah h1]at h;rw[ah h1,ah (by omega)];rw[db hi]at h ⊢
 by_cases hm:au x i=109∧i+1<(x++y).length∧au (x++y) (i+1)=115
 ·rw[az hm]at h;simp only at h;rw[az hm,ah (by omega),hm.1];exact⟨by rw[ah (by decide)];show Xa 109=4;decide,rfl⟩
 ·rw[ah hm]at h;split at h<;>(simp only at h;omega)
theorem tI (h:i+n≤x.length):((x++y).drop i).take n=(x.drop i).take n:=by
 rw[Io (by omega),AU (by simp;omega)]
theorem OK {x y:List UInt8}: ∀(f fin next sum:Nat),fin≤x.length→next≤7→(D3 f (x++y) fin next sum).1≤x.length→D3 f x fin next sum=D3 f (x++y) fin next sum
 |0,_,_,_,_,_,_=>rfl
 |f+1,fin,next,sum,hf,hn,h=>by
  rw[D3]at h;rw[D3,D3];have lW:=aW digit (x++y) fin;by_cases hk:ag digit (x++y) fin≤x.length
  ·have uT:=eG hf hk;rw[uT];rcases dE (ag digit (x++y) fin) x.length with aA|LF
   ·generalize ag digit (x++y) fin=k at*
    by_cases hu:(aN (x++y) k).2≤x.length
    ·rw[MF aA hu];by_cases hc:k=fin∨(aN (x++y) k).1<next∨(aN (x++y) k).1=7
     ·rw[az hc,az hc]
     ·rw[ah hc]at h;rw[ah hc,ah hc,tI (by omega)];have hu7:=(jX (x++y) k).2.2;rw[tI (by omega)]at h;exact OK f _ _ _ hu (by omega) h
    ·obtain⟨h4,h6⟩:=JZ (x:=x) (y:=y) aA (by omega);by_cases hc:k=fin∨(aN (x++y) k).1<next∨(aN (x++y) k).1=7
     ·rw[az hc,az (by rw[h4];omega)]
     ·rw[ah hc]at h;have:=F3 f (x++y) (aN (x++y) k).2 ((aN (x++y) k).1+1) (jw (sat (((x++y).drop fin).take (k-fin))) (aN (x++y) k).1 sum);omega
   ·have ajK:ag digit (x++y) fin=x.length:=by omega
    rw[ajK]at h ⊢
    rw[Cj (aS _),az (.inr (.inr rfl))];by_cases hc:x.length=fin∨(aN (x++y) x.length).1<next∨(aN (x++y) x.length).1=7
    ·rw[az hc]
    ·rw[ah hc]at h;have h1:=F3 f (x++y) (aN (x++y) x.length).2 ((aN (x++y) x.length).1+1) (jw (sat (((x++y).drop fin).take (x.length-fin))) (aN (x++y) x.length).1 sum);have h2:x.length<(aN (x++y) x.length).2:=by
      unfold aN at hc ⊢
      split
      ·rename_i h3;rw[az h3]at hc;simp at hc
      ·rename_i h3;rw[ah h3]at hc;split
       ·simp
       ·rename_i h4;rw[ah h4]at hc;split
        ·rename_i h5;rw[az h5]at hc;simp at hc
        ·simp
     omega
  ·
   have hx:ag digit x fin=x.length:=by
    have h1:=bK digit x fin hf;rcases dE (ag digit x fin) x.length with aA|LF
    ·exfalso;have h2:=ME aA;have h3:ag digit (x++y) fin=ag digit x fin:=by
      obtain⟨c,r,hcr⟩: ∃c r,x.drop (ag digit x fin)=c::r:=by
       cases hd:x.drop (ag digit x fin)with
       |nil=>have:=cn List.length hd;simp at this;omega
       |cons c r=>exact⟨c,r,rfl⟩
      have hc:c=au x (ag digit x fin):=by
       have:=gq x (ag digit x fin) 0;rw[hcr]at this;simpa [au]using this
      have hx:x++y=x.take (ag digit x fin)++c::(r++y):=by
       conv=>lhs;rw[←tn (ag digit x fin) x,hcr]
       simp
      have mj:x=x.take (ag digit x fin)++c::r:=by
       conv=>lhs;rw[←tn (ag digit x fin) x,hcr]
      have hfl:fin≤(x.take (ag digit x fin)).length:=by
       have:=aW digit x fin;simp;omega
      have hd:digit c=false:=by rw[hc];exact h2
      have e1:=yW (p:=digit) (y:=r++y) hfl hd;have e2:=yW (p:=digit) (y:=r) hfl hd;rw[←hx]at e1;rw[←mj]at e2;rw[e1,←e2]
     omega
    ·omega
   rw[hx,Cj (aS _),az (.inr (.inr rfl))];by_cases hc:ag digit (x++y) fin=fin∨(aN (x++y) (ag digit (x++y) fin)).1<next∨(aN (x++y) (ag digit (x++y) fin)).1=7
   ·rw[az hc]
   ·rw[ah hc]at h;have h1:=F3 f (x++y) (aN (x++y) (ag digit (x++y) fin)).2 ((aN (x++y) (ag digit (x++y) fin)).1+1) (jw (sat (((x++y).drop fin).take (ag digit (x++y) fin-fin))) (aN (x++y) (ag digit (x++y) fin)).1 sum);have h2:=(jX (x++y) (ag digit (x++y) fin)).1;omega
theorem CP (h:aX (x++y)≤x.length):aX x=aX (x++y):=by
 unfold aX measure at*
 rw[OK 8 0 0 0 (aV _) (by omega) h]
def LZ (w:World) (p:Nat) (s:ByteArray) (at':Nat) (br sq:Bool) (v:Value) (er:Nat):Prop:=aM w p 151 #[.string s,.int .i64 (at':Int),.bool br,.bool sq,v,.int .i64 (er:Int)]
theorem EO (hz:LZ w p s at' br sq v er) (ho:w.ownsRow base 139 3 v n xs) (hg:w.drew.grownBy w' v.ownBlock):LZ w' p s at' br sq v er:=
 aM.grown (w:=w.drew) hz hg (cW (e:=139) ho hz (by decide)).symm
theorem Jm {q:Nat} (hz:aM w q 139 cs) (hv:v.ownBlock≠some q) (hg:w.drew.grownBy w' v.ownBlock):aM w' q 139 cs:=
 aM.grown (w:=w.drew) hz hg hv.symm
theorem UK (w:World) (base p:Nat) (s:ByteArray) (at' k n:Nat) (x y:Int) (hx:x=(k:Int)) (hy:y=(n:Int)) (br sq:Bool) (v:Value) (ts:List Tok) (hs:s.size≤281474976710656) (hn:at'+n≤s.size) (hk:k≤6)
  (hz:LZ w p s at' br sq v 0) (aP:w.ownsRow base 139 3 v ts.length (aO ts)) (hlen:ts.length≤1099511627776) (gN:base≤p):
  Calls prog 109 #[.pointer (some ⟨p,0,none⟩),.int .i64 x,.int .i64 y] w fun e w'=>e= .returned (.tuple #[])∧
   ∃v',LZ w' p s (at'+n) br sq v' 0∧w'.ownsRow base 139 3 v' (ts++[(⟨k,(s.data.toList.drop at').take n,at'⟩:Tok)]).length (aO (ts++[(⟨k,(s.data.toList.drop at').take n,at'⟩:Tok)]))∧Below base w w':=by
 subst hx hy;have hw:IntKind.i64.wrap ((at':Int)+(n:Int))=((at'+n:Nat):Int):=by rw[ou];omega
 have q1:(0≤(at':Int)+(n:Int))=True:=by simp;omega
 have q2:((at':Int)+(n:Int)≤(s.size:Int))=True:=by simp;omega
 have q3:((at':Int)≤(at':Int)+(n:Int))=True:=by simp;omega
 have q4:((at':Int)+(n:Int)).toNat=at'+n:=by omega
 have c0:w.cell? ⟨p,0,none⟩=some (.string s):=by rw[hz.cell];rfl
 have c1:w.cell? ⟨p,1,none⟩=some (.int .i64 (at':Int)):=by rw[hz.cell];rfl
 have HZ:=ae hz;have HO:=ae aP;clear hz aP;go_enter func109,ntmps109;go_wp2_with fail;go_region_held3 (fun w'=>w'.cell? ⟨p,0,none⟩=some (.string s)∧w'.cell? ⟨p,1,none⟩=some (.int .i64 (at':Int))) (first|go_keep) (first|fail);rename_i hAB;clear hAB c0 c1;obtain⟨q,hq⟩: ∃q,q=w.heap.size:=⟨_,rfl⟩;have aA:=HZ.out.lt;have hpq:p<q:=by omega
 have HVQ:Hid (v.ownBlock≠some q):=ae (fun h=>by have:=(HO.out.lt q h).2;omega);have de:LZ (w.alloc (.cells #[.int .i64 (k:Int),.string (s.extract at' (at'+n)),.int .i64 (at':Int)] 139)).drew p s at' br sq v 0:=aM.drew (aM.alloc HZ.out _);have uW:(w.alloc (.cells #[.int .i64 (k:Int),.string (s.extract at' (at'+n)),.int .i64 (at':Int)] 139)).drew.ownsRow base 139 3 v ts.length (aO ts):=HO.out.alloc _;have D4:aM (w.alloc (.cells #[.int .i64 (k:Int),.string (s.extract at' (at'+n)),.int .i64 (at':Int)] 139)).drew q 139 #[.int .i64 (k:Int),.string (s.extract at' (at'+n)),.int .i64 (at':Int)]:=by
  rw[hq];exact aM.drew (aM.new w _ _)
 have aY:Below base w (w.alloc (.cells #[.int .i64 (k:Int),.string (s.extract at' (at'+n)),.int .i64 (at':Int)] 139)).drew:=((aU base w).alloc (by omega) _).drew;rw[←hq];generalize (w.alloc (.cells #[.int .i64 (k:Int),.string (s.extract at' (at'+n)),.int .i64 (at':Int)] 139)).drew=w1 at de uW D4 aY ⊢
 have c4:w1.cell? ⟨p,4,none⟩=some v:=by rw[de.cell];rfl
 have e4: ∀o,(w1.alloc o).cell? ⟨p,4,none⟩=some v:=fun o=>((aM.alloc de o).cell 4).trans rfl
 have e4': ∀o,(w1.drew.alloc o).cell? ⟨p,4,none⟩=some v:=fun o=>((aM.alloc (w:=w1.drew) de o).cell 4).trans rfl
 have g0:w1.cell? ⟨q,0,none⟩=some (.int .i64 (k:Int)):=(D4.cell 0).trans rfl;have g1:w1.cell? ⟨q,1,none⟩=some (.string (s.extract at' (at'+n))):=(D4.cell 1).trans rfl;have g2:w1.cell? ⟨q,2,none⟩=some (.int .i64 (at':Int)):=(D4.cell 2).trans rfl;have Zz:Hid (base≤w1.drew.heap.size):=ae (jk (o7 gN de.lt));have oY:=ae de;have sd:=ae uW;have HQ:=ae D4;have cF:=ae aY;clear de uW D4 aY hq aA;go_wp2_with fail;refine wp_region_noPanic ?_;refine wp_region_held_drew (S:=fun w'=>w'.cell? ⟨q,0,none⟩=some (.int .i64 (k:Int))∧w'.cell? ⟨q,1,none⟩=some (.string (s.extract at' (at'+n)))∧w'.cell? ⟨q,2,none⟩=some (.int .i64 (at':Int))) (by kernel_rfl) ?_ (fun hHeld=>?_)
 ·(try dsimp only)
  first|done|go_keep|(refine⟨?_,?_,?_⟩<;>(rw[mQ _ _ _ _ (by simp)];assumption))
 refine wpAnyH_take (i:=0) (v:=?_) rfl (by kernel_rfl) (by kernel_rfl) (by kernel_rfl) (fun _ _ _ h=>h) (Or.inl ⟨by rfl,?_⟩) (by assumption) ?_
 rotate_left
 ·intro w hSw
  try dsimp only at hSw
  go_simp
  first|done|(with_reducible rfl)
 try simp only[Act.put,km,dL,dH]
 refine wpAnyH_take (i:=1) (v:=?_) rfl (by kernel_rfl) (by kernel_rfl) (by kernel_rfl) (fun _ _ _ h=>h) (Or.inl ⟨by rfl,?_⟩) (by assumption) ?_
 rotate_left
 ·intro w hSw
  try dsimp only at hSw
  go_simp
  first|done|(with_reducible rfl)
 try simp only[Act.put,km,dL,dH]
 refine wpAnyH_take (i:=2) (v:=?_) rfl (by kernel_rfl) (by kernel_rfl) (by kernel_rfl) (fun _ _ _ h=>h) (Or.inl ⟨by rfl,?_⟩) (by assumption) ?_
 rotate_left
 ·intro w hSw
  try dsimp only at hSw
  go_simp
  first|done|(with_reducible rfl)
 try simp only[Act.put,km,dL,dH]
 refine wpAnyH_take (i:=3) (v:=?_) rfl (by kernel_rfl) (by kernel_rfl) (by kernel_rfl) (fun _ _ _ h=>h) (Or.inl ⟨by rfl,?_⟩) (by assumption) ?_
 rotate_left
 ·intro w hSw
  try dsimp only at hSw
  go_simp
  first|done|(with_reducible rfl)
 try simp only[Act.put,km,dL,dH]
 refine wpAnyH_take (i:=5) (v:=?_) rfl (by kernel_rfl) (by kernel_rfl) (by kernel_rfl) (fun _ _ _ h=>h) (Or.inl ⟨by rfl,?_⟩) (by assumption) ?_
 rotate_left
 ·intro w hSw
  try dsimp only at hSw
  go_simp
  first|done|(with_reducible rfl)
 try simp only[Act.put,km,dL,dH]
 refine wpAnyH_ready (rs:=[4,6]) (by kernel_rfl) (by simp) ?_;refine AllReadyH.cons (i:=4) rfl (fun K hK=>?_) ?_
 ·go_simp
  refine hK.out _ _ ?_ (fun hHeld=>?_)
  ·(try dsimp only)
   first|done|go_keep|(refine⟨?_,?_,?_⟩<;>(rw[mQ _ _ _ _ (by simp)];assumption))
  clear hK K
  try simp only[Act.put,km,dL,dH]
  refine wpAnyH_ready (rs:=[6]) (by kernel_rfl) (by simp) ?_;refine AllReadyH.cons (i:=6) rfl (fun K hK=>?_) ?_
  ·go_simp
   refine hK.out _ _ ?_ (fun hHeld=>?_)
   ·(try dsimp only)
    first|done|go_keep|(refine⟨?_,?_,?_⟩<;>(rw[mQ _ _ _ _ (by simp)];assumption))
   clear hK K
   try simp only[Act.put,km,dL,dH]
   refine wpAnyH_ready (rs:=[7]) (by kernel_rfl) (by simp) ?_;refine AllReadyH.cons (i:=7) rfl (fun K hK=>?_) ?_
   ·refine sB (w0:=w1.drew) rfl (.tmp 32) (.tmp 34) 135 rfl base 139 (.agg #[.int .i64 0,.string ⟨#[]⟩,.int .i64 0]) 3 32 we underlying135 rfl (by omega) v _ _ (by rfl) sd.out [.int .i64 (k:Int),.string (s.extract at' (at'+n)),.int .i64 (at':Int)] rfl (by rfl) (by intro u hu;simp at hu;rcases hu with rfl|rfl|rfl<;>rfl) (by unfold maxLen;omega) (by omega) Zz.out ?_;intro v' w' ho hg;obtain⟨ao,n',c',rfl⟩:=wg ho;have ej:=EO oY.out sd.out hg;have tS:=Jm HQ.out HVQ.out hg;have d4:w'.cell? ⟨p,4,none⟩=some v:=(ej.cell 4).trans rfl;have f4:w'.frozen? ⟨p,4,none⟩=false:=ej.frozen 4;have f1:w'.frozen? ⟨p,1,none⟩=false:=ej.frozen 1;have d1:w'.cell? ⟨p,1,none⟩=some (.int .i64 (at':Int)):=(ej.cell 1).trans rfl;have y0:w'.cell? ⟨q,0,none⟩=some (.int .i64 (k:Int)):=(tS.cell 0).trans rfl;have y1:w'.cell? ⟨q,1,none⟩=some (.string (s.extract at' (at'+n))):=(tS.cell 1).trans rfl;have y2:w'.cell? ⟨q,2,none⟩=some (.int .i64 (at':Int)):=(tS.cell 2).trans rfl;have iE:=ae ej;have lD:=ae ho;have HG2:=ae hg;clear ej ho hg tS;refine hK.out _ _ ?_ (fun hHeld=>?_)
    ·(try dsimp only)
     first|done|go_keep|(refine⟨?_,?_,?_⟩<;>(rw[mQ _ _ _ _ (by simp)];assumption))
    clear hK K
    try simp only[Act.put,km,dL,dH]
    refine wpAnyH_take (i:=8) (v:=?_) rfl (by kernel_rfl) (by kernel_rfl) (by kernel_rfl) (fun _ _ _ h=>h) (Or.inl ⟨by rfl,?_⟩) (by assumption) ?_
    rotate_left
    ·intro w hSw
     try dsimp only at hSw
     go_simp
     first|done|(with_reducible rfl)
    try simp only[Act.put,km,dL,dH]
    refine wpAnyH_take (i:=9) (v:=?_) rfl (by kernel_rfl) (by kernel_rfl) (by kernel_rfl) (fun _ _ _ h=>h) (Or.inl ⟨by rfl,?_⟩) (by assumption) ?_
    rotate_left
    ·intro w hSw
     try dsimp only at hSw
     go_simp
     first|done|(with_reducible rfl)
    try simp only[Act.put,km,dL,dH]
    refine wpAnyH_ready (rs:=[10]) (by kernel_rfl) (by simp) ?_;refine AllReadyH.cons (i:=10) rfl (fun K hK=>?_) ?_
    ·go_simp
     refine hK.out _ _ ?_ (fun hHeld=>?_)
     ·(try dsimp only)
      first|done|go_keep|(refine⟨?_,?_,?_⟩<;>(rw[mQ _ _ _ _ (by simp)];assumption))
     clear hK K
     try simp only[Act.put,km,dL,dH]
     refine wpAnyH_done (by kernel_rfl) ?_ _;refine NoPanic.normal ?_;go_wp2_with fail;go_end0;have mh:=(aM.dz (aM.dz iE.out 4 (.slice ao n' c')) 1 (.int .i64 ((at':Int)+(n:Int))));refine⟨rfl,.slice ao n' c',?_,?_,?_⟩
     ·simpa [LZ]using mh
     ·have h:=aG (i:=1) (aG (i:=4) lD.out iE.out (by decide) (.slice ao n' c')) (aM.dz iE.out 4 (.slice ao n' c')) (by decide) (.int .i64 ((at':Int)+(n:Int)));have e:(aO (ts++[⟨k,(s.data.toList.drop at').take n,at'⟩]))=aO ts++[.int .i64 (k:Int),.string (s.extract at' (at'+n)),.int .i64 (at':Int)]:=by
       rw[jH,Tok.cells];have:(⟨((s.data.toList.drop at').take n).toArray⟩:ByteArray)=s.extract at' (at'+n):=by
        rw[←mk_data (s.extract at' (at'+n)),Lib.extract_data,show at'+n-at'=n by omega]
       rw[this]
      rw[e,iF];exact h
     ·have hb:=(cF.out.drew).grown HG2.out Zz.out (fun g hg=>(sd.out.lt g hg).1);exact(hb.setCell (p:=⟨p,4,none⟩) gN _).setCell (p:=⟨p,1,none⟩) gN _
    exact AllReadyH.nil
   exact AllReadyH.nil
  exact AllReadyH.nil
 refine AllReadyH.cons (i:=6) rfl (fun K hK=>?_) ?_
 ·go_simp
  refine hK.out _ _ ?_ (fun hHeld=>?_)
  ·(try dsimp only)
   first|done|go_keep|(refine⟨?_,?_,?_⟩<;>(rw[mQ _ _ _ _ (by simp)];assumption))
  clear hK K
  try simp only[Act.put,km,dL,dH]
  refine wpAnyH_ready (rs:=[4]) (by kernel_rfl) (by simp) ?_;refine AllReadyH.cons (i:=4) rfl (fun K hK=>?_) ?_
  ·go_simp
   refine hK.out _ _ ?_ (fun hHeld=>?_)
   ·(try dsimp only)
    first|done|go_keep|(refine⟨?_,?_,?_⟩<;>(rw[mQ _ _ _ _ (by simp)];assumption))
   clear hK K
   try simp only[Act.put,km,dL,dH]
   refine wpAnyH_ready (rs:=[7]) (by kernel_rfl) (by simp) ?_;refine AllReadyH.cons (i:=7) rfl (fun K hK=>?_) ?_
   ·refine sB (w0:=w1.drew) rfl (.tmp 32) (.tmp 34) 135 rfl base 139 (.agg #[.int .i64 0,.string ⟨#[]⟩,.int .i64 0]) 3 32 we underlying135 rfl (by omega) v _ _ (by rfl) sd.out [.int .i64 (k:Int),.string (s.extract at' (at'+n)),.int .i64 (at':Int)] rfl (by rfl) (by intro u hu;simp at hu;rcases hu with rfl|rfl|rfl<;>rfl) (by unfold maxLen;omega) (by omega) Zz.out ?_;intro v' w' ho hg;obtain⟨ao,n',c',rfl⟩:=wg ho;have ej:=EO oY.out sd.out hg;have tS:=Jm HQ.out HVQ.out hg;have d4:w'.cell? ⟨p,4,none⟩=some v:=(ej.cell 4).trans rfl;have f4:w'.frozen? ⟨p,4,none⟩=false:=ej.frozen 4;have f1:w'.frozen? ⟨p,1,none⟩=false:=ej.frozen 1;have d1:w'.cell? ⟨p,1,none⟩=some (.int .i64 (at':Int)):=(ej.cell 1).trans rfl;have y0:w'.cell? ⟨q,0,none⟩=some (.int .i64 (k:Int)):=(tS.cell 0).trans rfl;have y1:w'.cell? ⟨q,1,none⟩=some (.string (s.extract at' (at'+n))):=(tS.cell 1).trans rfl;have y2:w'.cell? ⟨q,2,none⟩=some (.int .i64 (at':Int)):=(tS.cell 2).trans rfl;have iE:=ae ej;have lD:=ae ho;have HG2:=ae hg;clear ej ho hg tS;refine hK.out _ _ ?_ (fun hHeld=>?_)
    ·(try dsimp only)
     first|done|go_keep|(refine⟨?_,?_,?_⟩<;>(rw[mQ _ _ _ _ (by simp)];assumption))
    clear hK K
    try simp only[Act.put,km,dL,dH]
    refine wpAnyH_take (i:=8) (v:=?_) rfl (by kernel_rfl) (by kernel_rfl) (by kernel_rfl) (fun _ _ _ h=>h) (Or.inl ⟨by rfl,?_⟩) (by assumption) ?_
    rotate_left
    ·intro w hSw
     try dsimp only at hSw
     go_simp
     first|done|(with_reducible rfl)
    try simp only[Act.put,km,dL,dH]
    refine wpAnyH_take (i:=9) (v:=?_) rfl (by kernel_rfl) (by kernel_rfl) (by kernel_rfl) (fun _ _ _ h=>h) (Or.inl ⟨by rfl,?_⟩) (by assumption) ?_
    rotate_left
    ·intro w hSw
     try dsimp only at hSw
     go_simp
     first|done|(with_reducible rfl)
    try simp only[Act.put,km,dL,dH]
    refine wpAnyH_ready (rs:=[10]) (by kernel_rfl) (by simp) ?_;refine AllReadyH.cons (i:=10) rfl (fun K hK=>?_) ?_
    ·go_simp
     refine hK.out _ _ ?_ (fun hHeld=>?_)
     ·(try dsimp only)
      first|done|go_keep|(refine⟨?_,?_,?_⟩<;>(rw[mQ _ _ _ _ (by simp)];assumption))
     clear hK K
     try simp only[Act.put,km,dL,dH]
     refine wpAnyH_done (by kernel_rfl) ?_ _;refine NoPanic.normal ?_;go_wp2_with fail;go_end0;have mh:=(aM.dz (aM.dz iE.out 4 (.slice ao n' c')) 1 (.int .i64 ((at':Int)+(n:Int))));refine⟨rfl,.slice ao n' c',?_,?_,?_⟩
     ·simpa [LZ]using mh
     ·have h:=aG (i:=1) (aG (i:=4) lD.out iE.out (by decide) (.slice ao n' c')) (aM.dz iE.out 4 (.slice ao n' c')) (by decide) (.int .i64 ((at':Int)+(n:Int)));have e:(aO (ts++[⟨k,(s.data.toList.drop at').take n,at'⟩]))=aO ts++[.int .i64 (k:Int),.string (s.extract at' (at'+n)),.int .i64 (at':Int)]:=by
       rw[jH,Tok.cells];have:(⟨((s.data.toList.drop at').take n).toArray⟩:ByteArray)=s.extract at' (at'+n):=by
        rw[←mk_data (s.extract at' (at'+n)),Lib.extract_data,show at'+n-at'=n by omega]
       rw[this]
      rw[e,iF];exact h
     ·have hb:=(cF.out.drew).grown HG2.out Zz.out (fun g hg=>(sd.out.lt g hg).1);exact(hb.setCell (p:=⟨p,4,none⟩) gN _).setCell (p:=⟨p,1,none⟩) gN _
    exact AllReadyH.nil
   exact AllReadyH.nil
  exact AllReadyH.nil
 exact AllReadyH.nil
theorem Ol (a b:Nat) (h:a≤b):10^a≤10^b:=dZ (by decide) h
theorem afT (c a:Nat) (h:c=54+a):(10:Nat)^c=5^54*10^a*2^54:=by
 rw[h,dV,show (10:Nat)^54=5^54*2^54 by rw[←Ba],yn]
theorem aeJ (a b:Nat) (h:b=a+1):10^b=10*10^a:=by rw[h,A7]
theorem OL (a b c:Nat) (h:c=a+b):(10:Nat)^c=10^a*10^b:=by rw[h,dV]
theorem afU (a:Nat):(10:Nat)^a=2^a*5^a:=by rw[←Ba]
theorem abS (J c a b d:Nat) (hd:d=a+b) (hJ:J≤b):10^a*2^J ∣ c*10^d:=by
 have e2:2^J ∣ 10^b:=by
  rw[afU];exact Nat.dvd_trans (Nat.pow_dvd_pow 2 hJ) (Nat.dvd_mul_right _ _)
 rw[OL a b d hd];exact Nat.dvd_trans (Nat.mul_dvd_mul_left _ e2) (Nat.dvd_mul_left _ _)
theorem abT (a:Nat):0<10^a:=eZ (by decide)
theorem abU {a c:Nat} (h:10^a≤V) (h2:c≤J):10^a*c≤V*J:=ov h h2
theorem afV (k a b c:Nat) (h:a+b=c):k*2^a*2^b=k*2^c:=by rw[←h,dV,cg]
def dn (D:Nat→Nat):Nat→Nat
 |0=>0
 |r+1=>dn D r*10+(D r-48)
theorem TQ (D:Nat→Nat) (nd:Nat): ∀r,r≤nd→pre D nd r=dn D r
 |0,_=>rfl
 |r+1,h=>by rw[pre,dn,TQ D nd r (by omega),sa,az (by omega)]
theorem Ck (D:Nat→Nat): ∀(m i:Nat),eE D m≤i→i<m→D i=48
 |0,i,_,h=>by omega
 |m+1,i,h1,h2=>by
  unfold eE at h1;split at h1
  ·rename_i he;by_cases e:i=m
   ·subst e;exact he
   ·exact Ck D m i h1 (by omega)
  ·omega
theorem BF (D:Nat→Nat) (m:Nat): ∀r,r≤m→pre D (eE D m) r=dn D r
 |0,_=>rfl
 |r+1,h=>by
  rw[pre,dn,BF D m r (by omega),sa];split
  ·rfl
  ·rename_i hr;rw[Ck D m r (by omega) (by omega)]
theorem wM (D:Nat→Nat) (m:Nat):pre D (eE D m) (eE D m)*10^(m-eE D m)=dn D m:=by
 have h:=mF D m;have e:=gX D (eE D m) (m-eE D m);rw[←e,show eE D m+(m-eE D m)=m by omega,BF D m m (aS _)]
theorem Jn {D E:Nat→Nat}: ∀r,(∀i,i<r→D i=E i)→dn D r=dn E r
 |0,_=>rfl
 |r+1,h=>by rw[dn,dn,Jn r fun i hi=>h i (by omega),h r (by omega)]
theorem ι {D:Nat→Nat} {nd k r0 W:Nat} (h:js D nd) (hr:1≤r0) (hf:pre D nd (r0-1)<2^k): ∀j,j≤W→j≤800→dn (sb D nd k r0 W) j=pre D nd (r0-1+j)/2^k
 |0,_,_=>by rw[dn,iz,tp hf]
 |j+1,h1,h2=>by
  have ih:=ι (W:=W) h hr hf j (by omega) (by omega);have hd:=pC h (r0-1+j);have hD:sb D nd k r0 W j=48+pre D nd (r0+j)/2^k%10:=by
   rw[sb,az ⟨by omega,by omega⟩,iY]
  have he:pre D nd (r0+j)=pre D nd (r0-1+j)*10+sa D nd (r0-1+j):=by
   rw[show r0+j=(r0-1+j)+1 by omega,pre]
  have hq:pre D nd (r0+j)/2^k/10=pre D nd (r0-1+j)/2^k:=by
   rw[D8,fx,←D8,he]
   congr 1
   omega
  rw[dn,ih,hD,←hq,show r0-1+(j+1)=r0+j by omega];generalize pre D nd (r0+j)/2^k=Q;omega
theorem UL (D:Nat→Nat) (nd:Nat) {a:Nat} (h:nd≤a) (m:Nat):pre D nd (a+m)=pre D nd a*10^m:=by
 rw[show a+m=nd+(a-nd+m)by omega,gX,dV,←cg,←gX,show nd+(a-nd)=a by omega]
theorem abV {S:cM} (h:S.Ok) {k:Nat} (h1:1≤k) (h2:k≤60):
  pre (S.rs k).D (S.rs k).nd (S.rs k).nd*10^(800-(S.rs k).nd)=pre S.D S.nd (AF S.D S.nd k+799)/2^k:=by
 obtain⟨f1,f2,f3,f4⟩:=oD h.gK h.pos (k:=k) h2;obtain⟨R,hR⟩: ∃R,R=AF S.D S.nd k:=⟨_,rfl⟩;obtain⟨W,hW⟩: ∃W,W=rsW S.D S.nd k R:=⟨_,rfl⟩;rw[←hR]at f1 f2 f3 f4 ⊢
 have hK:0<2^k:=eZ (by omega);have eD:(S.rs k).D=sb S.D S.nd k R W:=by show xk S.D S.nd k=_;rw[xk,←hR,←hW]
 have eN:(S.rs k).nd=eE (sb S.D S.nd k R W) (min W 800):=by show Ds S.D S.nd k=_;rw[Ds,xk,Bd,←hR,←hW]
 have hex: ∃m,S.nd-R≤m∧m<(S.nd-R)+(2000-(S.nd-R))∧mB S.D S.nd k R m=true:=by
  refine⟨S.nd+k+1,by omega,by have:=h.le;omega,?_⟩;rw[mB,zK,show R+(S.nd+k+1)=S.nd+(k+1+R)by omega,gX];have e:(10:Nat)^(k+1+R)=(10*2^k)*(5^k*10^R):=by
   rw[dV,ep,show (10:Nat)^k=2^k*5^k by rw[←Ba]];simp only[cg,fx,qh]
  rw[e,←cg,fx (pre S.D S.nd S.nd),cg];exact Nat.mul_mod_right _ _
 obtain⟨s1,s2,_⟩:=sx (p:=mB S.D S.nd k R) _ _ hex;have ab4:pre S.D S.nd (R+W)%(10*2^k)=0:=by
  have:mB S.D S.nd k R W=true:=by rw[hW];exact s1
  exact mR this
 have hWn:S.nd-R≤W:=by rw[hW];exact s2
 have hf:pre S.D S.nd (R-1)<2^k:=f2 (R-1) (by omega);have hdn:=ι (W:=W) h.gK f3 hf (min W 800) (Nat.min_le_left _ _) (Nat.min_le_right _ _);have ht:=wM (sb S.D S.nd k R W) (min W 800);have ZA:=mF (sb S.D S.nd k R W) (min W 800);rw[eD,eN];generalize eE (sb S.D S.nd k R W) (min W 800)=t at ht ZA ⊢
 have abW:(10:Nat)^(800-t)=10^(min W 800-t)*10^(800-min W 800):=by rw[←dV];congr 1;omega
 rw[abW,←cg,ht,hdn];rcases dE W 800 with aA|lW
 ·rw[mS (by omega)];obtain⟨c,hc⟩: ∃c,pre S.D S.nd (R+W)=10*2^k*c:=⟨_,(Nat.mul_div_cancel' (Nat.dvd_of_mod_eq_zero ab4)).symm⟩;have hd:=pC h.gK (R-1+W);have he:pre S.D S.nd (R+W)=pre S.D S.nd (R-1+W)*10+sa S.D S.nd (R-1+W):=by
   rw[show R+W=(R-1+W)+1 by omega,pre]
  have jK:pre S.D S.nd (R-1+W)/2^k=c:=by
   have:pre S.D S.nd (R-1+W)=pre S.D S.nd (R+W)/10:=by omega
   rw[this,hc,cg,Nat.mul_div_cancel_left _ (by omega),Nat.mul_div_cancel_left _ hK]
  rw[jK,show R+799=(R+W)+(799-W)by omega,UL S.D S.nd (by omega),hc,show 800-W=(799-W)+1 by omega,ep];rw[show 10*2^k*c*10^(799-W)=2^k*(c*(10^(799-W)*10))by simp only[cg,fx,qh],Nat.mul_div_cancel_left _ hK]
 ·rw[qi lW,Nat.sub_self,o9,oj,show R-1+800=R+799 by omega]
def vF (S:cM):Nat:=pre S.D S.nd S.nd*10^(800+S.dp.toNat-S.nd)
theorem afW {S:cM} (h:S.Ok) {k:Nat} (h1:1≤k) (h2:k≤60) (hd:0≤(S.rs k).dp) {T:Nat} (hT:10^(S.rs k).dp.toNat ∣ T):T≤vF (S.rs k)↔T*2^k≤vF S:=by
 obtain⟨ok,tV,_⟩:=cM.vH h (k:=k) h1 h2;obtain⟨f1,f2,f3,f4⟩:=oD h.gK h.pos (k:=k) h2;have hn:=abV h (k:=k) h1 h2;have hle:=h.le;have ar0:=ok.le;obtain⟨R,hR⟩: ∃R,R=AF S.D S.nd k:=⟨_,rfl⟩;rw[←hR]at tV hn f3 f4;have hK:0<2^k:=eZ (by omega);have e1:vF (S.rs k)=pre S.D S.nd (R+799)/2^k*10^(S.rs k).dp.toNat:=by
  rw[vF,←hn,cg,←dV]
  congr 2
  omega
 have e2:vF S=pre S.D S.nd (R+799)*10^(S.rs k).dp.toNat:=by
  rw[vF,show R+799=S.nd+(R+799-S.nd)by omega,gX,cg,←dV]
  congr 2
  omega
 obtain⟨τ,rfl⟩:=hT;have hP:0<10^(S.rs k).dp.toNat:=eZ (by omega);rw[e1,e2,fx _ τ];generalize 10^(S.rs k).dp.toNat=P at hP ⊢
 generalize pre S.D S.nd (R+799)=X;rw[yn];constructor
 ·intro hh;have:=Th hh hP;exact fg _ ((Ea hK).1 this)
 ·intro hh;have:=Th hh hP;exact fg _ ((Ea hK).2 this)
theorem Tm {D:Nat→Nat} {M L:Nat} (hM:M<10^L): ∀j,j≤L→j≤800→dn (tg D M L L) j=M/10^(L-j)
 |0,_,_=>by rw[dn,Nat.sub_zero,tp hM]
 |j+1,h1,h2=>by
  have ih:=Tm (D:=D) hM j (by omega) (by omega);have hD:tg D M L L j=48+M/10^(L-1-j)%10:=by rw[tg,az ⟨by omega,by omega,by omega⟩]
  have hq:M/10^(L-(j+1))/10=M/10^(L-j):=by
   rw[D8,←ep]
   congr 2
   omega
  rw[dn,ih,hD,←hq,show L-1-j=L-(j+1)by omega];generalize M/10^(L-(j+1))=Q;omega
theorem abX {S:cM} (h:S.Ok) {k:Nat} (h1:1≤k) (h2:k≤60) (r:Nat) (hr:r≤tf S.D S.nd k) (h8:r≤800):pre (S.ls k).D (S.ls k).nd r=KX S.D S.nd k/10^(tf S.D S.nd k-r):=by
 have hb:=jY h.gK h.pos h1 h2;show pre (po S.D S.nd k) (xm S.D S.nd k) r=_;rw[xm,BF _ _ r (by omega),po,Tm hb.2.1 r hr h8]
theorem UM (h:1≤n):2^gC n≤10^n:=by
 unfold gC;by_cases h9:9≤n
 ·rw[az h9];exact bR (by decide:(2:Nat)^27≤10^9) (dZ (by omega) h9)
 ·rw[ah h9];have: ∀m,m<9→1≤m→2^([1,3,6,9,13,16,19,23,26].getD m 0)≤10^m:=by decide
  exact this n (by omega) h
theorem abY {S:cM} (h:S.Ok) (hd:0<S.dp):0≤(S.rs (gC S.dp.toNat)).dp∧(S.rs (gC S.dp.toNat)).dp≤S.dp:=by
 obtain⟨k,hk⟩: ∃k,k=gC S.dp.toNat:=⟨_,rfl⟩;have hb:=je S.dp.toNat;have ht:=UM (n:=S.dp.toNat) (by omega);rw[←hk]at hb ht ⊢
 obtain⟨_,tV,_⟩:=cM.vH h (k:=k) hb.1 (by omega);obtain⟨f1,f2,f3,f4⟩:=oD h.gK h.pos (k:=k) (by omega);have hR:AF S.D S.nd k≤S.dp.toNat+1:=by
  rcases dE (S.dp.toNat+1) (AF S.D S.nd k)with aA|lW
  ·have:=f2 _ aA;have h2:=lN h.gK h.pos S.dp.toNat;omega
  ·exact lW
 omega
theorem Jo : ∀ (f : Nat) (S : cM) (e : Int), S.Ok → 0 ≤ S.dp → S.dp ≤ 310 → Zy S ≤ f →
    ∃K:Nat,(tU f S e).2=e+K∧(tU f S e).1.Ok∧(tU f S e).1.dp=0∧ ∀T,10^310 ∣ T→(T≤vF (tU f S e).1↔T*2^K≤vF S)
  | 0, S, e, ok, h0, h1, hm => by
    have:S.dp=0:=by unfold Zy at hm;omega
    exact⟨0,by simp[tU],ok,this,fun T _=>by simp[tU]⟩
  | f + 1, S, e, ok, h0, h1, hm => by
    by_cases hd:0<S.dp
    · have hs := Jf ok hd
      obtain⟨d1,d2⟩:=abY ok hd
      have hb:=je S.dp.toNat
      rw[Je hd]
      obtain⟨k,hk⟩: ∃k,k=gC S.dp.toNat:=⟨_,rfl⟩
      rw[←hk]at hs d1 d2 hb ⊢
      have ok1:=(cM.vH ok (k:=k) hb.1 (by omega)).1
      obtain⟨K,a,b,c,d⟩:=Jo f (S.rs k) (e+k) ok1 d1 (by omega) (by omega)
      refine⟨k+K,by rw[a];omega,b,c,fun T hT=>?_⟩
      rw[d T hT,afW ok hb.1 (by omega) d1,cg,←dV,A8 K k]
      exact Nat.dvd_trans (Nat.pow_dvd_pow 10 (by omega)) (Nat.dvd_trans hT (Nat.dvd_mul_right _ _))
    · rw [Gh hd]
      exact⟨0,by simp,ok,by show S.dp=0;omega,fun T _=>by simp⟩
theorem OM {S:cM} (h:S.Ok):(S.D 0-48)*10^(S.nd-1)≤pre S.D S.nd S.nd∧pre S.D S.nd S.nd<(S.D 0-48+1)*10^(S.nd-1):=by
 have re:pre S.D S.nd S.nd/10^(S.nd-1)=S.D 0-48:=by
  have:=Ar h.gK 1 (S.nd-1);rw[show 1+(S.nd-1)=S.nd by have:=h.pos;omega]at this;rw[this];simp[pre,sa,h.pos]
 have hT:0<10^(S.nd-1):=eZ (by omega);constructor
 ·rw[←re];exact Iu _ _
 ·rw[←re];exact(zJ hT).1 (vu _)
theorem abZ {S:cM} (h:S.Ok) (hd:S.dp=0) (h5:S.D 0<53):(S.ls 1).dp=0∧vF (S.ls 1)=vF S*2:=by
 have hb:=jY h.gK h.pos (k:=1) (by omega) (by omega);obtain⟨ok,tV,_⟩:=cM.yF h (k:=1) (by omega) (by omega);have hl:=OM h;have hp:=h.pos;have hle:=h.le;have hM:KX S.D S.nd 1=pre S.D S.nd S.nd*2:=rfl;have hnT:10^S.nd=10*10^(S.nd-1):=by rw[←A7];congr 1;omega
 have aA:pre S.D S.nd S.nd*2<10^S.nd:=by
  have:(S.D 0-48+1)*10^(S.nd-1)≤5*10^(S.nd-1):=fg _ (by omega);omega
 have hL:tf S.D S.nd 1=S.nd:=by
  rcases dE S.nd (tf S.D S.nd 1)with hh|hh
  ·have Hg:10^S.nd≤10^(tf S.D S.nd 1-1):=dZ (by omega) (by omega);omega
  ·omega
 have zD:(S.ls 1).dp=0:=by rw[tV,hL];omega
 refine⟨zD,?_⟩;have ht:=wM (po S.D S.nd 1) (min (tf S.D S.nd 1) 800);have ZA:=mF (po S.D S.nd 1) (min (tf S.D S.nd 1) 800);have hdn:=Tm (D:=S.D) hb.2.1 (tf S.D S.nd 1) (aS _) (by omega);have e:dn (po S.D S.nd 1) (tf S.D S.nd 1)=KX S.D S.nd 1:=by
  rw[po,hdn,Nat.sub_self,o9,Nat.div_one]
 rw[hL,mS hle]at ht ZA;rw[hL]at e;rw[e,hM]at ht;have qM:(S.ls 1).nd=eE (po S.D S.nd 1) S.nd:=by show xm S.D S.nd 1=_;rw[xm,hL,mS hle]
 have hD:(S.ls 1).D=po S.D S.nd 1:=rfl;rw[vF,vF,zD,hd,qM,hD];generalize eE (po S.D S.nd 1) S.nd=t at ht ZA ⊢
 rw[show 800+(0:Int).toNat-t=(S.nd-t)+(800+(0:Int).toNat-S.nd)by simp;omega,dV,←cg,ht];rw[yn]
theorem EP : ∀ (f : Nat) (S : cM) (e : Int), S.Ok → S.dp = 0 → Si S ≤ f →
    ∃J:Nat,(zB f S e).2=e-J∧(zB f S e).1.Ok∧(zB f S e).1.dp=0∧53≤(zB f S e).1.D 0∧vF (zB f S e).1=vF S*2^J
  | 0, S, e, ok, h0, hm => by
    have:53≤S.D 0:=by unfold Si at hm;rw[ah (by omega)]at hm;omega
    exact⟨0,by simp[zB],ok,h0,this,by simp[zB]⟩
  | f + 1, S, e, ok, h0, hm => by
    by_cases hl:yG S
    · have h5 : S.D 0 < 53 := by rcases hl with hl | ⟨_, hl⟩; omega; exact hl
      have hs:=Jg ok hl
      have hk:gC (-S.dp).toNat=1:=by rw[h0];rfl
      rw[hk]at hs
      rw[By hl,hk]
      obtain⟨d1,d2⟩:=abZ ok h0 h5
      have ok1:=(cM.yF ok (k:=1) (by omega) (by omega)).1
      obtain⟨J,a,b,c,d,g⟩:=EP f (S.ls 1) (e-((1:Nat):Int)) ok1 d1 (by omega)
      refine⟨J+1,by rw[a];omega,b,c,d,?_⟩
      rw[g,d2,ep,cg,fx 2]
    · rw [Gi hl]
      have h5 : 53 ≤ S.D 0 := by
        rcases dE (S.D 0) 53 with h|h
        · exact absurd (.inr ⟨h0, h⟩) hl
        · exact h
      exact⟨0,by simp,ok,h0,h5,by simp⟩
theorem Yx {S:cM} (h:S.Ok) (hd:S.dp=0) (h5:53≤S.D 0):FB (S.ls 53)=9007199254740992↔(2^54-1)*5^54*10^746≤vF S:=by
 have hb:=jY h.gK h.pos (k:=53) (by omega) (by omega);obtain⟨ok,tV,_⟩:=cM.yF h (k:=53) (by omega) (by omega);have hp:=h.pos;have hle:=h.le;have aA:=xx h.gK S.nd;obtain⟨N,hN⟩: ∃N,N=pre S.D S.nd S.nd:=⟨_,rfl⟩;obtain⟨L,hL⟩: ∃L,L=tf S.D S.nd 53:=⟨_,rfl⟩;have hM:KX S.D S.nd 53=N*2^53:=by rw[KX,hN]
 have Ii:=abX h (k:=53) (by omega) (by omega);rw[←hL]at tV hb Ii;rw[hM]at hb Ii;rw[←hN]at aA;obtain⟨p,hpL⟩: ∃p,L=S.nd+p:=⟨L-S.nd,by omega⟩;have aeK:(S.ls 53).dp=(p:Int):=by rw[tV,hd,hpL];omega
 have ar1:p≤16:=by
  rcases dE 16 p with hh|hh
  ·exfalso;have h1:10^(S.nd+16)≤10^(L-1):=dZ (by omega) (by omega);have h2:N*2^53<10^S.nd*10^16:=by
    have:N*2^53<10^S.nd*2^53:=qB aA (by decide);exact iv this (tZ _ (by decide))
   rw[dV]at h1;omega
  ·exact hh
 have hA:0<10^S.nd:=eZ (by omega);have e0:pre (S.ls 53).D (S.ls 53).nd p=N*2^53/10^S.nd:=by
  rw[Ii p (by omega) (by omega),show L-p=S.nd by omega]
 have e1:pre (S.ls 53).D (S.ls 53).nd (p+1)=N*2^53*10/10^S.nd:=by
  rw[Ii (p+1) (by omega) (by omega),show L-(p+1)=S.nd-1 by omega];have:10^S.nd=10^(S.nd-1)*10:=by rw[←ep];congr 1;omega
  rw[this,Nat.mul_div_mul_right _ _ (by omega)]
 have hq:N*2^53/10^S.nd≤9007199254740991:=by
  have:N*2^53/10^S.nd<2^53:=by
   rw[zJ hA,fx (2^53)];exact qB aA (by decide)
  have e:(2:Nat)^53=9007199254740992:=by decide
  omega
 obtain⟨q,hqq⟩: ∃q,q=N*2^53/10^S.nd:=⟨_,rfl⟩;obtain⟨r,hr⟩: ∃r,r=sa (S.ls 53).D (S.ls 53).nd p:=⟨_,rfl⟩;have er:pre (S.ls 53).D (S.ls 53).nd (p+1)=q*10+r:=by rw[pre,e0,hqq,hr]
 have hr9:r≤9:=by rw[hr];exact pC ok.gK p
 rw[←hqq]at e0 hq;have hri:lH (S.ls 53) p=q:=by rw[lH,e0,s5 (by omega)]
 have ajL:q=9007199254740991→(Xf (S.ls 53) (S.ls 53).dp=true↔5≤r):=by
  intro hqe;have hp1:1≤p:=by
   rcases jL p with h0|h0
   ·rw[h0]at e0;simp only[pre]at e0;omega
   ·exact h0
  rw[aeK];unfold Xf;by_cases hn:(S.ls 53).nd≤p
  ·rw[az (.inr (by omega))];have:r=0:=by rw[hr,sa,ah (by omega)]
   simp[this]
  ·rw[ah (by omega),mn];have hrD:r=(S.ls 53).D p-48:=by rw[hr,sa,az (by omega)]
   have hDr:=ok.gK.1 p (by omega);unfold Be;split
   ·rename_i hc;have XQ:En (S.ls 53).D p=true:=by
     have hpp:pre (S.ls 53).D (S.ls 53).nd p=pre (S.ls 53).D (S.ls 53).nd (p-1)*10+((S.ls 53).D (p-1)-48):=by
      have e:p=(p-1)+1:=by omega
      conv=>lhs;rw[e]
      rw[pre,sa,az (by omega)]
     have hD1:=ok.gK.1 (p-1) (by omega);unfold En;rw[dO (by omega:0<p),mx,zK];omega
    rw[XQ,vz];simp only[true_iff];omega
   ·rw[zK];omega
 have lq:FB (S.ls 53)=9007199254740992↔q=9007199254740991∧5≤r:=by
  have Xg:(S.ls 53).dp.toNat=p:=by rw[aeK];rfl
  unfold FB;rw[ah (by omega),Xg,hri];by_cases D4:q=9007199254740991
  ·have hs:=ajL D4;by_cases uP:Xf (S.ls 53) (S.ls 53).dp=true
   ·rw[az uP];have:=hs.1 uP;omega
   ·rw[ah uP];have: ¬5≤r:=fun h=>uP (hs.2 h)
    omega
  ·constructor
   ·intro hh;split at hh<;>omega
   ·rintro⟨h1,_⟩;exact absurd h1 D4
 have Pr:(q=9007199254740991∧5≤r)↔90071992547409915≤q*10+r:=by omega
 rw[lq,Pr,←er,e1,Ea hA];have hF:vF S*2^54=N*2^54*10^(800-S.nd):=by
  rw[vF,←hN,hd,show 800+(0:Int).toNat-S.nd=800-S.nd by simp,yn]
 have hT:(2^54-1)*5^54*10^746*2^54=(2^54-1)*10^S.nd*10^(800-S.nd):=by
  have e8:(10:Nat)^S.nd*10^(800-S.nd)=10^800:=by rw[←dV];congr 1;omega
  rw[cg (2^54-1) (10^S.nd),e8];have e9:(10:Nat)^800=5^54*10^746*2^54:=afT 800 746 rfl;rw[e9];simp only[cg]
 have hP:0<10^(800-S.nd):=eZ (by omega);have step:(2^54-1)*5^54*10^746≤vF S↔(2^54-1)*10^S.nd≤N*2^54:=by
  rw[←yk (show 0<2^54 by decide),hT,hF,yk hP]
 rw[step];have c1:(2:Nat)^54-1=18014398509481983:=by decide
 have c2:(2:Nat)^54=18014398509481984:=by decide
 have c3:(2:Nat)^53=9007199254740992:=by decide
 rw[c1,c2,c3];generalize 10^S.nd=A;omega
theorem iq {P:UInt8→Prop} (h: ∀n:Fin 256,P (UInt8.ofNat n.val)) (c:UInt8):P c:=by
 have hc:UInt8.ofNat c.toNat=c:=by simp
 have:=h ⟨c.toNat,uc c⟩;simp only[hc]at this;exact this
theorem wN {p:UInt8→Bool}: ∀{l:List UInt8} {i:Nat},i<(l.takeWhile p).length→p (au l i)=true
 |[],i,h=>by simp at h
 |c::r,i,h=>by
  rw[qN]at h;split at h
  ·rename_i hc;cases i with
   |zero=>exact hc
   |succ k=>exact wN (l:=r) (i:=k) (by simpa using h)
  ·simp at h
theorem tJ {p:UInt8→Bool}: ∀{l:List UInt8} {n:Nat},n≤l.length→(∀i,i<n→p (au l i)=true)→(n<l.length→p (au l n)=false)→(l.takeWhile p).length=n
 |[],n,h,_,_=>by simp at h;simp[h]
 |c::r,0,_,_,h=>by
  have:=h (by simp);rw[qN,ah (by have h2:p c=false:=this;rw[h2];simp)];rfl
 |c::r,n+1,h,h1,h2=>by
  have hc:p c=true:=h1 0 (by omega);rw[qN,az hc,ek];have:=tJ (p:=p) (l:=r) (n:=n) (by simpa using h) (fun i hi=>h1 (i+1) (by omega)) (fun hn=>h2 (by simpa using hn));omega
theorem Qu (l:List UInt8) (i k:Nat):au (l.drop i) k=au l (i+k):=by
 simp[au,lf]
theorem mO {p:UInt8→Bool} (h1:i≤k) (h2:k<ag p l i):p (au l k)=true:=by
 unfold ag at h2;have:=wN (p:=p) (l:=l.drop i) (i:=k-i) (by omega)
 rwa [Qu,show i+(k-i)=k by omega]at this
theorem pP (h:digit c=true∨c.toNat=46):tc c=false:=by
 have hc:(48≤c.toNat∧c.toNat≤57)∨c.toNat=46:=h.imp aJ id;unfold tc;rw[show (c.toNat==101)=false from bN.2 (by omega),show (c.toNat==69)=false from bN.2 (by omega)];rfl
theorem UN (hd:aK l≠0):lu l (aK l)∧ ∃i0,i0<aK l∧digit (au l i0)=true:=by
 have hle:=lZ l;have h0:=bK digit l 0 (aV _);obtain⟨k,hk⟩: ∃k,ag digit l 0=k:=⟨_,rfl⟩;have oo: ∀i,i<k→digit (au l i)=true:=fun i hi=>mO (aV _) (by rw[hk];exact hi)
 have ti: ∀j,digit (au l j)=true→(au l j).toNat≠46:=fun j hj=>by have:=aJ hj;omega
 unfold aK at hd hle ⊢
 rw[hk]at hd hle ⊢
 split
 ·rename_i hc;rw[az hc]at hle;refine⟨⟨hle,fun i hi=>?_⟩,0,by have:=aW digit l (k+1);omega,oo 0 hc.2.2⟩;rcases Ed i k with h|h|h
  ·exact .inl (oo i h)
  ·subst h;exact .inr ⟨hc.2.1,fun j hj=>ti j (oo j hj)⟩
  ·exact .inl (mO (by omega) hi)
 ·rename_i hc;rw[ah hc]at hd hle;split
  ·rename_i ko;rw[az ko]at hle;have h1:1<ag digit l 1:=by
    rcases dE 1 (ag digit l 1)with h|h
    ·exact h
    ·have hl:1<l.length:=ko.2.1;have e:ag digit l 2=ag digit l 1:=iu hl (by
      have:l[1]=au l 1:=by rw[au,lf,lJ hl];rfl
      rw[this];exact ko.2.2.2)
     have:=aW digit l 2;omega
   refine⟨⟨hle,fun i hi=>?_⟩,1,h1,ko.2.2.2⟩;rcases jL i with h|h
   ·subst h;exact .inr ⟨ko.2.2.1,fun j hj=>by omega⟩
   ·exact .inl (mO h hi)
  ·rename_i ko;rw[ah ko]at hd hle;exact⟨⟨hle,fun i hi=>.inl (oo i hi)⟩,0,by omega,oo 0 (by omega)⟩
theorem me (h0:an l=l.length) (bW:l≠[]) (hh:aR l=false):
  lu l (bL l)∧(∃i0,i0<bL l∧digit (au l i0)=true)∧(bL l=l.length∨bL l<l.length∧IQ l (bL l) (pq l) (xn l)):=by
 have pc:0<l.length:=Ec.2 bW;unfold an at h0;rw[ah (by rw[hh];simp)]at h0;have hd:aK l≠0:=by
  intro h;rw[az h]at h0;omega
 rw[ah hd]at h0;obtain⟨hm,i0,s9,qK⟩:=UN hd;have hle:=lZ l;have key:aK l=l.length∨aK l<l.length∧tc (au l (aK l))=true∧dG l (aK l)<l.length∧ag digit l (dG l (aK l))=l.length:=by
  unfold cU at h0;split at h0
  ·rename_i hc;exact .inl h0
  ·rename_i hc;rw[not_or]at hc;split at h0
   ·rename_i ko;exact .inr ⟨by omega,by simpa using hc.2,by omega,h0⟩
   ·exact .inl h0
 have ZB:bL l=aK l:=by
  refine tJ hle (fun i hi=>?_) (fun aA=>?_)
  ·have:=pP ((hm.2 i hi).imp id And.left);rw[this];rfl
  ·rcases key with h|h
   ·omega
   ·rw[h.2.1];rfl
 rw[ZB];refine⟨hm,⟨i0,s9,qK⟩,?_⟩;rcases key with h|⟨h1,h2,h3,h4⟩
 ·exact .inl h
 ·refine .inr ⟨h1,?_⟩;have Sk: ∀i,dG l (aK l)≤i→i<l.length→digit (au l i)=true:=fun i a b=>mO a (by rw[h4];exact b)
  have hx:pq l=dG l (aK l)∧((dG l (aK l)=aK l+1∧xn l=false∧digit (au l (dG l (aK l)))=true)∨(dG l (aK l)=aK l+2∧xn l=false∧(au l (aK l+1)).toNat=43)∨(dG l (aK l)=aK l+2∧xn l=true∧(au l (aK l+1)).toNat=45)):=by
   unfold dG at h3 Sk ⊢
   unfold pq xn;rw[ZB];by_cases ZC:aK l+1<l.length∧zM (au l (aK l+1))=true
   ·rw[az ZC]at h3 Sk ⊢
    have hp:(au l (aK l+1)).toNat=43∨(au l (aK l+1)).toNat=45:=by simpa [zM]using ZC.2
    rw[az hp];refine⟨rfl,?_⟩;rcases hp with hp|hp
    ·exact .inr (.inl ⟨rfl,by rw[hp];rfl,hp⟩)
    ·exact .inr (.inr ⟨rfl,by rw[hp];rfl,hp⟩)
   ·rw[ah ZC]at h3 Sk ⊢
    have qw:=Sk (aK l+1) (aS _) h3;have hf:=aJ qw;rw[ah (by omega)];exact⟨rfl,.inl ⟨rfl,bN.2 (by omega),qw⟩⟩
  rw[hx.1];exact⟨h1,h2,hx.2,h3,Sk⟩
theorem sC (h0:an l=l.length) (hh:aR l=true):2<l.length∧(au l 0).toNat=48∧tT (au l 1)=true∧Eo l l.length:=by
 unfold an at h0;rw[az hh]at h0;have h:=hh;simp[aR]at h;refine⟨h.1.1.1,h.1.1.2,h.1.2,aS _,fun i h1 h2=>mO h1 (by rw[h0];exact h2)⟩
theorem Au (h0:an l=l.length) (bW:l≠[]) (hh:aR l=false) (h1:1<l.length):tT (au l 1)=false∧((au l 1).toNat|||32)≠120:=by
 obtain⟨hm,⟨i0,s9,_⟩,he⟩:=me h0 bW hh;have:digit (au l 1)=true∨(au l 1).toNat=46∨(au l 1).toNat=101∨(au l 1).toNat=69:=by
  rcases dE 1 (bL l)with h|h
  ·rcases hm.2 1 h with a|a
   ·exact .inl a
   ·exact .inr (.inl a.1)
  ·have tW:bL l=1:=by omega
   rcases he with he|⟨_,he⟩
   ·omega
   ·have:=he.tc;rw[tW]at this;simp[tc]at this;exact .inr (.inr this)
 have fH: ∀c:UInt8,(digit c=true∨c.toNat=46∨c.toNat=101∨c.toNat=69)→tT c=false∧(c.toNat|||32)≠120:=iq (by decide+kernel);exact fH _ this
theorem ON (h:tT c=true):(c.toNat|||32)=120:=by
 have fH: ∀c:UInt8,tT c=true→(c.toNat|||32)=120:=iq (by decide+kernel);exact fH _ h
