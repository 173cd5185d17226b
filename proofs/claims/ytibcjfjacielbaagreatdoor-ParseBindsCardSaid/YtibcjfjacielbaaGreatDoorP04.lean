import Derived.Laws.FloatArith
import Derived.Test.YtibcjfjacielbaaGreatDoorP03
import Derived.Test.YtibcjfjacielbaaGreatDoorP02
/- Part of the proof of YtibcjfjacielbaaGreatDoorCardP: PlO PlQ PlR PlS PlT PlU PlUa PlN PlV PlW PlP PlX PlF PlG PlH. -/
set_option maxRecDepth 100000
set_option maxHeartbeats 4000000
set_option linter.unusedVariables false
set_option linter.unusedSimpArgs false
namespace Go.Proofs.YtibcjfjacielbaaGreatDoor
open Go.RowKit
def p10F:List Nat:=[4607182418800017408,4621819117588971520,4636737291354636288,4652007308841189376,4666723172467343360,4681608360884174848,4696837146684686336,4711630319722168320,4726483295884279808,4741671816366391296,4756540486875873280,4771362005757984768,4786511204640096256,4801453603149578240,4816244402031689728,4831355200913801216,4846369599423283200,4861130398305394688,4876203697187506176,4891288408196988160,4906019910204099648,4921056587992461136,4936209963552724370]
def infW:Nat:=9218868437227405312
def posW (y:Nat):Bool:=match Ieee.double.read y with| .number false m _=>m != 0|_=>false
theorem posW_iff {y:Nat} (h:posW y=true): ∃m e,Ieee.double.read y= .number false m e∧m≠0:=by
 unfold posW at h;split at h
 ·rename_i m e he;exact⟨m,e,he,by simpa using h⟩
 ·cases h
theorem p10F_pos: ∀y∈p10F,posW y=true:=by decide+kernel
theorem read_le {x:Nat} (h:x≤infW):(∃m e,Ieee.double.read x= .number false m e)∨Ieee.double.read x= .infinity false:=by
 have h0:x<9223372036854775808:=Nat.lt_of_le_of_lt h (by decide);have hs:Ieee.double.signWeight=9223372036854775808:=by decide+kernel
 have hi:Ieee.double.infRung=infW:=by decide+kernel
 have e1:x/9223372036854775808=0:=Nat.div_eq_of_lt h0;have e2:x%9223372036854775808=x:=Nat.mod_eq_of_lt h0;unfold Ieee.Format.read;rw[hs,hi,e1,e2];simp only[Nat.zero_mod];split
 ·exact .inl ⟨_,_,rfl⟩
 ·split
  ·exact .inl ⟨_,_,rfl⟩
  ·rename_i h1 h2;have:x=infW:=by omega
   rw[if_pos this];exact .inr rfl
theorem nearest_le (m:Nat) (e:Int):Ieee.double.nearest false m e≤infW:=by
 have hi:Ieee.double.infRung=infW:=by decide+kernel
 unfold Ieee.Format.nearest;split
 ·simp[Ieee.Format.word]
 ·simp only[Ieee.Format.word,Bool.false_eq_true,if_false,hi];exact Nat.min_le_right _ _
theorem write_inf:Ieee.double.write (.infinity false)≤infW:=by decide+kernel
theorem mul_ok {x y:Nat} (hx:x≤infW) (hy:posW y=true): ∃r,floatBits .mul .f64 x y=some r∧r≤infW:=by
 obtain⟨n,j,hr,hn⟩:=posW_iff hy;have hdef:floatBits .mul .f64 x y=((Ieee.double.read x).product (Ieee.double.read y)).map Ieee.double.write:=rfl;rw[hdef,hr];rcases read_le hx with⟨m,e,h⟩|h
 ·rw[h];exact⟨_,rfl,nearest_le _ _⟩
 ·rw[h];simp only[Ieee.Datum.product,if_neg hn];exact⟨_,rfl,write_inf⟩
theorem div_ok {x y:Nat} (hx:x≤infW) (hy:posW y=true): ∃r,floatBits .quo .f64 x y=some r∧r≤infW:=by
 obtain⟨n,j,hr,hn⟩:=posW_iff hy;have hdef:floatBits .quo .f64 x y=((Ieee.double.read x).quotient (Ieee.double.fractionBits+2) (Ieee.double.read y)).map Ieee.double.write:=rfl;rw[hdef,hr];rcases read_le hx with⟨m,e,h⟩|h
 ·rw[h];simp only[Ieee.Datum.quotient,if_neg hn];exact⟨_,rfl,nearest_le _ _⟩
 ·rw[h];exact⟨_,rfl,write_inf⟩
theorem ofInt_le (m:Nat):floatOfInt .f64 (m:Int)≤infW:=by
 unfold floatOfInt FloatKind.nearest FloatKind.encode;have:decide ((m:Int)<0)=false:=by simp
 show Ieee.double.write (.number (decide ((m:Int)<0)) _ 0)≤infW;rw[this];exact nearest_le _ _
def mulW (x y:Nat):Nat:=(floatBits .mul .f64 x y).getD 0
def divW (x y:Nat):Nat:=(floatBits .quo .f64 x y).getD 0
theorem mulW_eq {x y:Nat} (hx:x≤infW) (hy:posW y=true):floatBits .mul .f64 x y=some (mulW x y)∧mulW x y≤infW:=by
 obtain⟨r,h1,h2⟩:=mul_ok hx hy;unfold mulW;rw[h1];exact⟨rfl,h2⟩
theorem divW_eq {x y:Nat} (hx:x≤infW) (hy:posW y=true):floatBits .quo .f64 x y=some (divW x y)∧divW x y≤infW:=by
 obtain⟨r,h1,h2⟩:=div_ok hx hy;unfold divW;rw[h1];exact⟨rfl,h2⟩
def p10W (k:Nat):Nat:=p10F.getD k 0
theorem p10W_pos {k:Nat} (h:k<23):posW (p10W k)=true:=by
 have hl:k<p10F.length:=h;rw[p10W,List.getD_eq_getElem?_getD,List.getElem?_eq_getElem hl];exact p10F_pos _ (List.getElem_mem hl)
def bigW (x:Nat):Bool:=(FloatKind.f64.format.order x 4831355200913801216==some .gt)||(FloatKind.f64.format.order x 14054727237768577024==some .lt)
def exactW (m : Nat) (p : Int) : Option Nat :=
  if m/4503599627370496≠0 then none
  else if p=0 then some (floatOfInt .f64 (m:Int))
  else if 0 < p ∧ p ≤ 37 then
    (if bigW (if 22 < p then mulW (floatOfInt .f64 (m : Int)) (p10W (p - 22).toNat) else floatOfInt .f64 (m : Int)) then none
     else some (mulW (if 22<p then mulW (floatOfInt .f64 (m:Int)) (p10W (p-22).toNat)else floatOfInt .f64 (m:Int)) (p10W (if 22<p then 22 else p.toNat))))
  else if p<0∧ -22≤p then some (divW (floatOfInt .f64 (m:Int)) (p10W (-p).toNat))
  else none
def upd (D:Nat→Nat) (i c:Nat):Nat→Nat:=fun j=>if j=i then c else D j
def trimN (D:Nat→Nat):Nat→Nat
 |0=>0
 |m+1=>if D m=48 then trimN D m else m+1
theorem trimN_le (D:Nat→Nat): ∀m,trimN D m≤m
 |0=>Nat.le_refl _
 |m+1=>by have:=trimN_le D m;unfold trimN;split<;>omega
def trimDp (D:Nat→Nat) (nd:Nat) (dp:Int):Int:=if trimN D nd=0 then 0 else dp
def srch (p:Nat→Bool):Nat→Nat→Nat
 |0,r=>r
 |f+1,r=>if p r=true then r else srch p f (r+1)
theorem srch_hit {p:Nat→Bool} {F r:Nat} (hF:r<F) (h:p r=true):srch p (F-r) r=r:=by
 obtain⟨f,hf⟩: ∃f,F-r=f+1:=⟨F-r-1,by omega⟩;rw[hf,srch,if_pos h]
theorem srch_miss {p:Nat→Bool} {F r:Nat} (hF:r<F) (h:p r=false):srch p (F-r) r=srch p (F-(r+1)) (r+1):=by
 obtain⟨f,hf⟩: ∃f,F-r=f+1:=⟨F-r-1,by omega⟩;have h2:F-(r+1)=f:=by omega
 rw[hf,h2,srch,if_neg (by rw[h];simp)]
def dgt (D:Nat→Nat) (nd r:Nat):Nat:=if r<nd then D r-48 else 0
def pre (D:Nat→Nat) (nd:Nat):Nat→Nat
 |0=>0
 |r+1=>pre D nd r*10+dgt D nd r
def DigOk (D:Nat→Nat) (nd:Nat):Prop:=(∀i,i<nd→48≤D i∧D i≤57)∧(0<nd→D 0≠48)
theorem dgt_le {D:Nat→Nat} {nd:Nat} (h:DigOk D nd) (r:Nat):dgt D nd r≤9:=by
 unfold dgt;split
 ·rename_i hr;have:=h.1 r hr;omega
 ·omega
theorem pre_pos {D : Nat → Nat} {nd : Nat} (h : DigOk D nd) (hn : 0 < nd) : ∀ r, 10 ^ r ≤ pre D nd (r + 1)
  | 0 => by
    have h1:=h.1 0 hn
    have h2:=h.2 hn
    simp only[pre,dgt,if_pos hn]
    omega
  | r + 1 => by
    have ih:=pre_pos h hn r
    rw[pre,Nat.pow_succ]
    omega
theorem pre_lt {D:Nat→Nat} {nd:Nat} (h:DigOk D nd): ∀r,pre D nd r<10^r
 |0=>by simp[pre]
 |r+1=>by
  have ih:=pre_lt h r;have:=dgt_le h r;rw[pre,Nat.pow_succ];omega
theorem pre_behind (D:Nat→Nat) (nd:Nat): ∀m,pre D nd (nd+m)=pre D nd nd*10^m
 |0=>by simp
 |m+1=>by
  rw[←Nat.add_assoc,pre,pre_behind D nd m,dgt,if_neg (by omega),Nat.pow_succ];simp[Nat.mul_assoc]
def rsBig (D:Nat→Nat) (nd k r:Nat):Bool:=decide (2^k≤pre D nd r)
def rsR (D:Nat→Nat) (nd k:Nat):Nat:=srch (rsBig D nd k) 1000 0
def rsDig (D:Nat→Nat) (nd k r0 i:Nat):Nat:=pre D nd (r0+i)/2^k%10
def rsEnd (D:Nat→Nat) (nd k r0 j:Nat):Bool:=decide (pre D nd (r0+j)%(10*2^k)=0)
def rsW (D:Nat→Nat) (nd k r0:Nat):Nat:=srch (rsEnd D nd k r0) (2000-(nd-r0)) (nd-r0)
def rsD (D:Nat→Nat) (nd k r0 j:Nat):Nat→Nat:=fun i=>if i<j∧i<800 then 48+rsDig D nd k r0 i else D i
def rsT (D:Nat→Nat) (nd k r0 j:Nat):Bool:=(List.range j).any fun i=>decide (800≤i)&&decide (0<rsDig D nd k r0 i)
theorem rs_step {K X d:Nat} (hK:0<K) (hd:d≤9):(X%(10*K))/K=X/K%10∧(X%(10*K))%K*10+d=(X*10+d)%(10*K):=by
 have h1:X%(10*K)=X%K+K*(X/K%10):=by
  rw[Nat.mul_comm 10 K];exact Nat.mod_mul
 have hlt:X%K<K:=Nat.mod_lt _ hK;refine⟨?_,?_⟩
 ·rw[h1,Nat.add_mul_div_left _ _ hK,Nat.div_eq_of_lt hlt,Nat.zero_add]
 ·rw[h1,Nat.add_mul_mod_self_left,Nat.mod_mod];have h2:X=X%K+K*(X/K):=(Nat.mod_add_div X K).symm;have e:10*K*(X/K)=10*(K*(X/K)):=Nat.mul_assoc _ _ _;have h3:X*10+d=(X%K*10+d)+10*K*(X/K):=by
   rw[e];generalize K*(X/K)=Q at h2 ⊢
   generalize X%K=R at h2 ⊢
   omega
  have hlt3:X%K*10+d<10*K:=by
   generalize X%K=R at hlt ⊢
   omega
  rw[h3,Nat.add_mul_mod_self_left,Nat.mod_eq_of_lt hlt3]
theorem rsD_succ {D:Nat→Nat} {nd k r0 j:Nat} (hj:j<800):upd (rsD D nd k r0 j) j (48+rsDig D nd k r0 j)=rsD D nd k r0 (j+1):=by
 funext i;unfold upd rsD;by_cases e:i=j
 ·subst e;rw[if_pos rfl,if_pos ⟨by omega,hj⟩]
 ·rw[if_neg e];by_cases h:i<j∧i<800
  ·rw[if_pos h,if_pos ⟨by omega,h.2⟩]
  ·rw[if_neg h,if_neg (by omega)]
theorem rsD_far {D:Nat→Nat} {nd k r0 j:Nat} (hj:800≤j):rsD D nd k r0 (j+1)=rsD D nd k r0 j:=by
 funext i;unfold rsD;by_cases h:i<j∧i<800
 ·rw[if_pos h,if_pos ⟨by omega,h.2⟩]
 ·rw[if_neg h,if_neg (by omega)]
theorem rsD_keep {D:Nat→Nat} {nd k r0 j r:Nat} (h:j≤r):rsD D nd k r0 j r=D r:=by
 unfold rsD;rw[if_neg (by omega)]
theorem rsD_zero {D:Nat→Nat} {nd k r0:Nat}:rsD D nd k r0 0=D:=by
 funext i;unfold rsD;rw[if_neg (by omega)]
theorem rsT_succ {D:Nat→Nat} {nd k r0 j:Nat}:rsT D nd k r0 (j+1)=(rsT D nd k r0 j||(decide (800≤j)&&decide (0<rsDig D nd k r0 j))):=by
 unfold rsT;rw[List.range_succ,List.any_append];simp
theorem rsT_small {D:Nat→Nat} {nd k r0 j:Nat} (h:j≤800):rsT D nd k r0 j=false:=by
 unfold rsT;rw[List.any_eq_false];intro i hi;have:=List.mem_range.1 hi;rw[decide_eq_false (by omega)];simp
def rsNd0 (D:Nat→Nat) (nd k:Nat):Nat:=min (rsW D nd k (rsR D nd k)) 800
def rsDF (D:Nat→Nat) (nd k:Nat):Nat→Nat:=rsD D nd k (rsR D nd k) (rsW D nd k (rsR D nd k))
def rsNd (D:Nat→Nat) (nd k:Nat):Nat:=trimN (rsDF D nd k) (rsNd0 D nd k)
def rsDp (D:Nat→Nat) (nd k:Nat) (dp:Int):Int:=trimDp (rsDF D nd k) (rsNd0 D nd k) (dp-((rsR D nd k:Int)-1))
def rsTr (D:Nat→Nat) (nd k:Nat) (tr:Bool):Bool:=tr||rsT D nd k (rsR D nd k) (rsW D nd k (rsR D nd k))
def plessL (D:Nat→Nat) (nd:Nat):List UInt8→Nat→Bool
 |[],_=>false
 |c::r,i=>if nd≤i then true else if D i=c.toNat then plessL D nd r (i+1)else decide (D i<c.toNat)
def sfx (D:Nat→Nat):Nat→Nat→Nat
 |_,0=>0
 |i,m+1=>(D i-48)*10^m+sfx D (i+1) m
def vl:List UInt8→Nat
 |[]=>0
 |c::r=>(c.toNat-48)*10^r.length+vl r
def DigL:List UInt8→Prop
 |[]=>True
 |[c]=>49≤c.toNat∧c.toNat≤57
 |c::d::r=>48≤c.toNat∧c.toNat≤57∧DigL (d::r)
theorem DigL.head {c:UInt8}: ∀{r:List UInt8},DigL (c::r)→48≤c.toNat∧c.toNat≤57
 |[],h=>⟨Nat.le_trans (by omega) h.1,h.2⟩
 |_::_,h=>⟨h.1,h.2.1⟩
theorem DigL.tail {c:UInt8}: ∀{r:List UInt8},DigL (c::r)→DigL r
 |[],_=>trivial
 |_::_,h=>h.2.2
theorem vl_pos {c:UInt8}: ∀{r:List UInt8},DigL (c::r)→0<vl (c::r)
 |[],h=>by simp only[DigL]at h;simp only[vl,List.length_nil,Nat.pow_zero];omega
 |d::r,h=>by
  have:=vl_pos h.2.2;rw[vl];omega
theorem vl_lt: ∀{r:List UInt8},DigL r→vl r<10^r.length
 |[],_=>by simp[vl]
 |c::r,h=>by
  have ih:=vl_lt h.tail;have hc:=h.head;rw[vl,List.length_cons,Nat.pow_succ];have:(c.toNat-48)*10^r.length≤9*10^r.length:=Nat.mul_le_mul_right _ (by omega);omega
theorem sfx_lt {D:Nat→Nat} {nd:Nat} (h:DigOk D nd): ∀(m i:Nat),i+m≤nd→sfx D i m<10^m
 |0,_,_=>by simp[sfx]
 |m+1,i,hi=>by
  have ih:=sfx_lt h m (i+1) (by omega);have hc:=h.1 i (by omega);rw[sfx,Nat.pow_succ];have:(D i-48)*10^m≤9*10^m:=Nat.mul_le_mul_right _ (by omega);omega
theorem pre_sfx {D:Nat→Nat} {nd:Nat}: ∀(m i:Nat),i+m=nd→pre D nd nd=pre D nd i*10^m+sfx D i m
 |0,i,hi=>by rw[←hi];simp[sfx]
 |m+1,i,hi=>by
  have ih:=pre_sfx (D:=D) (nd:=nd) m (i+1) (by omega);rw[ih,pre,sfx,dgt,if_pos (by omega),Nat.pow_succ,Nat.add_mul,Nat.mul_assoc,Nat.mul_comm 10 (10^m)];omega
theorem cmp_step {d e A B X Y:Nat} (hX:X<A) (hY:Y<B):((d*A+X)*(B*10)<(e*B+Y)*(A*10))↔(d<e∨(d=e∧X*B<Y*A)):=by
 have hA:0<A:=by omega
 have hB:0<B:=by omega
 have e1:(d*A+X)*(B*10)=(d*(A*B)+X*B)*10:=by rw[←Nat.mul_assoc,Nat.add_mul,Nat.mul_assoc]
 have e2:(e*B+Y)*(A*10)=(e*(A*B)+Y*A)*10:=by rw[←Nat.mul_assoc,Nat.add_mul,Nat.mul_assoc,Nat.mul_comm B A]
 rw[e1,e2];have hXB:X*B<A*B:=Nat.mul_lt_mul_of_pos_right hX hB;have hYA:Y*A<A*B:=by rw[Nat.mul_comm A B];exact Nat.mul_lt_mul_of_pos_right hY hA
 obtain⟨P,hP⟩: ∃P,P=A*B:=⟨_,rfl⟩;rw[←hP]at hXB hYA ⊢
 rcases Nat.lt_trichotomy d e with h|h|h
 ·have:(d+1)*P≤e*P:=Nat.mul_le_mul_right _ h;rw[Nat.add_mul]at this;constructor
  ·intro _;exact .inl h
  ·intro _;omega
 ·subst h;constructor
  ·intro h2;exact .inr ⟨rfl,by omega⟩
  ·rintro(h2|⟨_,h2⟩)
   ·omega
   ·omega
 ·have:(e+1)*P≤d*P:=Nat.mul_le_mul_right _ h;rw[Nat.add_mul]at this;constructor
  ·intro h2;omega
  ·rintro(h2|⟨h2,_⟩)
   ·omega
   ·omega
theorem pless_iff {D:Nat→Nat} {nd:Nat} (h:DigOk D nd): ∀(r:List UInt8) (i m:Nat),i+m=nd→DigL r→(plessL D nd r i=true↔sfx D i m*10^r.length<vl r*10^m)
 |[],i,m,_,_=>by simp[plessL,vl]
 |c::r,i,0,hi,hr=>by
  have:=vl_pos hr;rw[plessL,if_pos (by omega)];simp only[sfx,Nat.zero_mul,Nat.pow_zero,Nat.mul_one,true_iff];exact this
 |c::r,i,m+1,hi,hr=>by
  have ih:=pless_iff h r (i+1) m (by omega) hr.tail;have hX:=sfx_lt h m (i+1) (by omega);have hY:=vl_lt hr.tail;have hd:=h.1 i (by omega);have hc:=hr.head;rw[plessL,if_neg (by omega),sfx,vl,List.length_cons,Nat.pow_succ,Nat.pow_succ,cmp_step hX hY];by_cases hD:D i=c.toNat
  ·rw[if_pos hD,ih,hD];simp
  ·rw[if_neg hD,decide_eq_true_iff];omega
theorem ls_len {D:Nat→Nat} {nd k δ:Nat} {s:List UInt8} (h:DigOk D nd) (hn:0<nd) (hs:DigL s) (hv:vl s=5^k) (hl:s.length+δ=k+1) (hδ:1≤δ) (h2lo:10^(δ-1)≤2^k) (h2hi:2^k≤10^δ):
  (plessL D nd s 0=false→10^(nd+δ-1)≤pre D nd nd*2^k∧pre D nd nd*2^k<10^(nd+δ))∧
  (plessL D nd s 0=true→10^(nd+δ-2)≤pre D nd nd*2^k∧pre D nd nd*2^k<10^(nd+δ-1)):=by
 have hN:pre D nd nd=sfx D 0 nd:=by have:=pre_sfx (D:=D) (nd:=nd) nd 0 (by omega);simpa [pre]using this
 have hp:=pless_iff h s 0 nd (by omega) hs;rw[←hN,hv]at hp;have hlo:10^(nd-1)≤pre D nd nd:=by
  have:=pre_pos h hn (nd-1)
  rwa [Nat.sub_add_cancel hn]at this
 have hhi:=pre_lt h nd;obtain⟨N,hNN⟩: ∃N,N=pre D nd nd:=⟨_,rfl⟩;rw[←hNN]at hp hlo hhi ⊢
 have h10:(5:Nat)^k*2^k=10^k:=by rw[←Nat.mul_pow]
 constructor
 ·intro hf;have hge:5^k*10^nd≤N*10^s.length:=by
   rcases Nat.lt_or_ge (N*10^s.length) (5^k*10^nd)with hlt|hge
   ·have:=hp.2 hlt;rw[hf]at this;simp at this
   ·exact hge
  constructor
  ·have h1:10^s.length*10^(nd+δ-1)≤10^s.length*(N*2^k):=by
    have e1:10^s.length*10^(nd+δ-1)=5^k*10^nd*2^k:=by
     rw[Nat.mul_right_comm,h10,←Nat.pow_add,←Nat.pow_add];congr 1;omega
    have e2:10^s.length*(N*2^k)=N*10^s.length*2^k:=by rw[←Nat.mul_assoc,Nat.mul_comm (10^s.length) N]
    rw[e1,e2];exact Nat.mul_le_mul_right _ hge
   exact Nat.le_of_mul_le_mul_left h1 (Nat.pow_pos (by omega))
  ·rw[Nat.pow_add];exact Nat.lt_of_lt_of_le (Nat.mul_lt_mul_of_pos_right hhi (Nat.pow_pos (by omega))) (Nat.mul_le_mul_left _ h2hi)
 ·intro ht;have hlt:=hp.1 ht;constructor
  ·have e1:(10:Nat)^(nd+δ-2)=10^(nd-1)*10^(δ-1):=by rw[←Nat.pow_add];congr 1;omega
   rw[e1];exact Nat.mul_le_mul hlo h2lo
  ·have h1:10^s.length*(N*2^k)<10^s.length*10^(nd+δ-1):=by
    have e1:10^s.length*10^(nd+δ-1)=5^k*10^nd*2^k:=by
     rw[Nat.mul_right_comm,h10,←Nat.pow_add,←Nat.pow_add];congr 1;omega
    have e2:10^s.length*(N*2^k)=N*10^s.length*2^k:=by rw[←Nat.mul_assoc,Nat.mul_comm (10^s.length) N]
    rw[e1,e2];exact Nat.mul_lt_mul_of_pos_right hlt (Nat.pow_pos (by omega))
   exact Nat.lt_of_mul_lt_mul_left h1
def chD (k:Nat):Nat:=(Go.Pinned.cheatRows.getD k (0,[])).1
def chS (k:Nat):List UInt8:=(Go.Pinned.cheatRows.getD k (0,[])).2
def digLB:List UInt8→Bool
 |[]=>true
 |[c]=>decide (49≤c.toNat)&&decide (c.toNat≤57)
 |c::d::r=>decide (48≤c.toNat)&&decide (c.toNat≤57)&&digLB (d::r)
theorem digLB_ok: ∀{l:List UInt8},digLB l=true→DigL l
 |[],_=>trivial
 |[c],h=>by simp only[digLB,Bool.and_eq_true,decide_eq_true_eq]at h;exact h
 |c::d::r,h=>by
  rw[digLB,Bool.and_eq_true,Bool.and_eq_true]at h;exact⟨of_decide_eq_true h.1.1,of_decide_eq_true h.1.2,digLB_ok h.2⟩
def cheatB (k:Nat):Bool:=digLB (chS k)&&decide (vl (chS k)=5^k)&&decide ((chS k).length+chD k=k+1)&&decide (1≤chD k)&&decide (10^(chD k-1)≤2^k)&&decide (2^k≤10^chD k)&&decide (chD k≤20)&&decide ((chS k).length≤60)
theorem cheat_all:((List.range 60).all fun k=>cheatB (k+1))=true:=by kernel_rfl
structure CheatOk (k:Nat):Prop where
 dig:DigL (chS k)
 val:vl (chS k)=5^k
 len:(chS k).length+chD k=k+1
 pos:1≤chD k
 lo:10^(chD k-1)≤2^k
 hi:2^k≤10^chD k
 small:chD k≤20
 short:(chS k).length≤60
theorem cheat_ok {k:Nat} (h1:1≤k) (h2:k≤60):CheatOk k:=by
 have:=List.all_eq_true.1 cheat_all (k-1) (List.mem_range.2 (by omega));rw[Nat.sub_add_cancel h1]at this;simp only[cheatB,Bool.and_eq_true,decide_eq_true_eq]at this;obtain⟨⟨⟨⟨⟨⟨⟨a,b⟩,c⟩,d⟩,e⟩,f⟩,g⟩,i⟩:=this;exact⟨digLB_ok a,b,c,d,e,f,g,i⟩
def lsM (D:Nat→Nat) (nd k:Nat):Nat:=pre D nd nd*2^k
def lsLess (D:Nat→Nat) (nd k:Nat):Bool:=plessL D nd (chS k) 0
def lsL (D:Nat→Nat) (nd k:Nat):Nat:=if lsLess D nd k=true then nd+chD k-1 else nd+chD k
def lsD (D:Nat→Nat) (M L j:Nat):Nat→Nat:=fun i=>if L-j≤i∧i<L∧i<800 then 48+M/10^(L-1-i)%10 else D i
def lsT (M L j:Nat):Bool:=(List.range j).any fun t=>decide (800≤L-1-t)&&decide (M/10^t%10≠0)
def lsN (N k j:Nat):Nat:=(N%10^j*2^k)/10^j
theorem ls_bounds {D:Nat→Nat} {nd k:Nat} (h:DigOk D nd) (hn:0<nd) (h1:1≤k) (h2:k≤60):10^(lsL D nd k-1)≤lsM D nd k∧lsM D nd k<10^lsL D nd k∧nd≤lsL D nd k∧lsL D nd k≤nd+20:=by
 have c:=cheat_ok h1 h2;have hl:=ls_len h hn c.dig c.val c.len c.pos c.lo c.hi;have cp:=c.pos;have cs:=c.small;unfold lsL lsM;cases hb:lsLess D nd k
 ·rw[if_neg (by simp)];have:=hl.1 hb;exact⟨this.1,this.2,by omega,by omega⟩
 ·rw[if_pos rfl];have:=hl.2 hb;exact⟨by rw[show nd+chD k-1-1=nd+chD k-2 by omega];exact this.1,this.2,by omega,by omega⟩
theorem lsN_step {N k j d:Nat} (hd:N/10^j%10=d):(lsN N k j+d*2^k)%10=N*2^k/10^j%10∧(lsN N k j+d*2^k)/10=lsN N k (j+1)∧lsN N k j<2^k:=by
 have hT:0<10^j:=Nat.pow_pos (by omega);have hm:N%10^(j+1)=N%10^j+10^j*d:=by rw[Nat.pow_succ,Nat.mod_mul,hd]
 have h1:lsN N k j+d*2^k=N%10^(j+1)*2^k/10^j:=by
  rw[hm,Nat.add_mul,Nat.mul_assoc,Nat.add_mul_div_left _ _ hT,lsN]
 refine⟨?_,?_,?_⟩
 ·rw[h1];have h2:N=N%10^(j+1)+10^(j+1)*(N/10^(j+1)):=(Nat.mod_add_div _ _).symm;have h3:N*2^k=N%10^(j+1)*2^k+10^j*(10*(N/10^(j+1)*2^k)):=by
   conv=>lhs;rw[h2]
   rw[Nat.add_mul,Nat.pow_succ,Nat.mul_assoc (10^j) 10,Nat.mul_assoc (10^j),Nat.mul_assoc 10]
  rw[h3,Nat.add_mul_div_left _ _ hT,Nat.add_mul_mod_self_left]
 ·rw[h1,lsN,Nat.div_div_eq_div_mul,←Nat.pow_succ]
 ·rw[lsN,Nat.div_lt_iff_lt_mul hT,Nat.mul_comm (2^k)];exact Nat.mul_lt_mul_of_pos_right (Nat.mod_lt _ hT) (Nat.pow_pos (by omega))
theorem pre_div {D:Nat→Nat} {nd:Nat} (h:DigOk D nd) (a:Nat): ∀j,pre D nd (a+j)/10^j=pre D nd a
 |0=>by simp
 |j+1=>by
  have ih:=pre_div h a j;have hd:=dgt_le h (a+j);rw[←Nat.add_assoc,pre,Nat.pow_succ,Nat.mul_comm (10^j),←Nat.div_div_eq_div_mul,show (pre D nd (a+j)*10+dgt D nd (a+j))/10=pre D nd (a+j)by omega,ih]
theorem pre_dig {D:Nat→Nat} {nd:Nat} (h:DigOk D nd) {j:Nat} (hj:j<nd):pre D nd nd/10^j%10=D (nd-1-j)-48:=by
 have e:nd=(nd-1-j)+1+j:=by omega
 have h1:=pre_div h (nd-1-j+1) j;rw[←e]at h1;have hd:=dgt_le h (nd-1-j);rw[h1,pre];have h2:dgt D nd (nd-1-j)=D (nd-1-j)-48:=by rw[dgt,if_pos (by omega)]
 omega
theorem lsN_behind {N k nd j:Nat} (h:N<10^nd) (hj:nd≤j):lsN N k j=N*2^k/10^j:=by
 rw[lsN,Nat.mod_eq_of_lt (Nat.lt_of_lt_of_le h (Nat.pow_le_pow_right (by omega) hj))]
theorem lsD_succ {D:Nat→Nat} {M L j:Nat} (hj:j<L) (h8:L-(j+1)<800):upd (lsD D M L j) (L-(j+1)) (48+M/10^j%10)=lsD D M L (j+1):=by
 funext i;unfold upd lsD;by_cases e:i=L-(j+1)
 ·have e2:L-1-i=j:=by omega
  rw[if_pos e,if_pos ⟨by omega,by omega,by omega⟩,e2]
 ·rw[if_neg e];by_cases h:L-j≤i∧i<L∧i<800
  ·rw[if_pos h,if_pos ⟨by omega,h.2⟩]
  ·rw[if_neg h,if_neg (by omega)]
theorem lsD_far {D:Nat→Nat} {M L j:Nat} (h8:800≤L-(j+1)):lsD D M L (j+1)=lsD D M L j:=by
 funext i;unfold lsD;by_cases h:L-j≤i∧i<L∧i<800
 ·rw[if_pos h,if_pos ⟨by omega,h.2⟩]
 ·rw[if_neg h,if_neg (by omega)]
theorem lsD_keep {D:Nat→Nat} {M L j r:Nat} (h:r<L-j):lsD D M L j r=D r:=by
 unfold lsD;rw[if_neg (by omega)]
theorem lsD_zero {D:Nat→Nat} {M L:Nat}:lsD D M L 0=D:=by
 funext i;unfold lsD;rw[if_neg (by omega)]
theorem lsT_succ {M L j:Nat}:lsT M L (j+1)=(lsT M L j||(decide (800≤L-1-j)&&decide (M/10^j%10≠0))):=by
 unfold lsT;rw[List.range_succ,List.any_append];simp
def lsDF (D:Nat→Nat) (nd k:Nat):Nat→Nat:=lsD D (lsM D nd k) (lsL D nd k) (lsL D nd k)
def lsNd (D:Nat→Nat) (nd k:Nat):Nat:=trimN (lsDF D nd k) (min (lsL D nd k) 800)
def lsDp (D:Nat→Nat) (nd k:Nat) (dp:Int):Int:=trimDp (lsDF D nd k) (min (lsL D nd k) 800) (dp+((lsL D nd k:Int)-nd))
def lsTr (D:Nat→Nat) (nd k:Nat) (tr:Bool):Bool:=tr||lsT (lsM D nd k) (lsL D nd k) (lsL D nd k)
structure Dec where
 D:Nat→Nat
 nd:Nat
 dp:Int
 tr:Bool
structure Dec.Ok (S:Dec):Prop where
 dig:DigOk S.D S.nd
 pos:0<S.nd
 le:S.nd≤800
def Dec.ls (S:Dec) (k:Nat):Dec:=⟨lsDF S.D S.nd k,lsNd S.D S.nd k,lsDp S.D S.nd k S.dp,lsTr S.D S.nd k S.tr⟩
def Dec.rs (S:Dec) (k:Nat):Dec:=⟨rsDF S.D S.nd k,rsNd S.D S.nd k,rsDp S.D S.nd k S.dp,rsTr S.D S.nd k S.tr⟩
theorem trimN_pos {D:Nat→Nat} (h:D 0≠48): ∀m,0<m→0<trimN D m
 |0,h0=>absurd h0 (by omega)
 |m+1,_=>by
  unfold trimN;split
  ·rename_i he;cases m with
   |zero=>exact absurd he h
   |succ q=>exact trimN_pos h (q+1) (by omega)
  ·omega
theorem digOk_trim {D:Nat→Nat} {m:Nat} (h1: ∀i,i<m→48≤D i∧D i≤57) (h0:D 0≠48):DigOk D (trimN D m):=
 ⟨fun i hi=>h1 i (Nat.lt_of_lt_of_le hi (trimN_le D m)),fun _=>h0⟩
theorem Dec.ls_ok {S:Dec} (h:S.Ok) {k:Nat} (h1:1≤k) (h2:k≤60):(S.ls k).Ok∧(S.ls k).dp=S.dp+((lsL S.D S.nd k:Int)-S.nd)∧(S.ls k).D 0=48+lsM S.D S.nd k/10^(lsL S.D S.nd k-1):=by
 have hb:=ls_bounds h.dig h.pos h1 h2;have hp:=h.pos;obtain⟨L,hL⟩: ∃L,L=lsL S.D S.nd k:=⟨_,rfl⟩;obtain⟨M,hM⟩: ∃M,M=lsM S.D S.nd k:=⟨_,rfl⟩;rw[←hL,←hM]at hb;have eF:lsDF S.D S.nd k=lsD S.D M L L:=by rw[lsDF,←hL,←hM]
 have hdig: ∀i,i<min L 800→48≤lsD S.D M L L i∧lsD S.D M L L i≤57:=fun i hi=>by
  unfold lsD;rw[if_pos ⟨by omega,by omega,by omega⟩];omega
 have hlead:M/10^(L-1)%10=M/10^(L-1)∧1≤M/10^(L-1):=by
  have hT:0<10^(L-1):=Nat.pow_pos (by omega);constructor
  ·apply Nat.mod_eq_of_lt;rw[Nat.div_lt_iff_lt_mul hT,Nat.mul_comm,←Nat.pow_succ,show (L-1).succ=L by omega];exact hb.2.1
  ·exact Nat.div_pos hb.1 hT
 have h0:lsD S.D M L L 0=48+M/10^(L-1):=by
  unfold lsD;rw[if_pos ⟨by omega,by omega,by omega⟩,Nat.sub_zero,hlead.1]
 have hne:lsD S.D M L L 0≠48:=by have:=hlead.2;omega
 have hm0:0<min L 800:=by omega
 have eN:lsNd S.D S.nd k=trimN (lsD S.D M L L) (min L 800):=by rw[lsNd,eF,←hL]
 have htp:=trimN_pos hne _ hm0;refine⟨⟨?_,?_,?_⟩,?_,?_⟩
 ·show DigOk (lsDF S.D S.nd k) (lsNd S.D S.nd k);rw[eF,eN];exact digOk_trim hdig hne
 ·show 0<lsNd S.D S.nd k;rw[eN];exact htp
 ·show lsNd S.D S.nd k≤800;rw[eN];have:=trimN_le (lsD S.D M L L) (min L 800);omega
 ·show lsDp S.D S.nd k S.dp=_;rw[lsDp,eF,←hL,trimDp,if_neg (by omega)]
 ·show lsDF S.D S.nd k 0=_;rw[eF,h0,←hL,←hM]
theorem srch_spec {p:Nat→Bool}: ∀(f r:Nat),(∃m,r≤m∧m<r+f∧p m=true)→p (srch p f r)=true∧r≤srch p f r∧ ∀m,r≤m→m<srch p f r→p m=false
 |0,r,h=>by obtain⟨m,h1,h2,_⟩:=h;omega
 |f+1,r,h=>by
  rw[srch];by_cases hp:p r=true
  ·rw[if_pos hp];exact⟨hp,Nat.le_refl _,fun m h1 h2=>by omega⟩
  ·rw[if_neg hp];obtain⟨m,h1,h2,h3⟩:=h;have hm:m≠r:=by rintro rfl;exact hp h3
   obtain⟨a,b,c⟩:=srch_spec f (r+1) ⟨m,by omega,by omega,h3⟩;refine⟨a,by omega,fun q h4 h5=>?_⟩;by_cases hq:q=r
   ·subst hq;simpa using hp
   ·exact c q (by omega) h5
theorem rs_first {D:Nat→Nat} {nd k:Nat} (h:DigOk D nd) (hn:0<nd) (hk:k≤60):2^k≤pre D nd (rsR D nd k)∧(∀m,m<rsR D nd k→pre D nd m<2^k)∧1≤rsR D nd k∧rsR D nd k≤21:=by
 have hex:rsBig D nd k 21=true:=by
  rw[rsBig,decide_eq_true_iff];have h1:10^20≤pre D nd 21:=pre_pos h hn 20;have h2:(2:Nat)^k≤2^60:=Nat.pow_le_pow_right (by omega) hk;have h3:(2:Nat)^60≤10^20:=by decide
  omega
 obtain⟨a,b,c⟩:=srch_spec (p:=rsBig D nd k) 1000 0 ⟨21,by omega,by omega,hex⟩;have a':2^k≤pre D nd (rsR D nd k):=of_decide_eq_true a;refine⟨a',fun m hm=>?_,?_,?_⟩
 ·have:=c m (Nat.zero_le _) hm;have:=of_decide_eq_false this;omega
 ·rcases Nat.eq_zero_or_pos (rsR D nd k)with h0|h0
  ·rw[h0]at a';have:0<2^k:=Nat.pow_pos (by omega);simp[pre]at a'
  ·exact h0
 ·rcases Nat.lt_or_ge 21 (rsR D nd k)with h0|h0
  ·have:=c 21 (by omega) h0;rw[hex]at this;cases this
  ·exact h0
theorem Dec.rs_ok {S:Dec} (h:S.Ok) {k:Nat} (h1:1≤k) (h2:k≤60):(S.rs k).Ok∧(S.rs k).dp=S.dp-((rsR S.D S.nd k:Int)-1)∧(S.rs k).D 0=48+pre S.D S.nd (rsR S.D S.nd k)/2^k:=by
 obtain⟨hr1,hr2,hr3,hr4⟩:=rs_first h.dig h.pos h2;obtain⟨R,hR⟩: ∃R,R=rsR S.D S.nd k:=⟨_,rfl⟩;rw[←hR]at hr1 hr2 hr3 hr4;have hK:0<2^k:=Nat.pow_pos (by omega);have hlt:pre S.D S.nd R<10*2^k:=by
  obtain⟨q,rfl⟩: ∃q,R=q+1:=⟨R-1,by omega⟩;have h3:=hr2 q (by omega);have h4:=dgt_le h.dig q;rw[pre];omega
 obtain⟨W,hW⟩: ∃W,W=rsW S.D S.nd k R:=⟨_,rfl⟩;have hW1:1≤W:=by
  rcases Nat.eq_zero_or_pos W with h0|h0
  ·exfalso;have hex: ∃m,S.nd-R≤m∧m<(S.nd-R)+(2000-(S.nd-R))∧rsEnd S.D S.nd k R m=true:=by
    refine⟨S.nd+k+1,by omega,by have:=h.le;omega,?_⟩;rw[rsEnd,decide_eq_true_iff,show R+(S.nd+k+1)=S.nd+(k+1+R)by omega,pre_behind];have e:(10:Nat)^(k+1+R)=(10*2^k)*(5^k*10^R):=by
     rw[Nat.pow_add,Nat.pow_succ,show (10:Nat)^k=2^k*5^k by rw[←Nat.mul_pow]];simp only[Nat.mul_assoc,Nat.mul_comm,Nat.mul_left_comm]
    rw[e,←Nat.mul_assoc,Nat.mul_comm (pre S.D S.nd S.nd),Nat.mul_assoc];exact Nat.mul_mod_right _ _
   obtain⟨a,_,_⟩:=srch_spec (p:=rsEnd S.D S.nd k R) _ _ hex;have hz:rsEnd S.D S.nd k R 0=true:=by
    have:rsEnd S.D S.nd k R W=true:=by rw[hW];exact a
    rwa [h0]at this
   have:=of_decide_eq_true hz;rw[Nat.add_zero,Nat.mod_eq_of_lt hlt]at this;omega
  ·exact h0
 have eF:rsDF S.D S.nd k=rsD S.D S.nd k R W:=by rw[rsDF,←hR,←hW]
 have e0:rsNd0 S.D S.nd k=min W 800:=by rw[rsNd0,←hR,←hW]
 have hdig: ∀i,i<min W 800→48≤rsD S.D S.nd k R W i∧rsD S.D S.nd k R W i≤57:=fun i hi=>by
  unfold rsD rsDig;rw[if_pos ⟨by omega,by omega⟩];omega
 have hl:pre S.D S.nd R/2^k<10∧1≤pre S.D S.nd R/2^k:=⟨by rw[Nat.div_lt_iff_lt_mul hK];exact hlt,Nat.div_pos hr1 hK⟩;have h0:rsD S.D S.nd k R W 0=48+pre S.D S.nd R/2^k:=by
  unfold rsD rsDig;rw[if_pos ⟨by omega,by omega⟩,Nat.add_zero,Nat.mod_eq_of_lt hl.1]
 have hne:rsD S.D S.nd k R W 0≠48:=by have:=hl.2;omega
 have hm0:0<min W 800:=by omega
 have eN:rsNd S.D S.nd k=trimN (rsD S.D S.nd k R W) (min W 800):=by rw[rsNd,eF,e0]
 have htp:=trimN_pos hne _ hm0;refine⟨⟨?_,?_,?_⟩,?_,?_⟩
 ·show DigOk (rsDF S.D S.nd k) (rsNd S.D S.nd k);rw[eF,eN];exact digOk_trim hdig hne
 ·show 0<rsNd S.D S.nd k;rw[eN];exact htp
 ·show rsNd S.D S.nd k≤800;rw[eN];have:=trimN_le (rsD S.D S.nd k R W) (min W 800);omega
 ·show rsDp S.D S.nd k S.dp=_;rw[rsDp,eF,e0,trimDp,if_neg (by omega),←hR]
 ·show rsDF S.D S.nd k 0=_;rw[eF,h0,←hR]
def Dec.shL (k:Nat) (S:Dec):Dec:=if h:60<k then Dec.shL (k-60) (S.ls 60)else S.ls k
termination_by k
def Dec.shR (k:Nat) (S:Dec):Dec:=if h:60<k then Dec.shR (k-60) (S.rs 60)else S.rs k
termination_by k
theorem Dec.shL_more {k:Nat} {S:Dec} (h:60<k):Dec.shL k S=Dec.shL (k-60) (S.ls 60):=by rw[Dec.shL,dif_pos h]
theorem Dec.shL_last {k:Nat} {S:Dec} (h:k≤60):Dec.shL k S=S.ls k:=by rw[Dec.shL,dif_neg (by omega)]
theorem Dec.shR_more {k:Nat} {S:Dec} (h:60<k):Dec.shR k S=Dec.shR (k-60) (S.rs 60):=by rw[Dec.shR,dif_pos h]
theorem Dec.shR_last {k:Nat} {S:Dec} (h:k≤60):Dec.shR k S=S.rs k:=by rw[Dec.shR,dif_neg (by omega)]
def powT (n:Nat):Nat:=if 9≤n then 27 else[1,3,6,9,13,16,19,23,26].getD n 0
theorem powT_bounds (n:Nat):1≤powT n∧powT n≤27:=by
 unfold powT;by_cases h:9≤n
 ·rw[if_pos h];omega
 ·rw[if_neg h];have: ∀m,m<9→1≤[1,3,6,9,13,16,19,23,26].getD m 0∧[1,3,6,9,13,16,19,23,26].getD m 0≤27:=by decide
  exact this n (by omega)
theorem powT_three {n:Nat} (h:1≤n):3≤powT n:=by
 unfold powT;by_cases h9:9≤n
 ·rw[if_pos h9];omega
 ·rw[if_neg h9];have: ∀m,m<9→1≤m→3≤[1,3,6,9,13,16,19,23,26].getD m 0:=by decide
  exact this n (by omega) h
theorem powT_six {n:Nat} (h:2≤n):6≤powT n:=by
 unfold powT;by_cases h9:9≤n
 ·rw[if_pos h9];omega
 ·rw[if_neg h9];have: ∀m,m<9→2≤m→6≤[1,3,6,9,13,16,19,23,26].getD m 0:=by decide
  exact this n (by omega) h
def fb1:Nat→Dec→Int→Dec×Int
 |0,S,e=>(S,e)
 |f+1,S,e=>if 0<S.dp then fb1 f (S.rs (powT S.dp.toNat)) (e+powT S.dp.toNat)else(S,e)
def mu1 (S:Dec):Nat:=2*S.dp.toNat+(if 56≤S.D 0 then 1 else 0)
theorem fb1_end {S:Dec} (h: ¬0<S.dp) (f:Nat) (e:Int):fb1 f S e=(S,e):=by
 cases f with
 |zero=>rfl
 |succ f=>rw[fb1,if_neg h]
theorem fb1_step {S:Dec} (h:0<S.dp) (f:Nat) (e:Int):fb1 (f+1) S e=fb1 f (S.rs (powT S.dp.toNat)) (e+powT S.dp.toNat):=by rw[fb1,if_pos h]
theorem mu1_step {S:Dec} (hok:S.Ok) (h:0<S.dp):mu1 (S.rs (powT S.dp.toNat))<mu1 S:=by
 obtain⟨k,hk⟩: ∃k,k=powT S.dp.toNat:=⟨_,rfl⟩;have hb:=powT_bounds S.dp.toNat;have h3:=powT_three (n:=S.dp.toNat) (by omega);rw[←hk]at hb h3 ⊢
 obtain⟨_,h2,h4⟩:=Dec.rs_ok hok (k:=k) hb.1 (by omega);obtain⟨f1,f2,f3,f4⟩:=rs_first hok.dig hok.pos (k:=k) (by omega);obtain⟨R,hR⟩: ∃R,R=rsR S.D S.nd k:=⟨_,rfl⟩;rw[←hR]at h2 h4 f1 f2 f3;unfold mu1;rw[h2];by_cases hR1:R=1
 ·have hpr:pre S.D S.nd 1=S.D 0-48:=by simp[pre,dgt,hok.pos]
  rw[hR1,hpr]at f1 h4;have hd:=hok.dig.1 0 hok.pos;have hp8:(8:Nat)≤2^k:=Nat.pow_le_pow_right (n:=2) (by omega) h3;have h56:56≤S.D 0:=by omega
  have hnew: ¬56≤(S.rs k).D 0:=by
   rw[h4];have:(S.D 0-48)/2^k≤(S.D 0-48)/8:=Nat.div_le_div_left hp8 (by omega);omega
  rw[if_pos h56,if_neg hnew,hR1];omega
 ·have:(S.dp-((R:Int)-1)).toNat+1≤S.dp.toNat:=by omega
  split<;>split<;>omega
def less2 (S:Dec):Prop:=S.dp<0∨(S.dp=0∧S.D 0<53)
instance (S:Dec):Decidable (less2 S):=inferInstanceAs (Decidable (_∨_))
def fb2:Nat→Dec→Int→Dec×Int
 |0,S,e=>(S,e)
 |f+1,S,e=>if less2 S then fb2 f (S.ls (powT (-S.dp).toNat)) (e-powT (-S.dp).toNat)else(S,e)
def mu2 (S:Dec):Nat:=if S.dp<0 then 100*(-S.dp).toNat+(if S.D 0=49 then 1 else 0)else 60-S.D 0
theorem fb2_end {S:Dec} (h: ¬less2 S) (f:Nat) (e:Int):fb2 f S e=(S,e):=by
 cases f with
 |zero=>rfl
 |succ f=>rw[fb2,if_neg h]
theorem fb2_step {S:Dec} (h:less2 S) (f:Nat) (e:Int):fb2 (f+1) S e=fb2 f (S.ls (powT (-S.dp).toNat)) (e-powT (-S.dp).toNat):=by rw[fb2,if_pos h]
theorem mu2_step {S:Dec} (hok:S.Ok) (h:less2 S):mu2 (S.ls (powT (-S.dp).toNat))<mu2 S:=by
 obtain⟨k,hk⟩: ∃k,k=powT (-S.dp).toNat:=⟨_,rfl⟩;have hb:=powT_bounds (-S.dp).toNat;rw[←hk]at hb ⊢
 obtain⟨_,h2,h4⟩:=Dec.ls_ok hok (k:=k) hb.1 (by omega);have hlb:=ls_bounds hok.dig hok.pos (k:=k) hb.1 (by omega);have hd:=hok.dig.1 0 hok.pos;have hd0:=hok.dig.2 hok.pos;have hD:48≤(S.ls k).D 0:=by rw[h4];exact Nat.le_add_right _ _
 have cok:=cheat_ok hb.1 (by omega:k≤60);have hlo:10^(S.nd-1)≤pre S.D S.nd S.nd:=by
  have:=pre_pos hok.dig hok.pos (S.nd-1)
  rwa [Nat.sub_add_cancel hok.pos]at this
 have hlead:pre S.D S.nd S.nd/10^(S.nd-1)=S.D 0-48:=by
  have:=pre_div hok.dig 1 (S.nd-1);rw[show 1+(S.nd-1)=S.nd by have:=hok.pos;omega]at this;rw[this];simp[pre,dgt,hok.pos]
 have hT:0<10^(S.nd-1):=Nat.pow_pos (by omega);have hnT:10^S.nd=10*10^(S.nd-1):=by
  rw[←Nat.pow_succ']
  congr 1
  have:=hok.pos;omega
 obtain⟨N,hN⟩: ∃N,N=pre S.D S.nd S.nd:=⟨_,rfl⟩;obtain⟨L,hL⟩: ∃L,L=lsL S.D S.nd k:=⟨_,rfl⟩;have hM:lsM S.D S.nd k=N*2^k:=by rw[lsM,hN]
 rw[←hL]at h2 h4 hlb;rw[hM]at h4 hlb;rw[←hN]at hlo hlead;obtain⟨A,hA⟩: ∃A,A=10^(S.nd-1):=⟨_,rfl⟩;rw[←hA]at hlo hlead hT hnT;rcases h with h|⟨h,h5⟩
 ·unfold mu2;rw[if_pos h];by_cases hg:L=S.nd
  ·
   have hk3:k=3:=by
    have hle:lsL S.D S.nd k=S.nd+chD k-1∨lsL S.D S.nd k=S.nd+chD k:=by
     unfold lsL;split
     ·exact .inl rfl
     ·exact .inr rfl
    have hc1:chD k≤1:=by rw[←hL,hg]at hle;omega
    have hdp:S.dp= -1:=by
     rcases Nat.lt_or_ge 1 (-S.dp).toNat with hh|hh
     ·have h6:=powT_six (n:=(-S.dp).toNat) hh;rw[←hk]at h6;have h10:=cok.hi;have:2^k≤10^1:=Nat.le_trans h10 (Nat.pow_le_pow_right (by omega) hc1);have h64:2^6≤2^k:=Nat.pow_le_pow_right (by omega) h6;omega
     ·omega
    rw[hk,hdp];rfl
   subst hk3;have hlt:N*8<10*A:=by
    have:=hlb.2.1;rw[hg,hnT]at this;exact this
   have hone:S.D 0=49:=by
    have h7:N/A≤1:=by
     rw[←Nat.lt_succ_iff,Nat.div_lt_iff_lt_mul hT];omega
    rw[hlead]at h7;omega
   have hnew:56≤(S.ls 3).D 0:=by
    rw[h4,hg,←hA];have:8≤N*2^3/A:=by
     rw[Nat.le_div_iff_mul_le hT];have:N*2^3=N*8:=rfl;omega
    omega
   rw[h2,hg,if_pos hone];have e:S.dp+((S.nd:Int)-S.nd)=S.dp:=by omega
   rw[e,if_pos h,if_neg (by omega)];omega
  ·have hdp2:S.dp<(S.ls k).dp:=by rw[h2];have:=hlb.2.2.1;omega
   by_cases hn:(S.ls k).dp<0
   ·rw[if_pos hn];split<;>split<;>omega
   ·rw[if_neg hn];split<;>omega
 ·have hk1:k=1:=by rw[hk,h];rfl
  subst hk1;have hlt:N*2<10*A:=by
   have h8:N<(S.D 0-48+1)*A:=by
    rw[←hlead];exact(Nat.div_lt_iff_lt_mul hT).1 (Nat.lt_succ_self _)
   have h9:(S.D 0-48+1)*A≤5*A:=Nat.mul_le_mul_right _ (by omega);omega
  have hLe:L=S.nd:=by
   rcases Nat.lt_or_ge S.nd L with hh|hh
   ·exfalso;have h10:10^S.nd≤10^(L-1):=Nat.pow_le_pow_right (by omega) (by omega);have h11:=hlb.1;rw[hnT]at h10;have:N*2^1=N*2:=rfl;omega
   ·have:=hlb.2.2.1;omega
  have hnew:(S.ls 1).D 0≥48+2*(S.D 0-48):=by
   rw[h4,hLe,←hA];have:2*(S.D 0-48)≤N*2^1/A:=by
    rw[Nat.le_div_iff_mul_le hT];have h12:(S.D 0-48)*A≤N:=by rw[←hlead];exact Nat.div_mul_le_self _ _
    have:N*2^1=N*2:=rfl;rw[Nat.mul_assoc];omega
   omega
  unfold mu2;have e:(S.ls 1).dp=0:=by rw[h2,hLe,h];omega
  rw[if_neg (by omega),if_neg (by omega)];omega
def oddAt (D:Nat→Nat) (i:Nat):Bool:=decide (0<i)&&decide ((D (i-1)-48)%2≠0)
def sruAt (S:Dec) (i:Nat):Bool:=if S.D i=53∧i+1=S.nd then(S.tr||oddAt S.D i)else decide (53≤S.D i)
def sru (S:Dec) (n:Int):Bool:=if n<0∨(S.nd:Int)≤n then false else sruAt S n.toNat
def riPre (S:Dec) (i:Nat):Nat:=pre S.D S.nd i%18446744073709551616
def riV (S:Dec):Nat:=if 20<S.dp then 18446744073709551615 else if sru S S.dp=true then(riPre S S.dp.toNat+1)%18446744073709551616 else riPre S S.dp.toNat
def fbBits (m x:Int):Int:=bits .or .u64 (bits .and .u64 m 4503599627370495) (IntKind.u64.wrap (IntKind.u64.wrap (bits .and .i64 x 2047)*4503599627370496))
def fbOvf:Int×Bool:=(fbBits 0 2047,true)
def fbFin4 (m:Nat) (e:Int):Int×Bool:=if (m&&&4503599627370496)=0 then(fbBits m 0,false)else(fbBits m (e+1023),false)
def fbFin3 (m:Nat) (e:Int):Int×Bool:=if m=9007199254740992 then(if 2047≤e+1+1023 then fbOvf else fbFin4 4503599627370496 (e+1))else fbFin4 m e
def fbFin2 (S:Dec) (e:Int):Int×Bool:=if 2047≤e+1023 then fbOvf else fbFin3 (riV (S.ls 53)) e
def fbFin (S:Dec) (e:Int):Int×Bool:=if e< -1022 then fbFin2 (Dec.shR (-1022-e).toNat S) (-1022)else fbFin2 S e
def fbV (S:Dec):Int×Bool:=
 if S.nd=0 then(fbBits 0 0,false)
 else if 310<S.dp then fbOvf
 else if S.dp< -330 then(fbBits 0 0,false)
 else fbFin (fb2 34000 (fb1 1000 S 0).1 (fb1 1000 S 0).2).1 ((fb2 34000 (fb1 1000 S 0).1 (fb1 1000 S 0).2).2-1)
structure RF where
 mant:Nat
 ndm:Nat
 nd:Nat
 dp:Int
 dot:Bool
 dig:Bool
 tr:Bool
def rfStep (s:RF) (c:UInt8):RF:=
 if c.toNat=46 then⟨s.mant,s.ndm,s.nd,s.nd,true,s.dig,s.tr⟩
 else if c.toNat=48∧s.nd=0 then⟨s.mant,s.ndm,s.nd,s.dp-1,s.dot,true,s.tr⟩
 else if s.ndm<19 then⟨s.mant*10+(c.toNat-48),s.ndm+1,s.nd+1,s.dp,s.dot,true,s.tr⟩
 else⟨s.mant,s.ndm,s.nd+1,s.dp,s.dot,true,s.tr||c.toNat != 48⟩
def rf0:RF:=⟨0,0,0,0,false,false,false⟩
def rfAt (l:List UInt8) (k:Nat):RF:=(l.take k).foldl rfStep rf0
theorem rfAt_zero (l:List UInt8):rfAt l 0=rf0:=rfl
theorem rfAt_succ {l:List UInt8} {k:Nat} (h:k<l.length):rfAt l (k+1)=rfStep (rfAt l k) (atB l k):=by
 have:l[k]=atB l k:=by rw[atB,List.getD_eq_getElem?_getD,List.getElem?_eq_getElem h];rfl
 rw[rfAt,List.take_succ_eq_append_getElem h,List.foldl_append,this];rfl
def MantOk (l:List UInt8) (m:Nat):Prop:=m≤l.length∧ ∀i,i<m→digit (atB l i)=true∨((atB l i).toNat=46∧ ∀j,j<i→(atB l j).toNat≠46)
structure RFOk (k:Nat) (s:RF):Prop where
 ndm:s.ndm≤19∧s.ndm≤s.nd∧s.nd≤k
 mant:s.mant<10^s.ndm
 dp: -(k:Int)≤s.dp∧s.dp≤k
theorem digit_fits {c:UInt8} (h:digit c=true):48≤c.toNat∧c.toNat≤57:=by simpa [digit]using h
theorem rfStep_ok {k:Nat} {s:RF} {c:UInt8} (h:RFOk k s) (hc:digit c=true∨c.toNat=46):RFOk (k+1) (rfStep s c):=by
 obtain⟨⟨h1,h2,h3⟩,h4,h5,h6⟩:=h;unfold rfStep;split
 ·exact⟨⟨h1,h2,by show s.nd≤k+1;omega⟩,h4,by constructor<;>(simp only;omega)⟩
 ·rename_i hn;have hd:=digit_fits (hc.resolve_right hn);split
  ·exact⟨⟨h1,h2,by show s.nd≤k+1;omega⟩,h4,by constructor<;>(simp only;omega)⟩
  ·split
   ·refine⟨⟨by show s.ndm+1≤19;omega,by show s.ndm+1≤s.nd+1;omega,by show s.nd+1≤k+1;omega⟩,?_,by constructor<;>(simp only;omega)⟩;show s.mant*10+(c.toNat-48)<10^(s.ndm+1);rw[Nat.pow_succ];omega
   ·exact⟨⟨h1,by show s.ndm≤s.nd+1;omega,by show s.nd+1≤k+1;omega⟩,h4,by constructor<;>(simp only;omega)⟩
theorem rfAt_ok {l:List UInt8} {m:Nat} (h:MantOk l m): ∀k,k≤m→RFOk k (rfAt l k)
 |0,_=>⟨⟨by simp[rfAt_zero,rf0],by simp[rfAt_zero,rf0],by simp[rfAt_zero,rf0]⟩,by simp[rfAt_zero,rf0],by simp[rfAt_zero,rf0]⟩
 |k+1,hk=>by
  have hl:=h.1;rw[rfAt_succ (by omega)];refine rfStep_ok (rfAt_ok h k (by omega)) ?_;rcases h.2 k (by omega)with hd|hd
  ·exact .inl hd
  ·exact .inr hd.1
theorem rfStep_dot (s:RF) (c:UInt8):(rfStep s c).dot=(s.dot||c.toNat==46):=by
 unfold rfStep;split
 ·rename_i h;simp[h]
 ·rename_i h;have h':(c.toNat==46)=false:=by simpa using h
  rw[h',Bool.or_false]
  repeat' split
  all_goals rfl
theorem rfAt_dot {l:List UInt8}: ∀k,k≤l.length→(∀j,j<k→(atB l j).toNat≠46)→(rfAt l k).dot=false
 |0,_,_=>rfl
 |k+1,hk,h=>by
  have h1:((atB l k).toNat==46)=false:=by simpa using h k (by omega)
  rw[rfAt_succ (by omega),rfStep_dot,rfAt_dot k (by omega) fun j hj=>h j (by omega),h1];rfl
theorem rfStep_dig {s:RF} {c:UInt8} (h:digit c=true∨s.dig=true):(rfStep s c).dig=true∨(c.toNat=46∧(rfStep s c).dig=s.dig):=by
 unfold rfStep;split
 ·rename_i hc;exact .inr ⟨hc,rfl⟩
 ·left
  repeat' split
  all_goals rfl
theorem rfAt_dig {l:List UInt8} {m:Nat} (h:MantOk l m) {i:Nat} (hd:digit (atB l i)=true): ∀k,k≤m→i<k→(rfAt l k).dig=true
 |0,_,hi=>by omega
 |k+1,hk,hi=>by
  have hl:=h.1;rw[rfAt_succ (by omega)];by_cases he:i=k
  ·subst he;rcases rfStep_dig (s:=rfAt l i) (.inl hd)with h1|⟨h1,_⟩
   ·exact h1
   ·have:=digit_fits hd;omega
  ·have ih:=rfAt_dig h hd k (by omega) (by omega);rcases rfStep_dig (c:=atB l k) (.inr ih)with h1|⟨_,h1⟩
   ·exact h1
   ·rw[h1,ih]
theorem rf_pt {l:List UInt8} {k M N D:Nat} {P:Int} {dt dg tr:Bool} (h:rfAt l k=⟨M,N,D,P,dt,dg,tr⟩) (hk:k<l.length) (hc:(atB l k).toNat=46):rfAt l (k+1)=⟨M,N,D,D,true,dg,tr⟩:=by
 rw[rfAt_succ hk,h,rfStep,if_pos hc]
theorem rf_zero {l:List UInt8} {k M N D:Nat} {P:Int} {dt dg tr:Bool} (h:rfAt l k=⟨M,N,D,P,dt,dg,tr⟩) (hk:k<l.length) (hc:(atB l k).toNat=48) (hD:D=0):rfAt l (k+1)=⟨M,N,D,P-1,dt,true,tr⟩:=by
 rw[rfAt_succ hk,h,rfStep,if_neg (by omega),if_pos ⟨hc,hD⟩]
theorem rf_in {l:List UInt8} {k M N D:Nat} {P:Int} {dt dg tr:Bool} (h:rfAt l k=⟨M,N,D,P,dt,dg,tr⟩) (hk:k<l.length) (hc:digit (atB l k)=true) (hD: ¬((atB l k).toNat=48∧D=0)) (hN:N<19):
  rfAt l (k+1)=⟨M*10+((atB l k).toNat-48),N+1,D+1,P,dt,true,tr⟩:=by
 have:=digit_fits hc;rw[rfAt_succ hk,h,rfStep,if_neg (by omega),if_neg hD,if_pos hN]
theorem rf_out0 {l:List UInt8} {k M N D:Nat} {P:Int} {dt dg tr:Bool} (h:rfAt l k=⟨M,N,D,P,dt,dg,tr⟩) (hk:k<l.length) (hc:(atB l k).toNat=48) (hD: ¬((atB l k).toNat=48∧D=0)) (hN: ¬N<19):
  rfAt l (k+1)=⟨M,N,D+1,P,dt,true,tr⟩:=by
 have hb:((atB l k).toNat != 48)=false:=by rw[hc];rfl
 rw[rfAt_succ hk,h,rfStep,if_neg (by omega),if_neg hD,if_neg hN];simp only[hb,Bool.or_false]
theorem rf_out1 {l:List UInt8} {k M N D:Nat} {P:Int} {dt dg tr:Bool} (h:rfAt l k=⟨M,N,D,P,dt,dg,tr⟩) (hk:k<l.length) (hc:digit (atB l k)=true) (h48:(atB l k).toNat≠48) (hN: ¬N<19):
  rfAt l (k+1)=⟨M,N,D+1,P,dt,true,true⟩:=by
 have:=digit_fits hc;have hb:((atB l k).toNat != 48)=true:=by simpa using h48
 rw[rfAt_succ hk,h,rfStep,if_neg (by omega),if_neg (by omega),if_neg hN];simp only[hb,Bool.or_true]
def eStep (e:Nat) (c:UInt8):Nat:=if e<10000 then e*10+(c.toNat-48)else e
def eAt (l:List UInt8) (j k:Nat):Nat:=((l.drop j).take (k-j)).foldl eStep 0
theorem eAt_start (l:List UInt8) (j:Nat):eAt l j j=0:=by simp[eAt]
theorem eAt_succ {l:List UInt8} {j k:Nat} (hj:j≤k) (h:k<l.length):eAt l j (k+1)=eStep (eAt l j k) (atB l k):=by
 have hk:k-j<(l.drop j).length:=by simp;omega
 have:(l.drop j)[k-j]=atB l k:=by
  rw[List.getElem_drop,atB,List.getD_eq_getElem?_getD,List.getElem?_eq_getElem h];simp[show j+(k-j)=k by omega]
 rw[eAt,show k+1-j=k-j+1 by omega,List.take_succ_eq_append_getElem hk,List.foldl_append,this];rfl
theorem eStep_le (e:Nat) (c:UInt8) (h:e≤100009) (hc:digit c=true):eStep e c≤100009:=by
 have:=digit_fits hc;unfold eStep;split<;>omega
theorem eAt_le {l:List UInt8} {j:Nat}: ∀k,j≤k→k≤l.length→(∀i,j≤i→i<k→digit (atB l i)=true)→eAt l j k≤100009:=by
 intro k hj;induction k with
 |zero=>intro _ _;simp[eAt]
 |succ k ih=>
  intro hk h;by_cases he:j=k+1
  ·subst he;rw[eAt_start];omega
  ·rw[eAt_succ (by omega) (by omega)];exact eStep_le _ _ (ih (by omega) (by omega) fun i h1 h2=>h i h1 (by omega)) (h k (by omega) (by omega))
structure ExpOk (l:List UInt8) (m j:Nat) (neg:Bool):Prop where
 lt:m<l.length
 isE:isE (atB l m)=true
 sign:(j=m+1∧neg=false∧digit (atB l j)=true)∨(j=m+2∧neg=false∧(atB l (m+1)).toNat=43)∨(j=m+2∧neg=true∧(atB l (m+1)).toNat=45)
 some:j<l.length
 digs: ∀i,j≤i→i<l.length→digit (atB l i)=true
def rfExp (r:RF) (e:Int):Int:=if r.mant≠0 then(if r.dot then r.dp else(r.nd:Int))+e-(r.ndm:Int)else 0
structure DS where
 D:Nat→Nat
 nd:Nat
 dp:Int
 dot:Bool
def dsStep (s:DS) (c:UInt8):DS:=
 if c.toNat=46 then⟨s.D,s.nd,s.nd,true⟩
 else if c.toNat=48∧s.nd=0 then⟨s.D,s.nd,s.dp-1,s.dot⟩
 else⟨upd s.D s.nd c.toNat,s.nd+1,s.dp,s.dot⟩
def ds0:DS:=⟨fun _=>0,0,0,false⟩
def dsAt (l:List UInt8) (k:Nat):DS:=(l.take k).foldl dsStep ds0
theorem dsAt_zero (l:List UInt8):dsAt l 0=ds0:=rfl
theorem dsAt_succ {l:List UInt8} {k:Nat} (h:k<l.length):dsAt l (k+1)=dsStep (dsAt l k) (atB l k):=by
 have:l[k]=atB l k:=by rw[atB,List.getD_eq_getElem?_getD,List.getElem?_eq_getElem h];rfl
 rw[dsAt,List.take_succ_eq_append_getElem h,List.foldl_append,this];rfl
structure DSOk (k:Nat) (s:DS):Prop where
 nd:s.nd≤k
 dig:DigOk s.D s.nd
 dp: -(k:Int)≤s.dp∧s.dp≤k
theorem dsStep_ok {k:Nat} {s:DS} {c:UInt8} (h:DSOk k s) (hc:digit c=true∨c.toNat=46):DSOk (k+1) (dsStep s c):=by
 obtain⟨h1,h2,h3,h4⟩:=h;unfold dsStep;split
 ·exact⟨by show s.nd≤k+1;omega,h2,by constructor<;>(simp only;omega)⟩
 ·rename_i hn;have hd:=digit_fits (hc.resolve_right hn);split
  ·exact⟨by show s.nd≤k+1;omega,h2,by constructor<;>(simp only;omega)⟩
  ·rename_i hz;refine⟨by show s.nd+1≤k+1;omega,⟨fun i hi=>?_,fun _=>?_⟩,by constructor<;>(simp only;omega)⟩
   ·show 48≤upd s.D s.nd c.toNat i∧upd s.D s.nd c.toNat i≤57;unfold upd;split
    ·omega
    ·rename_i hne;exact h2.1 i (by simp only at hi;omega)
   ·show upd s.D s.nd c.toNat 0≠48;unfold upd;split
    ·omega
    ·exact h2.2 (by omega)
theorem dsAt_ok {l:List UInt8} {m:Nat} (h:MantOk l m): ∀k,k≤m→DSOk k (dsAt l k)
 |0,_=>⟨by simp[dsAt_zero,ds0],⟨fun i hi=>by simp[dsAt_zero,ds0]at hi,fun hi=>by simp[dsAt_zero,ds0]at hi⟩,by simp[dsAt_zero,ds0]⟩
 |k+1,hk=>by
  have hl:=h.1;rw[dsAt_succ (by omega)];refine dsStep_ok (dsAt_ok h k (by omega)) ?_;rcases h.2 k (by omega)with hd|hd
  ·exact .inl hd
  ·exact .inr hd.1
theorem dsStep_dot {s:DS} {c:UInt8} (h:c.toNat≠46):(dsStep s c).dot=s.dot:=by
 unfold dsStep;rw[if_neg h];split<;>rfl
theorem dsAt_dot {l:List UInt8}: ∀k,k≤l.length→(∀j,j<k→(atB l j).toNat≠46)→(dsAt l k).dot=false
 |0,_,_=>rfl
 |k+1,hk,h=>by
  rw[dsAt_succ (by omega),dsStep_dot (h k (by omega))];exact dsAt_dot k (by omega) fun j hj=>h j (by omega)
theorem ds_pt {l:List UInt8} {k N:Nat} {D:Nat→Nat} {P:Int} {dt:Bool} (h:dsAt l k=⟨D,N,P,dt⟩) (hk:k<l.length) (hc:(atB l k).toNat=46):dsAt l (k+1)=⟨D,N,N,true⟩:=by
 rw[dsAt_succ hk,h,dsStep,if_pos hc]
theorem ds_zero {l:List UInt8} {k:Nat} {D:Nat→Nat} {P:Int} {dt:Bool} (h:dsAt l k=⟨D,0,P,dt⟩) (hk:k<l.length) (hc:(atB l k).toNat=48):dsAt l (k+1)=⟨D,0,P-1,dt⟩:=by
 rw[dsAt_succ hk,h,dsStep,if_neg (by omega),if_pos ⟨hc,rfl⟩]
theorem ds_in {l:List UInt8} {k N:Nat} {D:Nat→Nat} {P:Int} {dt:Bool} (h:dsAt l k=⟨D,N,P,dt⟩) (hk:k<l.length) (hc:(atB l k).toNat≠46) (hz: ¬((atB l k).toNat=48∧N=0)):dsAt l (k+1)=⟨upd D N (atB l k).toNat,N+1,P,dt⟩:=by
 rw[dsAt_succ hk,h,dsStep,if_neg hc,if_neg hz]
def dsV (l:List UInt8) (mm:Nat) (e:Int):Dec:=⟨(dsAt l mm).D,(dsAt l mm).nd,(if (dsAt l mm).dot then(dsAt l mm).dp else((dsAt l mm).nd:Int))+e,false⟩
theorem dsV_ok {l:List UInt8} {mm:Nat} (h:MantOk l mm) (hm:mm≤700) {e:Int} (he: -100009≤e∧e≤100009):((dsV l mm e).nd=0∨(dsV l mm e).Ok)∧ -200000≤(dsV l mm e).dp∧(dsV l mm e).dp≤200000:=by
 have h1:=dsAt_ok h mm (Nat.le_refl _);have h2:=h1.nd;have h3:=h1.dp;refine⟨?_,?_⟩
 ·rcases Nat.eq_zero_or_pos (dsAt l mm).nd with h0|h0
  ·exact .inl h0
  ·exact .inr ⟨h1.dig,h0,by show (dsAt l mm).nd≤800;omega⟩
 ·unfold dsV;simp only;split<;>omega
def hx1:Nat→Nat→Int→Nat×Int
 |0,m,e=>(m,e)
 |f+1,m,e=>if m≠0∧m<18014398509481984 then hx1 f (m*2) (e-1)else(m,e)
theorem hx1_end {m:Nat} (h: ¬(m≠0∧m<18014398509481984)) (e:Int): ∀f,hx1 f m e=(m,e)
 |0=>rfl
 |f+1=>by rw[hx1,if_neg h]
def hx2:Nat→Nat→Int→Nat×Int
 |0,m,e=>(m,e)
 |f+1,m,e=>if 36028797018963968≤m then hx2 f (m/2|||m%2) (e+1)else(m,e)
theorem hx2_end {m:Nat} (h: ¬36028797018963968≤m) (e:Int): ∀f,hx2 f m e=(m,e)
 |0=>rfl
 |f+1=>by rw[hx2,if_neg h]
theorem hx1_spec: ∀(f m:Nat) (e:Int),(m≠0→18014398509481984≤m*2^f)→m<18446744073709551616→(hx1 f m e).1<18446744073709551616∧((hx1 f m e).1≠0→18014398509481984≤(hx1 f m e).1)∧e-f≤(hx1 f m e).2∧(hx1 f m e).2≤e
 |0,m,e,h,hm=>⟨hm,fun h0=>by have:=h h0;rw[hx1];simpa using this,by rw[hx1];simp,by rw[hx1];simp⟩
 |f+1,m,e,h,hm=>by
  rw[hx1];split
  ·rename_i h2;have:=hx1_spec f (m*2) (e-1) (fun _=>by have:=h h2.1;rw[Nat.pow_succ]at this;rw[Nat.mul_assoc,Nat.mul_comm 2];exact this) (by omega);refine⟨this.1,this.2.1,?_,?_⟩<;>omega
  ·rename_i h2;refine⟨hm,fun h0=>?_,by simp only;omega,Int.le_refl _⟩;simp only at h0 ⊢
   omega
theorem half_or {m n:Nat} (h:m<2*2^n) (hn:1≤n):m/2|||m%2<2^n:=by
 apply Nat.or_lt_two_pow
 ·omega
 ·have:(2:Nat)^1≤2^n:=Nat.pow_le_pow_right (by omega) hn;omega
theorem hx2_spec: ∀(f m:Nat) (e:Int),m<2^(55+f)→(hx2 f m e).1<36028797018963968∧e≤(hx2 f m e).2∧(hx2 f m e).2≤e+f
 |0,m,e,h=>⟨by rw[hx2];simpa using h,by rw[hx2];simp,by rw[hx2];simp⟩
 |f+1,m,e,h=>by
  rw[hx2];split
  ·have:=hx2_spec f (m/2|||m%2) (e+1) (half_or (by rw[show 55+(f+1)=(55+f)+1 by omega,Nat.pow_succ]at h;omega) (by omega));refine⟨this.1,?_,?_⟩<;>omega
  ·rename_i h2;refine⟨by simp only;omega,Int.le_refl _,by simp only;omega⟩
def hxR (m:Nat):Nat:=(m&&&3)|||(m/4%2)
def hxOut (m:Nat) (e:Int):Nat×Bool:=if 1023<e then((fbBits 4503599627370496 2047).toNat,true)else((fbBits m (e+1023)).toNat,false)
def hxDen (m:Nat) (e:Int):Nat×Bool:=if m<4503599627370496 then hxOut m (-1023)else hxOut m e
def hxRnd (m:Nat) (e:Int):Nat×Bool:=
 if hxR m=3 then(if m/4+1=9007199254740992 then hxDen 4503599627370496 (e+3)else hxDen (m/4+1) (e+2))else hxDen (m/4) (e+2)
def hxTr (m:Nat) (tr:Bool):Nat:=if tr=true then m|||1 else m
def hxV (m:Nat) (p:Int) (tr:Bool):Nat×Bool:=
 hxRnd (hx2 9 (hxTr (hx1 54 m (p+52)).1 tr) (hx1 54 m (p+52)).2).1 (hx2 9 (hxTr (hx1 54 m (p+52)).1 tr) (hx1 54 m (p+52)).2).2
structure RX where
 mant:Nat
 ndm:Nat
 nd:Nat
 tr:Bool
def hexV (c:UInt8):Nat:=if digit c=true then c.toNat-48 else(c.toNat|||32)-87
def rxStep (s:RX) (c:UInt8):RX:=
 if c.toNat=48∧s.nd=0 then s
 else if s.ndm<16 then⟨s.mant*16+hexV c,s.ndm+1,s.nd+1,s.tr⟩
 else⟨s.mant,s.ndm,s.nd+1,s.tr||c.toNat != 48⟩
def rxAt (l:List UInt8) (k:Nat):RX:=((l.drop 2).take (k-2)).foldl rxStep ⟨0,0,0,false⟩
theorem rxAt_two (l:List UInt8):rxAt l 2=⟨0,0,0,false⟩:=by simp[rxAt]
theorem rxAt_succ {l:List UInt8} {k:Nat} (hj:2≤k) (h:k<l.length):rxAt l (k+1)=rxStep (rxAt l k) (atB l k):=by
 have hk:k-2<(l.drop 2).length:=by simp;omega
 have:(l.drop 2)[k-2]=atB l k:=by
  rw[List.getElem_drop,atB,List.getD_eq_getElem?_getD,List.getElem?_eq_getElem h];simp[show 2+(k-2)=k by omega]
 rw[rxAt,show k+1-2=k-2+1 by omega,List.take_succ_eq_append_getElem hk,List.foldl_append,this];rfl
theorem hexd_low: ∀c:UInt8,hexd c=true→digit c=false→97≤c.toNat|||32∧c.toNat|||32≤102:=by
 have: ∀n:Fin 256,hexd (UInt8.ofNat n.val)=true→digit (UInt8.ofNat n.val)=false→97≤(UInt8.ofNat n.val).toNat|||32∧(UInt8.ofNat n.val).toNat|||32≤102:=by decide+kernel
 intro c h1 h2;have hc:UInt8.ofNat c.toNat=c:=by simp
 have:=this ⟨c.toNat,UInt8.toNat_lt c⟩;simp only[hc]at this;exact this h1 h2
theorem hexV_lt (c:UInt8) (h:hexd c=true):hexV c<16:=by
 unfold hexV;split
 ·rename_i hd;have:=digit_fits hd;omega
 ·rename_i hd;have:=hexd_low c h (by simpa using hd);omega
structure RXOk (k:Nat) (s:RX):Prop where
 ndm:s.ndm≤16∧s.ndm≤s.nd∧s.nd≤k
 mant:s.mant<16^s.ndm
def HexOk (l:List UInt8) (m:Nat):Prop:=m≤l.length∧ ∀i,2≤i→i<m→hexd (atB l i)=true
theorem rxAt_ok {l:List UInt8} {m:Nat} (h:HexOk l m): ∀k,2≤k→k≤m→RXOk k (rxAt l k):=by
 intro k hk;induction k with
 |zero=>omega
 |succ k ih=>
  intro hm;have hl:=h.1;by_cases he:k+1=2
  ·rw[he,rxAt_two];exact⟨⟨by simp,by simp,by simp⟩,by simp⟩
  ·have ih:=ih (by omega) (by omega);have hv:=hexV_lt _ (h.2 k (by omega) (by omega));rw[rxAt_succ (by omega) (by omega)];cases hr:rxAt l k with
   |mk M N D T=>
    rw[hr]at ih;obtain⟨⟨h1,h2,h3⟩,h4⟩:=ih;simp only at h1 h2 h3 h4;unfold rxStep;split
    ·exact⟨⟨h1,h2,by show D≤k+1;omega⟩,h4⟩
    ·split
     ·refine⟨⟨by show N+1≤16;simp only at*;omega,by show N+1≤D+1;omega,by show D+1≤k+1;omega⟩,?_⟩;show M*16+_<16^(N+1);rw[Nat.pow_succ];omega
     ·exact⟨⟨h1,by show N≤D+1;omega,by show D+1≤k+1;omega⟩,h4⟩
theorem rx_same {l:List UInt8} {k M N D:Nat} {tr:Bool} (h:rxAt l k=⟨M,N,D,tr⟩) (hj:2≤k) (hk:k<l.length) (hc:(atB l k).toNat=48) (hD:D=0):rxAt l (k+1)=⟨M,N,D,tr⟩:=by
 rw[rxAt_succ hj hk,h,rxStep,if_pos ⟨hc,hD⟩]
theorem rx_in {l:List UInt8} {k M N D:Nat} {tr:Bool} (h:rxAt l k=⟨M,N,D,tr⟩) (hj:2≤k) (hk:k<l.length) (hD: ¬((atB l k).toNat=48∧D=0)) (hN:N<16):rxAt l (k+1)=⟨M*16+hexV (atB l k),N+1,D+1,tr⟩:=by
 rw[rxAt_succ hj hk,h,rxStep,if_neg hD,if_pos hN]
theorem rx_out0 {l:List UInt8} {k M N D:Nat} {tr:Bool} (h:rxAt l k=⟨M,N,D,tr⟩) (hj:2≤k) (hk:k<l.length) (hc:(atB l k).toNat=48) (hD: ¬((atB l k).toNat=48∧D=0)) (hN: ¬N<16):rxAt l (k+1)=⟨M,N,D+1,tr⟩:=by
 have hb:((atB l k).toNat != 48)=false:=by rw[hc];rfl
 rw[rxAt_succ hj hk,h,rxStep,if_neg hD,if_neg hN];simp only[hb,Bool.or_false]
theorem rx_out1 {l:List UInt8} {k M N D:Nat} {tr:Bool} (h:rxAt l k=⟨M,N,D,tr⟩) (hj:2≤k) (hk:k<l.length) (hc:(atB l k).toNat≠48) (hN: ¬N<16):rxAt l (k+1)=⟨M,N,D+1,true⟩:=by
 have hb:((atB l k).toNat != 48)=true:=by simpa using hc
 rw[rxAt_succ hj hk,h,rxStep,if_neg (by omega),if_neg hN];simp only[hb,Bool.or_true]
def absB (x:Nat):Nat:=x%18446744073709551616&&&9223372036854775807
def isInfB (x:Nat):Bool:=(FloatKind.f64.format.order (absB x) 9218868437227405311==some .gt)
structure SM where
 n:Nat
 behind:Nat
 point:Bool
def smStep (s:SM) (c:UInt8):SM:=
 if c.toNat=46 then⟨s.n,s.behind,true⟩
 else⟨s.n*10+(c.toNat-48),if s.point=true then s.behind+1 else s.behind,s.point⟩
def smAt (l:List UInt8) (k:Nat):SM:=(l.take k).foldl smStep ⟨0,0,false⟩
def plainNumB (l:List UInt8):Bool:=l.all fun c=>digit c||c.toNat==46
def smallB (l:List UInt8):Bool:=decide (l.length≤15)&&plainNumB l
def smallV (l:List UInt8):Nat:=divW (floatOfInt .f64 ((smAt l l.length).n:Int)) (p10W (smAt l l.length).behind)
def hexW (l:List UInt8):Nat:=
 (hxV (rxAt l l.length).mant (if (rxAt l l.length).mant≠0 then 4*((rxAt l l.length).nd:Int)-4*((rxAt l l.length).ndm:Int)else 0) (rxAt l l.length).tr).1
def mEnd (l:List UInt8):Nat:=(l.takeWhile fun c=> !isE c).length
def eSgn (l:List UInt8):Bool:=(atB l (mEnd l+1)).toNat==45
def eDig (l:List UInt8):Nat:=if (atB l (mEnd l+1)).toNat=43∨(atB l (mEnd l+1)).toNat=45 then mEnd l+2 else mEnd l+1
def eVal (l:List UInt8):Int:=if mEnd l<l.length then(if eSgn l=true then-(eAt l (eDig l) l.length:Int)else(eAt l (eDig l) l.length:Int))else 0
def decW (d:Nat) (p:Int) (tr:Bool) (full:Dec):Nat:=
 if d=0 then 0
 else if 310<p then infW
 else if p< -345 then 0
 else if tr=true then(if (FloatKind.f64.format.order (pf64 d p) (pf64 (d+1) p)==some .eq)=true then pf64 d p else(fbV full).1.toNat)
 else match exactW d p with|some x=>x|none=>pf64 d p
def decL (l:List UInt8):Nat:=decW (rfAt l (mEnd l)).mant (rfExp (rfAt l (mEnd l)) (eVal l)) (rfAt l (mEnd l)).tr (dsV l (mEnd l) (eVal l))
def numVal (l:List UInt8):Nat:=if smallB l=true then smallV l else if isX (atB l 1)=true then hexW l else decL l
def infnan (t:List UInt8):Bool:=(t.take 4).map low==[105,110,102]||(t.take 4).map low==[110,97,110]
def nameTok (br:Bool) (t:List UInt8):Nat:=if t.contains 58 then 2 else if !br&&infnan t then 3 else 1
def headPart (l:List UInt8):List UInt8:=l.takeWhile fun c=> !isE c
def decVal (l:List UInt8):Nat:=l.foldl (fun n c=>n*10+(c.toNat-48)) 0
def mant (l:List UInt8):Nat:=decVal ((headPart l).filter digit)
def behind (l:List UInt8):Nat:=((headPart l).dropWhile fun c=>c.toNat != 46).length-1
def huge (l:List UInt8):Bool:= !smallB l&&isInfB (numVal l)
def isWord3 (l:List UInt8) (a b c:Nat):Bool:=l.length==3&&((atB l 0).toNat|||32)==a&&((atB l 1).toNat|||32)==b&&((atB l 2).toNat|||32)==c
def numErr (l:List UInt8):Nat:=
 if 512<l.length then 1
 else if isWord3 l 105 110 102||isWord3 l 110 97 110 then 0
 else if l=[]∨numPrefix l≠l.length then 20
 else if huge l then 21 else 0
inductive TokR where
 |bad (e:Nat)
 |tok (kind n:Nat) (br sq:Bool)
def numKind (l:List UInt8):Nat:=if numPrefix l<spanPrefix l then 4 else 3
def numLen (l:List UInt8):Nat:=if numPrefix l<spanPrefix l then spanPrefix l else numPrefix l
def numFault (l:List UInt8):Bool:=decide (numLen l<l.length)&&(letter (atB l (numLen l))||digit (atB l (numLen l))||(atB l (numLen l)).toNat==46)
def numBad (l:List UInt8):Nat:=if numPrefix l<spanPrefix l then(spanParse (l.take (numLen l))).2 else numErr (l.take (numLen l))
def numberR (l:List UInt8) (br sq:Bool):TokR:=if numFault l=true then .bad 112 else if numBad l≠0 then .bad 112 else .tok (numKind l) (numLen l) br sq
theorem numLen_le (l:List UInt8):numLen l≤l.length:=by
 unfold numLen;split
 ·exact spanPrefix_le l
 ·exact numPrefix_le l
theorem bneF {n:Nat} (h:((n:Int) != 0)=false):n=0:=by
 have:(n:Int)=0:=by simpa using h
 omega
theorem bneT {n:Nat} (h:((n:Int) != 0)=true):n≠0:=by
 have: ¬(n:Int)=0:=by simpa using h
 omega
theorem numFault_in {t:ByteArray} {n:Nat} (hn:numLen t.data.toList=n) (h:n<t.size):numFault t.data.toList=(letter t[n]||digit t[n]||(t[n].toNat==46)):=by
 rw[numFault,hn,len_data,decide_eq_true h,Bool.true_and,atB_lt h]
theorem numFault_out {t:ByteArray} {n:Nat} (hn:numLen t.data.toList=n) (h: ¬n<t.size):numFault t.data.toList=false:=by
 rw[numFault,hn,len_data,decide_eq_false h,Bool.false_and]
theorem numberR_fault {l:List UInt8} {br sq:Bool} (h:numFault l=true):numberR l br sq= .bad 112:=by rw[numberR,if_pos h]
theorem numberR_bad {l:List UInt8} {br sq:Bool} (h:numFault l=false) (h2:numBad l≠0):numberR l br sq= .bad 112:=by
 rw[numberR,h,if_neg (by simp),if_pos h2]
theorem numberR_ok {l:List UInt8} {br sq:Bool} {k n:Nat} (hk:numKind l=k) (hn:numLen l=n) (h:numFault l=false) (h2:numBad l=0):numberR l br sq= .tok k n br sq:=by
 rw[numberR,h,if_neg (by simp),if_neg (by omega),hk,hn]
theorem num_span {l:List UInt8} {sp:Nat} (hs:spanPrefix l=sp) (h:numPrefix l<sp):numKind l=4∧numLen l=sp∧numBad l=(spanParse (l.take sp)).2:=by
 subst hs;refine⟨?_,?_,?_⟩
 ·rw[numKind,if_pos h]
 ·rw[numLen,if_pos h]
 ·rw[numBad,if_pos h,numLen,if_pos h]
theorem num_num {l:List UInt8} {np:Nat} (hn:numPrefix l=np) (h: ¬np<spanPrefix l):numKind l=3∧numLen l=np∧numBad l=numErr (l.take np):=by
 subst hn;refine⟨?_,?_,?_⟩
 ·rw[numKind,if_neg h]
 ·rw[numLen,if_neg h]
 ·rw[numBad,if_neg h,numLen,if_neg h]
def ops2:List (List UInt8):=[[61,61],[33,61],[61,126],[33,126],[60,61],[62,61]]
def op2 (l:List UInt8):Bool:=decide (1<l.length)&&ops2.contains (l.take 2)
def ops1:List Nat:=[40,41,44,58,61,60,62,43,45,42,47,37,94,64]
def opR (l:List UInt8) (br sq:Bool):TokR:=
 if op2 l=true then .tok 6 2 br sq
 else if (atB l 0).toNat=123 then .tok 6 1 true sq
 else if (atB l 0).toNat=125 then .tok 6 1 false sq
 else if (atB l 0).toNat=91 then .tok 6 1 br true
 else if (atB l 0).toNat=93 then .tok 6 1 br false
 else if ops1.contains (atB l 0).toNat=true then .tok 6 1 br sq
 else .bad 110
theorem opR_two {l:List UInt8} {br sq:Bool} (h:op2 l=true):opR l br sq= .tok 6 2 br sq:=by rw[opR,if_pos h]
theorem opR_one {l:List UInt8} {br sq:Bool} (h:op2 l=false) {c:Nat} (hc:(atB l 0).toNat=c):opR l br sq=
  if c=123 then .tok 6 1 true sq else if c=125 then .tok 6 1 false sq else if c=91 then .tok 6 1 br true else if c=93 then .tok 6 1 br false
  else if ops1.contains c=true then .tok 6 1 br sq else .bad 110:=by
 rw[opR,h,hc,if_neg (by simp)]
def strR (l:List UInt8) (br sq:Bool):TokR:=
 match litEnd l 0 with
 |none=>.bad 111
 |some n=>if (unquote (l.take n)).1=0 then .tok 5 n br sq else .bad 111
def tokenR (l:List UInt8) (br sq:Bool):TokR:=
 if letter (atB l 0)=true then .tok (nameTok br (l.take (spanEnd (nameCh (!br&& !sq)) l 0))) (spanEnd (nameCh (!br&& !sq)) l 0) br sq
 else if (atB l 0).toNat=58∧(!br&& !sq)=true then .tok 2 (spanEnd (nameCh true) l 1) br sq
 else if digit (atB l 0)=true∨((atB l 0).toNat=46∧1<l.length∧digit (atB l 1)=true)then numberR l br sq
 else if isQuote (atB l 0)=true then strR l br sq
 else opR l br sq
theorem litGo_le (q : UInt8) : ∀ (l : List UInt8) (n : Nat), litGo q l = some n → 1 ≤ n ∧ n ≤ l.length
  | [], n, h => by simp [litGo] at h
  | [c], n, h => by
    simp only[litGo]at h
    split at h
    · simp at h; subst h; simp
    · simp at h
  | c :: d :: r, n, h => by
    simp only[litGo]at h
    split at h
    · simp at h; subst h; simp
    · split at h
      · obtain ⟨m, hm, rfl⟩ := Option.map_eq_some_iff.1 h
        have:=litGo_le q (d::r) m hm
        simp at*;omega
      · split at h
        · simp at h
        · split at h
          · split at h
            · simp at h
            · obtain ⟨m, hm, rfl⟩ := Option.map_eq_some_iff.1 h
              have:=litGo_le q r m hm
              simp at*;omega
          · obtain ⟨m, hm, rfl⟩ := Option.map_eq_some_iff.1 h
            have:=litGo_le q (d::r) m hm
            simp at*;omega
theorem litEnd_le {l:List UInt8} {i n:Nat} (h:litEnd l i=some n):i+2≤n∧n≤l.length:=by
 unfold litEnd at h;split at h
 ·obtain⟨m,hm,rfl⟩:=Option.map_eq_some_iff.1 h;have:=litGo_le _ _ m hm;simp at this;omega
 ·simp at h
theorem atB_drop (l:List UInt8) (i j:Nat):atB (l.drop i) j=atB l (i+j):=by
 simp[atB,List.getD_eq_getElem?_getD]
theorem litEnd_drop (l:List UInt8) (i:Nat):litEnd l i=(litEnd (l.drop i) 0).map (· +i):=by
 rw[litEnd,litEnd,atB_drop,List.drop_drop,List.length_drop];by_cases h:i<l.length∧isQuote (atB l i)=true
 ·rw[if_pos h,if_pos ⟨by omega,h.2⟩];cases litGo (atB l i) (l.drop (i+1))
  ·rfl
  ·simp;omega
 ·rw[if_neg h,if_neg (by intro h2;exact h ⟨by omega,h2.2⟩)];rfl
structure Tok where
 kind:Nat
 text:List UInt8
 pos:Nat
def isBl (c:UInt8):Bool:=c.toNat==9||c.toNat==10||c.toNat==13||c.toNat==32
def notNl (c:UInt8):Bool:=c.toNat != 10
def remark (l:List UInt8):Nat:=min (spanEnd notNl l 0+1) l.length
def scanL:Nat→List UInt8→Nat→Bool→Bool→List Tok×Option (Nat×Nat)
 |0,_,_,_,_=>([],none)
 |f+1,l,p,br,sq=>
  if l=[]then([],none)
  else if isBl (atB l 0)=true then scanL f (l.drop 1) (p+1) br sq
  else if (atB l 0).toNat=35 then scanL f (l.drop (remark l)) (p+remark l) br sq
  else match tokenR l br sq with
   | .bad e=>([],some (p,e))
   | .tok k n b q=>(⟨k,l.take n,p⟩::(scanL f (l.drop n) (p+n) b q).1,(scanL f (l.drop n) (p+n) b q).2)
def scanF (l:List UInt8) (p:Nat) (br sq:Bool):List Tok×Option (Nat×Nat):=scanL l.length l p br sq
theorem nil_len {l:List UInt8} (h:l≠[]):0<l.length:=List.length_pos_iff.2 h
theorem remark_pos {l:List UInt8} (h:l≠[]):1≤remark l∧remark l≤l.length:=by
 have:=nil_len h;unfold remark;omega
theorem spanEnd_first {p:UInt8→Bool} {l:List UInt8} (h:l≠[]) (hp:p (atB l 0)=true):1≤spanEnd p l 0:=by
 cases l with
 |nil=>exact absurd rfl h
 |cons c r=>
  have hp':p c=true:=hp;simp[spanEnd,List.takeWhile_cons,hp']
theorem numPrefix_digit {l:List UInt8} (h:l≠[]) (hd:digit (atB l 0)=true∨((atB l 0).toNat=46∧1<l.length∧digit (atB l 1)=true)):1≤numPrefix l:=by
 unfold numPrefix;split
 ·have:=spanEnd_ge hexd l 2;omega
 ·have h1:1≤decEnd l:=by
   rcases hd with hd|⟨h1,h2,h3⟩
   ·have hs:=spanEnd_first h hd;unfold decEnd;split
    ·have:=spanEnd_ge digit l (spanEnd digit l 0+1);omega
    ·rw[if_neg (by omega)];exact hs
   ·have h0:spanEnd digit l 0=0:=by
     cases l with
     |nil=>exact absurd rfl h
     |cons c r=>
      have:digit c=false:=by
       have h1':c.toNat=46:=h1;simp[digit,h1']
      simp[spanEnd,List.takeWhile_cons,this]
    rw[decEnd,h0,if_neg (by omega),if_pos ⟨rfl,h2,h1,h3⟩];exact spanEnd_ge digit l 1
  rw[if_neg (by omega)];have:=expEnd_le l (decEnd l) (decEnd_le l);omega
theorem tokenR_pos {l:List UInt8} {br sq b q:Bool} {k n:Nat} (h:l≠[]) (ht:tokenR l br sq= .tok k n b q):1≤n∧n≤l.length:=by
 have hl:=nil_len h;unfold tokenR at ht;split at ht
 ·rename_i h1;injection ht with _ h2
  subst h2;exact⟨spanEnd_first h (nameCh_letter h1),spanEnd_le _ l 0 (Nat.zero_le _)⟩
 ·split at ht
  ·injection ht with _ h2
   subst h2;exact⟨spanEnd_ge _ l 1,spanEnd_le _ l 1 hl⟩
  ·split at ht
   ·rename_i h1;have hp:=numPrefix_digit h h1;have hle:=numLen_le l;unfold numberR at ht;split at ht
    ·cases ht
    ·split at ht
     ·cases ht
     ·injection ht with _ h2
      subst h2;refine⟨?_,hle⟩;unfold numLen;split<;>omega
   ·split at ht
    ·unfold strR at ht;split at ht
     ·cases ht
     ·rename_i m hm;have:=litEnd_le hm;split at ht
      ·injection ht with _ h2
       omega
      ·cases ht
    ·unfold opR at ht;split at ht
     ·rename_i h2;simp[op2]at h2;injection ht with _ h3
      omega
     ·repeat' split at ht
      all_goals first
       |(injection ht with _ h3;omega)
       |cases ht
theorem scanL_fuel : ∀ (f g : Nat) (l : List UInt8) (p : Nat) (br sq : Bool), l.length ≤ f → l.length ≤ g → scanL f l p br sq = scanL g l p br sq
  | 0, g, l, p, br, sq, hf, _ => by
    have:l=[]:=List.eq_nil_of_length_eq_zero (by omega)
    subst this
    cases g<;>simp[scanL]
  | f + 1, 0, l, p, br, sq, _, hg => by
    have:l=[]:=List.eq_nil_of_length_eq_zero (by omega)
    subst this
    simp[scanL]
  | f + 1, g + 1, l, p, br, sq, hf, hg => by
    rw[scanL,scanL]
    by_cases h:l=[]
    · rw [if_pos h, if_pos h]
    · have hl := nil_len h
      have hr:=remark_pos h
      rw[if_neg h,if_neg h,scanL_fuel f g (l.drop 1) _ _ _ (by simp;omega) (by simp;omega),scanL_fuel f g (l.drop (remark l)) _ _ _ (by simp;omega) (by simp;omega)]
      cases ht:tokenR l br sq with
      | bad e => rfl
      | tok k n b q =>
        have hn:=tokenR_pos h ht
        dsimp only
        rw[scanL_fuel f g (l.drop n) _ _ _ (by simp;omega) (by simp;omega)]
theorem scanF_nil (p:Nat) (br sq:Bool):scanF [] p br sq=([],none):=rfl
theorem scanF_eq {l:List UInt8} (h:l≠[]) (p:Nat) (br sq:Bool):scanF l p br sq=
  if isBl (atB l 0)=true then scanF (l.drop 1) (p+1) br sq
  else if (atB l 0).toNat=35 then scanF (l.drop (remark l)) (p+remark l) br sq
  else match tokenR l br sq with
   | .bad e=>([],some (p,e))
   | .tok k n b q=>(⟨k,l.take n,p⟩::(scanF (l.drop n) (p+n) b q).1,(scanF (l.drop n) (p+n) b q).2):=by
 have hl:=nil_len h;have hr:=remark_pos h;obtain⟨f,hf⟩: ∃f,l.length=f+1:=⟨l.length-1,by omega⟩;unfold scanF;rw[hf,scanL,if_neg h,scanL_fuel f (l.drop 1).length (l.drop 1) _ _ _ (by simp;omega) (Nat.le_refl _),scanL_fuel f (l.drop (remark l)).length (l.drop (remark l)) _ _ _ (by simp;omega) (Nat.le_refl _)];cases ht:tokenR l br sq with
 |bad e=>rfl
 |tok k n b q=>
  have hn:=tokenR_pos h ht;dsimp only;rw[scanL_fuel f (l.drop n).length (l.drop n) _ _ _ (by simp;omega) (Nat.le_refl _)]
theorem scanF_blank {l:List UInt8} (h:l≠[]) (hb:isBl (atB l 0)=true) (p:Nat) (br sq:Bool):scanF l p br sq=scanF (l.drop 1) (p+1) br sq:=by
 rw[scanF_eq h,if_pos hb]
theorem bl35 {c:UInt8} (h:c.toNat=35):isBl c=false:=by simp[isBl,h]
theorem scanF_remark {l:List UInt8} (h:l≠[]) (hc:(atB l 0).toNat=35) (p:Nat) (br sq:Bool):scanF l p br sq=scanF (l.drop (remark l)) (p+remark l) br sq:=by
 rw[scanF_eq h,bl35 hc,if_neg (by simp),if_pos hc]
theorem scanF_bad {l:List UInt8} (h:l≠[]) {br sq:Bool} {e:Nat} (hb:isBl (atB l 0)=false) (hc:(atB l 0).toNat≠35) (ht:tokenR l br sq= .bad e) (p:Nat):scanF l p br sq=([],some (p,e)):=by
 rw[scanF_eq h,hb,if_neg (by simp),if_neg hc,ht]
theorem scanF_tok {l:List UInt8} (h:l≠[]) {br sq b q:Bool} {k n:Nat} (hb:isBl (atB l 0)=false) (hc:(atB l 0).toNat≠35) (ht:tokenR l br sq= .tok k n b q) (p:Nat):
  scanF l p br sq=(⟨k,l.take n,p⟩::(scanF (l.drop n) (p+n) b q).1,(scanF (l.drop n) (p+n) b q).2):=by
 rw[scanF_eq h,hb,if_neg (by simp),if_neg hc,ht]
end Go.Proofs.YtibcjfjacielbaaGreatDoor
