import Derived.Test.YtcdoilkjmjbgmaaGreatDoorS20
import Derived.Deep.CutBlock
import Derived.Deep.LoopGhost
/- Part of the proof of YtcdoilkjmjbgmaaGreatDoorCardY: DecB DecC DecD DecE DecF. -/
set_option maxRecDepth 100000
set_option maxHeartbeats 4000000
set_option linter.unusedVariables false
set_option linter.unusedSimpArgs false
namespace Go.Proofs.YtcdoilkjmjbgmaaGreatDoor
open Go.RowKit
open Go.Proofs.Tryz
variable {a b:Int} {D:Nat→Nat} {nd k r n K d F i C B M:Nat} {l:List UInt8} {w w':World} {S:cM}
theorem iB {k:IntKind} (h:a=b):Value.int k a=Value.int k b:=by rw[h]
theorem Ry (h:js D nd) (hn:0<nd) (hk:k≤60) (aA:pre D nd r<2^k):r≤20∧pre D nd r<1152921504606846976:=by
 have h60:(2:Nat)^k≤2^60:=dZ (by omega) hk;refine⟨?_,by omega⟩;rcases dE r 21 with h1|h1
 ·omega
 ·exfalso;obtain⟨q,rfl⟩: ∃q,r=q+1:=⟨r-1,by omega⟩;have h2:=lN h hn q;have h3:(10:Nat)^20≤10^q:=dZ (by omega) (by omega);omega
theorem He (hK:0<K):(((n/K:Nat):Int)==0)= !decide (K≤n):=by
 by_cases h:K≤n
 ·have:1≤n/K:=(Nat.one_le_div_iff hK).2 h;rw[dO h,bN.2 (by omega)];rfl
 ·rw[tp (by omega),gj h];rfl
theorem Zk (hn:n<1152921504606846976) (h1:48≤d) (h2:d≤57):IntKind.u64.wrap (IntKind.u64.wrap ((n:Int)*10+IntKind.u64.wrap (d:Int))-48)=((n*10+(d-48):Nat):Int):=by
 simp only[cZ];omega
theorem Rz (hn:n<1152921504606846976):IntKind.u64.wrap ((n:Int)*10)=((n*10:Nat):Int):=by
 simp only[cZ];omega
theorem gV (h:r<F):F-(intOf (.int .i64 ((r:Int)+1))).toNat<F-(intOf (.int .i64 (r:Int))).toNat:=by
 have h1:(intOf (.int .i64 ((r:Int)+1))).toNat=r+1:=rfl;have h2:(intOf (.int .i64 (r:Int))).toNat=r:=rfl;rw[h1,h2];exact Nat.sub_lt_sub_left h (vu r)
theorem V1 (h0:0<K) (h:K≤1152921504606846976):IntKind.u64.wrap (IntKind.u64.wrap (K:Int)-1)=((K-1:Nat):Int):=by
 simp only[cZ];omega
theorem wF (h:d≤9):IntKind.u64.wrap ((d:Int)+48)%256=((48+d:Nat):Int):=by
 simp only[cZ];omega
theorem V2 (hn:n%K<1152921504606846976) (h1:48≤d) (h2:d≤57):IntKind.u64.wrap (IntKind.u64.wrap (IntKind.u64.wrap ((n:Int)%(K:Int)*10)+IntKind.u64.wrap (d:Int))-48)=((n%K*10+(d-48):Nat):Int):=by
 have e:(n:Int)%(K:Int)=((n%K:Nat):Int):=by simp
 rw[e];generalize n%K=m at hn ⊢
 simp only[cZ];omega
theorem uJ (hn:n%K<1152921504606846976):IntKind.u64.wrap ((n:Int)%(K:Int)*10)=((n%K*10:Nat):Int):=by
 have e:(n:Int)%(K:Int)=((n%K:Nat):Int):=by simp
 rw[e];generalize n%K=m at hn ⊢
 simp only[cZ];omega
theorem JK (hK:K=2^k) (h0:0<K):(((n:Nat):Int)/2^k==0)= !decide (K≤n):=by
 rw[←He h0,hK];simp
theorem Df (w:World) (B g:Nat) (D:Nat→Nat) (nd k:Nat) (dp:Int) (neg tr:Bool) (h:bu w g D nd dp neg tr) (hd:js D nd) (hn:0<nd) (qM:nd≤800) (mP:1≤k) (hk:k≤60) (tV: -1000000000000≤dp∧dp≤1000000000000) (hB:B≤g):
  Calls prog 238 #[.pointer (some ⟨g,0,none⟩),.int .u64 (k:Int)] w fun e w'=>e= .returned (.tuple #[])∧bu w' g (xk D nd k) (Ds D nd k) (PN D nd k dp) neg (XO D nd k tr)∧Below B w w':=by
 have H:=ae h;have HD:=ae hd;obtain⟨K,yg⟩: ∃K,K=2^k:=⟨_,rfl⟩;have hK0:0<K:=by rw[yg];exact eZ (by omega)
 have HK:=ae yg;have aby:K≤1152921504606846976:=by rw[yg];exact dZ (by omega) hk
 have Ph:((2:Int)^min k 64)=(K:Int):=by rw[mS (by omega),yg];simp
 have iA: ∀r,tC D nd k r=decide (K≤pre D nd r):=fun r=>by rw[tC,yg]
 obtain⟨R0,hR0⟩: ∃R,R=AF D nd k:=⟨_,rfl⟩;obtain⟨P,hP⟩: ∃P:Nat→Nat,P=pre D nd:=⟨_,rfl⟩;have hPs: ∀r,P (r+1)=P r*10+sa D nd r:=fun r=>by rw[hP];rfl
 have hP0:P 0=0:=by rw[hP];rfl
 have o3: ∀r,P r<K→r≤20∧P r<1152921504606846976:=fun r hr=>by rw[hP]at hr ⊢;exact Ry hd hn hk (by rw[←yg];exact hr)
 have pc: ∀r,0<r→P r≠0:=fun r hr=>by
  obtain⟨q,rfl⟩: ∃q,r=q+1:=⟨r-1,by omega⟩;have:=lN hd hn q;rw[hP];have h1:0<10^q:=eZ (by omega);omega
 have NV:=ae hPs;have HP0:=ae hP0;have sR:=ae o3;have aky:=ae pc;have Yb:=ae iA;have ZJ:=ae hR0;have HP:=ae hP;clear h hd yg hR0 hP hPs hP0 o3 pc iA;go_enter func238,ntmps238;go_upto_block 0 with fail
 go_cut [4,6,7]from 12 to 48 (fun t4 t6 t7 wx=>t4= .int .i64 (R0:Int)∧t6= .int .u64 (P R0:Int)∧Hid (K≤P R0∧P R0<10*K∧1≤R0∧R0≤21)∧wx=w)
 case first=>
  go_wp2_with fail;go_loopw [4,6,7] (fun t4 t6 t7 wr=> ∃r:Nat,Hid (pj (tC D nd k) (1000-r) r=R0∧r≤21∧P r<10*K∧(r=0→True))∧t4= .int .i64 (r:Int)∧t6= .int .u64 (P r:Int)∧wr=w) (fun t4 _ _ _=>1000-(intOf t4).toNat)
  case atStart=>exact⟨0,ae ⟨by rw[ZJ.out];rfl,by omega,by rw[HP0.out];omega,fun _=>trivial⟩,rfl,by rw[HP0.out];rfl,rfl⟩
  case round=>
   obtain⟨r,hI,rfl,rfl,rfl⟩:=hrel;have hz:=JK (n:=P r) HK.out hK0;have d0:=H.out.nd;by_cases lW:K≤P r
   ·rw[dO lW]at hz;have HZ:=ae (show R0=r by
     rw[←hI.out.1];exact Bv (by have:=hI.out.2.1;omega) (by rw[Yb.out,←HP.out];exact dO lW))
    go_wp2_with fail;go_meet;rw[HZ.out];exact⟨rfl,rfl,ae ⟨lW,hI.out.2.2.1,by
     rcases jL r with h|h
     ·rw[h,HP0.out]at lW;omega
     ·exact h,hI.out.2.1⟩,rfl⟩
   ·rw[gj lW]at hz;have o3:=sR.out r (by omega);have XD:=ae (show pj (tC D nd k) (1000-(r+1)) (r+1)=R0 by
     rw[←hI.out.1];exact(xH (by omega) (by rw[Yb.out,←HP.out];exact gj lW)).symm)
    have hd9:=pC HD.out r;have KW:=NV.out r;by_cases PH:r<nd
    ·have p1:((nd:Int)≤(r:Int))=False:=bT (by omega);have p2:((r:Int)<800)=True:=aD (by omega);have dr:=H.out.gK r (by omega);have WE:=HD.out.1 r PH;have qw:sa D nd r=D r-48:=by rw[sa,az PH]
     have HX:=ae (And.intro KW (And.intro qw (And.intro WE o3)));clear KW qw WE o3 hd9;go_wp2_with fail;go_roundw
     case rel=>
      refine⟨r+1,ae ⟨XD.out,by have:=HX.out.2.2.2.1;omega,?_,fun _=>trivial⟩,rfl,?_,by first|rfl|trivial⟩
      ·rw[HX.out.1,HX.out.2.1];have:=HX.out.2.2.1;omega
      ·rw[HX.out.1,HX.out.2.1];exact iB (Zk HX.out.2.2.2.2 HX.out.2.2.1.1 HX.out.2.2.1.2)
     case measure=>exact gV (by omega)
    ·have p1:((nd:Int)≤(r:Int))=True:=aD (by omega);have bW:(((P r:Nat):Int)==0)=false:=bN.2 (by have:=aky.out r (by omega);omega);have HX:=ae o3;clear KW hd9 o3;go_wp2_with fail;go_loopw [4,6] (fun t4 t6 wr2=> ∃r:Nat,Hid (pj (tC D nd k) (1000-r) r=R0∧r≤21∧P r<10*K∧nd≤r)∧t4= .int .i64 (r:Int)∧t6= .int .u64 (P r:Int)∧wr2=wr) (fun t4 _ _=>1000-(intOf t4).toNat)
     case atStart=>exact⟨r,ae ⟨hI.out.1,hI.out.2.1,hI.out.2.2.1,by omega⟩,rfl,rfl,rfl⟩
     case round=>
      obtain⟨r2,kq,rfl,rfl,rfl⟩:=hrel;have ej:=JK (n:=P r2) HK.out hK0;by_cases LF:K≤P r2
      ·rw[dO LF]at ej;have HZ:=ae (show R0=r2 by
        rw[←kq.out.1];exact Bv (by have:=kq.out.2.1;omega) (by rw[Yb.out,←HP.out];exact dO LF))
       go_wp2_with fail;go_meet;rw[HZ.out];exact⟨rfl,rfl,ae ⟨LF,kq.out.2.2.1,by have:=kq.out.2.2.2;omega,kq.out.2.1⟩,rfl⟩
      ·rw[gj LF]at ej;have o3:=sR.out r2 (by omega);have akz:=ae (show pj (tC D nd k) (1000-(r2+1)) (r2+1)=R0 by
        rw[←kq.out.1];exact(xH (by omega) (by rw[Yb.out,←HP.out];exact gj LF)).symm)
       have KW:=NV.out r2;have qw:sa D nd r2=0:=by rw[sa,ah (by have:=kq.out.2.2.2;omega)]
       have HX2:=ae (And.intro KW (And.intro qw o3));have arC:=o3.1;clear KW qw o3;go_wp2_with fail;go_roundw
       case rel=>
        refine⟨r2+1,ae ⟨akz.out,by have:=HX2.out.2.2.1;omega,?_,by have:=kq.out.2.2.2;omega⟩,rfl,?_,by first|rfl|trivial⟩
        ·rw[HX2.out.1,HX2.out.2.1];omega
        ·rw[HX2.out.1,HX2.out.2.1,iz]
         first|exact iB (Rz HX2.out.2.2.2)|exact iB (by omega)
       case measure=>exact gV (F:=1000) (by omega)
 case rest=>
  obtain⟨rfl,rfl,hX,rfl⟩:=hcut;have d1:=H.out.dp;have f1:=H.out.free 801;have anx:IntKind.u64.wrap (IntKind.u64.wrap (2^k)-1)=((K-1:Nat):Int):=by
   rw[show ((2:Int)^k)=(K:Int)by rw[HK.out];simp];exact V1 hK0 aby
  obtain⟨N,hN⟩: ∃N:Nat→Nat,N=fun j=>P (R0+j)%(10*K):=⟨_,rfl⟩
  have hNd: ∀j,N j/K=iY D nd k R0 j∧N j%K*10+sa D nd (R0+j)=N (j+1)∧N j<10*K:=fun j=>by
   have h1:=Ym (X:=P (R0+j)) hK0 (pC HD.out (R0+j));rw[hN];refine⟨?_,?_,my _ (by omega)⟩
   ·rw[h1.1,iY,←HP.out,←HK.out]
   ·show P (R0+j)%(10*K)%K*10+sa D nd (R0+j)=P (R0+(j+1))%(10*K);rw[h1.2,←A6,NV.out]
  have sS:N 0=P R0:=by rw[hN];exact s5 hX.out.2.1
  have hNe: ∀j,nd+(k+1)≤R0+j→N j=0:=fun j hj=>by
   rw[hN];show P (R0+j)%(10*K)=0;obtain⟨m,hm⟩: ∃m,R0+j=nd+(k+1+m):=⟨R0+j-nd-(k+1),by omega⟩;rw[hm,HP.out,gX,HK.out];have e:(10:Nat)^(k+1+m)=(10*2^k)*(5^k*10^m):=by
    rw[dV,ep,show (10:Nat)^k=2^k*5^k by rw[←Ba]];simp only[cg,fx,qh]
   rw[e,←cg,fx (pre D nd nd),cg];exact Nat.mul_mod_right _ _
  have SQ: ∀j,mB D nd k R0 j=decide (N j=0):=fun j=>by rw[mB,hN,←HP.out,←HK.out]
  have H1:=ae (H.out.Es (dp-((R0:Int)-1)));have HN:=ae (And.intro hNd (And.intro sS (And.intro hNe SQ)));have arD:=hX.out.2.2.2;have hR1:=hX.out.2.2.1;have akA:=sS;rw[←sS];clear hN hNd sS hNe SQ akA;have cF:=ae ((aU B wc).setCell (p:=⟨g,801,none⟩) hB (.int .i64 (dp-((R0:Int)-1))));go_upto_block 4 with fail
  go_wp2_with fail;go_loopw [4,5,6,9,10] (fun t4 t5 t6 _ _ wr=> ∃j:Nat,Hid ((R0+j≤nd∨j=0)∧bu wr g (sb D nd k R0 j) nd (dp-((R0:Int)-1)) neg tr∧Below B wc wr)∧t4= .int .i64 ((R0+j:Nat):Int)∧t5= .int .i64 (j:Int)∧t6= .int .u64 (N j:Int)) (fun t4 _ _ _ _ _=>nd-(intOf t4).toNat)
  case atStart=>exact⟨0,ae ⟨.inr rfl,by rw[UC];exact H1.out,cF.out⟩,rfl,rfl,rfl⟩
  case round=>
   obtain⟨j,hI,rfl,rfl,rfl⟩:=hrel;have d0:=hI.out.2.1.nd;obtain⟨r,hr⟩: ∃r,r=R0+j:=⟨_,rfl⟩;rw[←hr];have dy:=HN.out.1 j;rw[←hr]at dy;have hjr:j+1≤r:=by omega
   have FF:=ae hr;clear hr;by_cases PH:r<nd
   ·have p1:((r:Int)<(nd:Int))=True:=aD (by omega);have WX:j<800:=by omega
    have p2:((r:Int)<800)=True:=aD (by omega);have p3:((j:Int)<800)=True:=aD (by omega);have dr:=hI.out.2.1.gK r (by omega);rw[UB (by omega)]at dr;have fj:=hI.out.2.1.free j;have dj:=hI.out.2.1.gK j WX;have WE:=HD.out.1 r PH;have qw:sa D nd r=D r-48:=by rw[sa,az PH]
    have g1:((N j:Int)/2^k)=((iY D nd k R0 j:Nat):Int):=by
     rw[←dy.1,HK.out];simp
    have g2:bits .and .u64 (N j:Int) ((K-1:Nat):Int)=((N j%K:Nat):Int):=by
     rw[vA _ _ (by have:=dy.2.2;omega) (by omega),HK.out,Dp]
    have h9:iY D nd k R0 j≤9:=by rw[iY];omega
    have HX:=ae (And.intro dy (And.intro qw (And.intro WE h9)));obtain⟨v0,FI⟩: ∃v0,v0=Value.int .u8 (sb D nd k R0 j j:Int):=⟨_,rfl⟩;rw[←FI]at dj;clear dy qw WE h9 FI;go_wp2_with fail;go_roundw
    case rel=>
     refine⟨j+1,ae ⟨.inl (by have:=FF.out;omega),?_,hI.out.2.2.setCell (p:=⟨g,j,none⟩) hB _⟩,?_,rfl,?_⟩
     ·rw[←I9 WX];exact hI.out.2.1.Bo WX (wF HX.out.2.2.2)
     ·exact iB (by have:=FF.out;omega)
     ·rw[←HX.out.1.2.1,HX.out.2.1];exact iB (V2 (by have:=my (N j) hK0;omega) HX.out.2.2.1.1 HX.out.2.2.1.2)
    case measure=>exact gV PH
   ·have p1:((r:Int)<(nd:Int))=False:=bT (by omega);have hjn:j=nd-R0:=by
     have h1:=hI.out.1;have h2:=FF.out;omega
    have afA:nd≤R0+j:=by have h2:=FF.out;omega
    obtain⟨WW,hWW⟩: ∃WW,WW=rsW D nd k R0:=⟨_,rfl⟩;have hW0:pj (mB D nd k R0) (2000-j) j=WW:=by rw[hWW,rsW,hjn]
    have WX:j≤800:=by omega
    have HW:=ae hWW;have HI:=ae (And.intro hI.out.2.1 (And.intro hI.out.2.2 (And.intro hW0 afA)));have Xy:(tr||Xd D nd k R0 j)=tr:=by rw[Qo WX,qk]
    have HT0:=ae Xy;have xa:=ae dy;clear dy hWW hW0 afA Xy hI hjn;go_wp2_with fail;go_loopg [5,6,11] (1000-j) (fun gg t5 t6 _ wr=> ∃j q:Nat,Hid (gg=1000-j∧q=min j 800∧pj (mB D nd k R0) (2000-j) j=WW∧nd≤R0+j∧bu wr g (sb D nd k R0 j) nd (dp-((R0:Int)-1)) neg (tr||Xd D nd k R0 j)∧Below B wc wr∧j≤900)∧t5= .int .i64 (q:Int)∧t6= .int .u64 (N j:Int))
    case atStart=>exact⟨j,j,ae ⟨rfl,(mS WX).symm,HI.out.2.2.1,HI.out.2.2.2,by rw[HT0.out];exact HI.out.1,HI.out.2.1,by omega⟩,rfl,rfl⟩
    case round=>
     obtain⟨j,q,kq,rfl,rfl⟩:=hrel;have dy:=HN.out.1 j;have SQ:=HN.out.2.2.2 j;have fI:=kq.out.2.2.2.2.1;cases hz:decide (N j=0)
     ·rw[hz]at SQ;have bW:N j≠0:=sX hz;have hjb:R0+j<nd+(k+1):=by
       rcases dE (R0+j) (nd+(k+1))with h|h
       ·exact h
       ·exact absurd (HN.out.2.2.1 j h) bW
      have hj9:j<900:=by omega
      have AK:=xH (F:=2000) (r:=j) (by omega) SQ;have qw:sa D nd (R0+j)=0:=by rw[sa,ah (by have:=kq.out.2.2.2.1;omega)]
      have p1:((0:Int)<(N j:Int))=True:=aD (by omega);have p1n:0<N j:=by omega
      have g1:((N j:Int)/2^k)=((iY D nd k R0 j:Nat):Int):=by
       rw[←dy.1,HK.out];simp
      have g2:bits .and .u64 (N j:Int) ((K-1:Nat):Int)=((N j%K:Nat):Int):=by
       rw[vA _ _ (by have:=dy.2.2;omega) (by omega),HK.out,Dp]
      have h9:iY D nd k R0 j≤9:=by rw[iY];omega
      have hNs:N (j+1)=N j%K*10:=by have:=dy.2.1;rw[qw]at this;omega
      have Py:N j%K<1152921504606846976:=by have:=my (N j) hK0;omega
      have zI:pj (mB D nd k R0) (2000-(j+1)) (j+1)=WW:=by rw[←AK];exact kq.out.2.2.1
      have HX:=ae (And.intro hNs (And.intro Py (And.intro zI h9)));have PJ:=ae fI;have f0:=fI.free 803;have t0:=fI.tr;by_cases WX:j<800
      ·have hq:q=j:=by have:=kq.out.2.1;omega
       subst hq;have fj:=fI.free q;have dj:=fI.gK q WX;obtain⟨v0,FI⟩: ∃v0,v0=Value.int .u8 (sb D nd k R0 q q:Int):=⟨_,rfl⟩;rw[←FI]at dj;clear FI;have p3:((q:Int)<800)=True:=aD (by omega);clear dy qw AK h9 SQ hz bW hNs Py zI fI;go_wp2_with fail;go_roundg (1000-(q+1))
       case measure=>have:=kq.out.1;omega
       case rel=>
        refine⟨q+1,q+1,ae ⟨rfl,by omega,HX.out.2.2.1,by have:=kq.out.2.2.2.1;omega,?_,kq.out.2.2.2.2.2.1.setCell (p:=⟨g,q,none⟩) hB _,by omega⟩,rfl,?_⟩
        ·rw[←I9 WX,Bw,gj (by omega: ¬800≤q),qX,qk];exact PJ.out.Bo WX (wF HX.out.2.2.2)
        ·rw[HX.out.1];exact iB (uJ HX.out.2.1)
      ·have hq:q=800:=by have:=kq.out.2.1;omega
       have p3:((q:Int)<800)=False:=bT (by omega);have HQ:=ae hq;clear hq;have hjj:800≤j:=by omega
       cases ZY:decide (0<iY D nd k R0 j)
       ·have p4:((0:Int)<(iY D nd k R0 j:Int))=False:=bT (by have:=sX ZY;omega);have p4n: ¬0<iY D nd k R0 j:=sX ZY;have HDZ:=ae ZY;clear dy qw AK h9 SQ hz bW hNs Py zI fI ZY;go_wp2_with fail;go_roundg (1000-(j+1))
        case measure=>have:=kq.out.1;omega
        case rel=>
         refine⟨j+1,q,ae ⟨rfl,by have:=HQ.out;omega,HX.out.2.2.1,by have:=kq.out.2.2.2.1;omega,?_,kq.out.2.2.2.2.2.1,by omega⟩,rfl,?_⟩
         ·rw[OF hjj,Bw,HDZ.out,tx,qk];exact PJ.out
         ·rw[HX.out.1];exact iB (uJ HX.out.2.1)
       ·have p4:((0:Int)<(iY D nd k R0 j:Int))=True:=aD (by have:=mR ZY;omega);have p4n:0<iY D nd k R0 j:=mR ZY;have HDZ:=ae ZY;clear dy qw AK h9 SQ hz bW hNs Py zI fI ZY;go_wp2_with fail;go_roundg (1000-(j+1))
        case measure=>have:=kq.out.1;omega
        case rel=>
         refine⟨j+1,q,ae ⟨rfl,by have:=HQ.out;omega,HX.out.2.2.1,by have:=kq.out.2.2.2.1;omega,?_,kq.out.2.2.2.2.2.1.setCell (p:=⟨g,803,none⟩) hB _,by omega⟩,rfl,?_⟩
         ·rw[OF hjj,Bw,HDZ.out,dO hjj,Bool.and_true,vz,vz];exact PJ.out.Oq true
         ·rw[HX.out.1];exact iB (uJ HX.out.2.1)
     ·rw[hz]at SQ;have St:N j=0:=mR hz;have hWj:WW=j:=by rw[←kq.out.2.2.1];exact Bv (by have:=kq.out.2.2.2.2.2.2;omega) SQ
      have p1:((0:Int)<(N j:Int))=False:=bT (by omega);have p1n: ¬0<N j:=by omega
      have f0:=fI.free 800;have d1:=fI.nd;have PJ:=ae (fI.Bi (n:=q) (z:=(q:Int)) rfl);have HWJ:=ae hWj;clear dy SQ hz St fI hWj;go_wp2_with fail;refine(BR _ B g _ q _ neg _ PJ.out (by have:=kq.out.2.1;omega) hB).mono ?_;rintro e w9 ⟨rfl,FJ,Lk⟩;have HB9:=ae ((kq.out.2.2.2.2.2.1.setCell (p:=⟨g,800,none⟩) hB (.int .i64 (q:Int))).trans Lk);have HDF:=ae FJ;clear FJ Lk;go_wp2_with fail;go_end0;have e1:xk D nd k=sb D nd k R0 j:=by rw[xk,←ZJ.out,←HW.out,HWJ.out]
      have e2:Bd D nd k=q:=by rw[Bd,←ZJ.out,←HW.out,HWJ.out];exact kq.out.2.1.symm
      have e3:XO D nd k tr=(tr||Xd D nd k R0 j):=by rw[XO,←ZJ.out,←HW.out,HWJ.out]
      have e4:PN D nd k dp=pB (sb D nd k R0 j) q (dp-((R0:Int)-1)):=by rw[PN,e1,e2,←ZJ.out]
      rw[Ds,e1,e2,e3,e4];exact⟨rfl,HDF.out,HB9.out⟩
theorem bu.drewN {w:World} {g:Nat} {D:Nat→Nat} {nd:Nat} {dp:Int} {neg tr:Bool} (h:bu w g D nd dp neg tr) (n:Nat):bu (w.drewN n) g D nd dp neg tr:=h.drew n
theorem NH (h:l.length≤i):gT D nd (l.drop i) i=false:=by rw[tY h];rfl
theorem RA (h:i<l.length):gT D nd (l.drop i) i=if nd≤i then true else if D i=(au l i).toNat then gT D nd (l.drop (i+1)) (i+1)else decide (D i<(au l i).toNat):=by
 have e:l[i]=au l i:=by rw[au,lf,lJ h];rfl
 rw[o5 h,gT,e]
theorem RB (w:World) (g:Nat) (D:Nat→Nat) (nd:Nat) (dp:Int) (neg tr:Bool) (s:ByteArray) (h:bu w g D nd dp neg tr) (qM:nd≤800) (hs:s.size≤1000):
  Calls prog 244 #[.slice (some ⟨g,0,none⟩) nd 800,.string s] w fun e w'=>e= .returned (.bool (gT D nd s.data.toList 0))∧ ∃m,w'=w.drewN m:=by
 obtain⟨T,hT⟩: ∃T,T=gT D nd s.data.toList 0:=⟨_,rfl⟩;rw[←hT];have HT:=ae hT;have H:=ae h;clear hT h;go_enter func244,ntmps244;go_wp2_with fail;go_loopw [5] (fun t5 wr=> ∃i:Nat,Hid (gT D nd (s.data.toList.drop i) i=T∧i≤s.size∧ ∃m,wr=w.drewN m)∧t5= .int .i64 (i:Int)) (fun t5 _=>s.size-(intOf t5).toNat)
 case atStart=>exact⟨0,ae ⟨HT.symm,aV _,0,rfl⟩,rfl⟩
 case round=>
  obtain⟨i,hI,rfl⟩:=hrel;by_cases hi:i<s.size
  ·have p1:((i:Int)<(s.size:Int))=True:=aD (by omega);have dy:=RA (D:=D) (nd:=nd) (l:=s.data.toList) (i:=i) (by rw[af];exact hi);rw[ay hi]at dy;have hD:bu wr g D nd dp neg tr:=by obtain⟨m,hm⟩:=hI.2.2;rw[hm];exact H.drewN m
   have HD:=ae hD;have xa:=ae dy;clear dy hD;by_cases hn:nd≤i
   ·have p2:((nd:Int)≤(i:Int))=True:=aD (by omega);have xc:T=true:=by rw[←hI.out.1,xa.out,az hn]
    have xb:=ae xc;clear xc;go_wp2_with fail;go_ret;exact⟨by rw[xb.out];rfl,hI.2.2⟩
   ·have p2:((nd:Int)≤(i:Int))=False:=bT (by omega);have p3:((i:Int)<(nd:Int))=True:=aD (by omega);have c0:=HD.gK i (by omega);by_cases he:D i=s[i].toNat
    ·have e1:((D i:Int) != (s[i].toNat:Int))=false:=by rw[he];simp
     have xc:gT D nd (s.data.toList.drop (i+1)) (i+1)=T:=by rw[←hI.out.1,xa.out,ah hn,az he]
     have xb:=ae xc;clear xc;go_wp2_with fail;go_quiet (fail);have td: ∃m,wr.drewN nq=w.drewN m:=by obtain⟨m,hm⟩:=hI.2.2;exact⟨_,by rw[hm,jP]⟩
     clear c0;generalize wr.drewN nq=w2 at td ⊢
     have Wp:=ae td;clear td he;go_wp2_with fail;go_roundw
     case rel=>exact⟨i+1,ae ⟨xb,hi,Wp⟩,rfl⟩
     case measure=>exact gV hi
    ·have e1:((D i:Int) != (s[i].toNat:Int))=true:=by rw[jo];omega
     have xc:T=decide (D i<s[i].toNat):=by rw[←hI.out.1,xa.out,ah hn,ah he]
     have xb:=ae xc;clear xc;clear he;go_wp2_with fail;go_quiet (fail);have td: ∃m,wr.drewN nq=w.drewN m:=by obtain⟨m,hm⟩:=hI.2.2;exact⟨_,by rw[hm,jP]⟩
     have c1:(wr.drewN nq).cell? ⟨g,i,none⟩=some (.int .u8 (D i:Int)):=c0;clear c0;generalize wr.drewN nq=w2 at td c1 ⊢
     have Wp:=ae td;clear td;go_wp2_with fail;go_quiet (fail);have Xs: ∃m,w2.drewN nq=w.drewN m:=by obtain⟨m,hm⟩:=Wp.out;exact⟨_,by rw[hm,jP]⟩
     clear c1;generalize w2.drewN nq=w3 at Xs ⊢
     have HM3:=ae Xs;clear Xs;go_wp2_with fail;go_ret;exact⟨by rw[xb.out];rfl,HM3⟩
  ·have p1:((i:Int)<(s.size:Int))=False:=bT (by omega);have xc:T=false:=by rw[←hI.out.1];exact NH (by rw[af];omega)
   have xb:=ae xc;clear xc;go_wp2_with fail;go_ret;exact⟨by rw[xb.out];rfl,hI.2.2⟩
structure kC (w:World) (C:Nat):Prop where
 FE: ∃o,w.cell? ⟨11,0,none⟩=some (.slice (some ⟨C,o,none⟩) 61 61)∧ ∀k,k<61→w.cell? ⟨C,o+k*2,none⟩=some (.int .i64 (Di k:Int))∧w.cell? ⟨C,o+k*2+1,none⟩=some (.string ⟨(Lq k).toArray⟩)
 lt0:11<w.heap.size
 lt:C<w.heap.size
theorem kC.below (h:kC w C) (hb:Below B w w') (h0:11<B) (h1:C<B):kC w' C:=by
 obtain⟨o,t1,t2⟩:=h.FE;exact⟨⟨o,(hb.cell (p:=⟨_,0,none⟩) h0).trans t1,fun k hk=>⟨(hb.cell (p:=⟨C,_,none⟩) h1).trans (t2 k hk).1,(hb.cell (p:=⟨C,_,none⟩) h1).trans (t2 k hk).2⟩⟩,iv h.lt0 hb.size,iv h.lt hb.size⟩
theorem acC (hK:K=2^k) (h60:K≤1152921504606846976) (hn:n<K) (h1:48≤d) (h2:d≤57):IntKind.u64.wrap ((n:Int)+IntKind.u64.wrap (IntKind.u64.wrap (IntKind.u64.wrap (d:Int)-48)*2^k))=((n+(d-48)*K:Nat):Int):=by
 have e:((2:Int)^k)=(K:Int):=by rw[hK];simp
 rw[e];have e2:IntKind.u64.wrap (IntKind.u64.wrap (d:Int)-48)=((d-48:Nat):Int):=by simp only[cZ];omega
 rw[e2];have h9:(d-48)*K≤9*K:=fg _ (by omega);have e3:(((d-48:Nat):Int)*(K:Int))=(((d-48)*K:Nat):Int):=by simp
 rw[e3];generalize (d-48)*K=x at h9 ⊢
 simp only[cZ];omega
theorem Ui (hn:n<18446744073709551616):IntKind.u64.wrap ((n:Int)-IntKind.u64.wrap (10*((n/10:Nat):Int)))=((n%10:Nat):Int):=by
 simp only[cZ];omega
theorem D0 (w:World) (B g C:Nat) (D:Nat→Nat) (nd k:Nat) (dp:Int) (neg tr:Bool) (h:bu w g D nd dp neg tr) (hc:kC w C) (hd:js D nd) (hn:0<nd) (qM:nd≤800) (mP:1≤k) (hk:k≤60) (tV: -1000000000000≤dp∧dp≤1000000000000) (hB:B≤g):
  Calls prog 237 #[.pointer (some ⟨g,0,none⟩),.int .u64 (k:Int)] w fun e w'=>e= .returned (.tuple #[])∧bu w' g (po D nd k) (xm D nd k) (PO D nd k dp) neg (XP D nd k tr)∧Below B w w':=by
 have H:=ae h;have HD:=ae hd;have cH:=Bx mP hk;obtain⟨o,h0,PX⟩:=hc.FE;have hr:=PX k (by omega);clear PX;obtain⟨δ,hδ⟩: ∃δ,δ=Di k:=⟨_,rfl⟩;obtain⟨s,hs⟩: ∃s:ByteArray,s=⟨(Lq k).toArray⟩:=⟨_,rfl⟩;rw[←hδ,←hs]at hr;have hsl:s.data.toList=Lq k:=by rw[hs]
 have hss:s.size≤60:=by rw[←af,hsl];exact cH.short
 have arE:1≤δ∧δ≤20:=by rw[hδ];exact⟨cH.pos,cH.small⟩
 obtain⟨r1,r2⟩:=hr;have hb:=jY hd hn mP hk;obtain⟨L,hL⟩: ∃L,L=tf D nd k:=⟨_,rfl⟩;obtain⟨M,hM⟩: ∃M,M=KX D nd k:=⟨_,rfl⟩;rw[←hL,←hM]at hb;have HB:=ae hb;have HL:=ae hL;have HM:=ae hM;have Wv:=ae (And.intro hδ hsl);have hLn:nd≤L∧L≤nd+20:=⟨hb.2.2.1,hb.2.2.2⟩;clear h hd cH hs hδ hsl hb hL hM hc;have d0:=H.out.nd;have hq0:((0:Int)≤(nd:Int))=True:=aD (by omega);have D4:((nd:Int)≤800)=True:=aD (by omega);have tS:((k:Int)<61)=True:=aD (by omega);go_enter func237,ntmps237;obtain⟨b,hl⟩: ∃b,LU D nd k=b:=⟨_,rfl⟩;have hp:gT D nd s.data.toList 0=b:=by rw[Wv.out.2];exact hl
 have HP:=ae hp;have WT:=ae hl;clear hp hl;go_wp2_with fail;go_quiet ((go_at_call 244;exact Calls.quiet_of ((RB _ g D nd dp neg tr s (H.out.drewN _) qM (by omega)).mono fun _ _ ⟨h1,h2⟩=>⟨by rw[h1,HP.out],h2⟩)));obtain⟨m,hm⟩: ∃m,m=nq:=⟨_,rfl⟩;rw[←hm];clear hm;have hH:bu (w.drewN m) g D nd dp neg tr:=H.out.drewN m;have aQ:Below B w (w.drewN m):=bZ (aU B w) m;clear d0 h0 r1 r2;generalize w.drewN m=w2 at hH aQ ⊢
 have d0:=hH.nd;have H2:=ae hH;have bF:=ae aQ;obtain⟨K,yg⟩: ∃K,K=2^k:=⟨_,rfl⟩;have aby:K≤1152921504606846976:=by rw[yg];exact dZ (n:=2) (by omega) hk
 have hK0:0<K:=by rw[yg];exact eZ (by omega)
 obtain⟨N,hN⟩: ∃N:Nat→Nat,N=RR (pre D nd nd) k:=⟨_,rfl⟩;have hMM:M=pre D nd nd*K:=by rw[HM.out,KX,yg]
 have rj: ∀j,j<nd→(N j+(D (nd-1-j)-48)*K)%10=M/10^j%10∧(N j+(D (nd-1-j)-48)*K)/10=N (j+1)∧N j<K:=fun j hj=>by
  have:=Jb (k:=k) (Yo HD.out hj);rw[hN,hMM,yg];exact this
 have S5: ∀j,nd≤j→N j=M/10^j:=fun j hj=>by
  rw[hN,hMM,yg];exact MA (xx HD.out nd) hj
 have sS:N 0=0:=by rw[hN,RR];simp[Nat.mod_one]
 have hNK: ∀j,N j<K:=fun j=>by rw[hN,yg];exact(Jb rfl).2.2
 have HN:=ae (And.intro rj (And.intro S5 (And.intro sS hNK)));have HKK:=ae yg;clear hH aQ yg hN hMM rj S5 sS hNK;go_upto_if 30 with fail
 go_cut [4]from 12 to 32 (fun t4 wx=>t4= .int .i64 ((L:Int)-nd)∧wx=w2)
 case first=>
  cases b
  ·have hLL:(L:Int)-nd=δ:=by
    have:=HL.out;rw[tf,WT.out,ah (by simp),←Wv.out.1]at this;omega
   go_wp2_with fail;go_meet;exact⟨iB (by omega),rfl⟩
  ·have hLL:(L:Int)-nd=δ-1:=by
    have:=HL.out;rw[tf,WT.out,az rfl,←Wv.out.1]at this;omega
   go_wp2_with fail;go_meet;exact⟨iB (by omega),rfl⟩
 case rest=>
  obtain⟨rfl,rfl⟩:=hcut;go_wp2_with fail;go_loopg [5,6,7,8,9] nd (fun gg t5 t6 t7 _ _ wr=> ∃(j q:Nat) (z:Int),Hid (gg=nd-j∧j≤nd∧z=(nd:Int)-1-j∧q=L-j∧bu wr g (tg D M L j) nd dp neg (tr||Wr M L j)∧Below B w wr)∧t5= .int .i64 z∧t6= .int .i64 (q:Int)∧t7= .int .u64 (N j:Int))
  case atStart=>
   refine⟨0,L,(nd:Int)-1,ae ⟨rfl,aV _,by simp,rfl,?_,bF.out⟩,?_,?_,by rw[HN.out.2.2.1];rfl⟩
   ·rw[UF];have e:Wr M L 0=false:=rfl;rw[e,qk];exact H2.out
   ·first|rfl|exact iB (by omega)
   ·first|rfl|exact iB (by omega)
  case round=>
   obtain⟨j,q,z,hI,rfl,rfl,rfl⟩:=hrel;by_cases hj:j<nd
   ·obtain⟨r,hr⟩: ∃r:Nat,r=nd-1-j:=⟨_,rfl⟩;have hz:z=(r:Int):=by have:=hI.out.2.2.1;omega
    subst hz;obtain⟨q1,D4⟩: ∃q1,q=q1+1:=⟨q-1,by have:=hI.out.2.2.2.1;omega⟩;subst D4;have hq:q1=L-(j+1):=by have:=hI.out.2.2.2.1;omega
    have hr8:r<800:=by omega
    have p0:((r:Int)<800)=True:=aD (by omega);have fI:=hI.out.2.2.2.2.1;have c0:=fI.gK r hr8;rw[UE (by omega)]at c0;have dy:=HN.out.1 j hj;rw[←hr]at dy;have WE:=HD.out.1 r (by omega);have HX:=ae (And.intro dy (And.intro WE (And.intro hr hq)));have Al:=ae fI;have hqb:q1<821:=by omega
    clear dy WE hr hq fI;obtain⟨nn,qI⟩: ∃nn,nn=N j+(D r-48)*K:=⟨_,rfl⟩;have f1:IntKind.u64.wrap ((N j:Int)+IntKind.u64.wrap (IntKind.u64.wrap (IntKind.u64.wrap (D r:Int)-48)*2^k))=(nn:Int):=by
     rw[qI];exact acC HKK.out aby HX.out.1.2.2 HX.out.2.1.1 HX.out.2.1.2
    have uQ:nn<18446744073709551616:=by
     have h9:(D r-48)*K≤9*K:=fg _ (by have:=HX.out.2.1.2;omega);have:=HX.out.1.2.2;omega
    obtain⟨Q,hQ⟩: ∃Q,Q=nn/10:=⟨_,rfl⟩;obtain⟨R,hR⟩: ∃R,R=nn%10:=⟨_,rfl⟩;have g1:(nn:Int)/10=(Q:Int):=by rw[hQ];simp
    have g2:IntKind.u64.wrap ((nn:Int)-IntKind.u64.wrap (10*(Q:Int)))=(R:Int):=by rw[hQ,hR];exact Ui uQ
    have f2:IntKind.u64.wrap (Q:Int)=(Q:Int):=by rw[hQ];simp only[cZ];omega
    have Dl:Q=N (j+1):=by rw[hQ,qI];exact HX.out.1.2.1
    have Ho:R=M/10^j%10:=by rw[hR,qI];exact HX.out.1.1
    have hR9:R≤9:=by omega
    have Dn:=ae (And.intro Dl (And.intro Ho hR9));have f0:=Al.out.free 803;have t0:=Al.out.tr;clear qI uQ hQ hR Dl Ho hR9;by_cases h8:q1<800
    ·have p3:((q1:Int)<800)=True:=aD (by omega);have fq:=Al.out.free q1;have dq:=Al.out.gK q1 h8;obtain⟨v0,FI⟩: ∃v0,v0=Value.int .u8 (tg D M L j q1:Int):=⟨_,rfl⟩;rw[←FI]at dq;clear FI;go_wp2_with fail;go_roundg (nd-(j+1))
     case measure=>have:=hI.out.1;omega
     case rel=>
      refine⟨j+1,q1,(r:Int)-1,ae ⟨rfl,by omega,by have:=HX.out.2.2.1;omega,HX.out.2.2.2,?_,hI.out.2.2.2.2.2.setCell (p:=⟨g,q1,none⟩) hB _⟩,rfl,rfl,by rw[←Dn.out.1]⟩;have hq:=HX.out.2.2.2;have e1:=Jc (D:=D) (M:=M) (L:=L) (j:=j) (by omega) (by omega);rw[←hq,←Dn.out.2.1]at e1;rw[←e1,oC,gj (by omega: ¬800≤L-1-j),qX,qk];exact Al.out.Bo h8 (wF Dn.out.2.2)
    ·have p3:((q1:Int)<800)=False:=bT (by omega);cases hz:decide (R=0)
     ·have bW:R≠0:=sX hz;have e0:((R:Int) != 0)=true:=by rw[jo];omega
      have Hv:=ae bW;clear hz bW;go_wp2_with fail;go_roundg (nd-(j+1))
      case measure=>have:=hI.out.1;omega
      case rel=>
       refine⟨j+1,q1,(r:Int)-1,ae ⟨rfl,by omega,by have:=HX.out.2.2.1;omega,HX.out.2.2.2,?_,hI.out.2.2.2.2.2.setCell (p:=⟨g,803,none⟩) hB _⟩,rfl,rfl,by rw[←Dn.out.1]⟩;have hq:=HX.out.2.2.2;rw[As (by omega),oC,←Dn.out.2.1,dO (by omega:800≤L-1-j),dO Hv.out,Bool.and_true,vz,vz];exact Al.out.Oq true
     ·have he:R=0:=mR hz;have e0:((R:Int) != 0)=false:=by rw[he];rfl
      have HEQ:=ae he;clear hz he;go_wp2_with fail;go_roundg (nd-(j+1))
      case measure=>have:=hI.out.1;omega
      case rel=>
       refine⟨j+1,q1,(r:Int)-1,ae ⟨rfl,by omega,by have:=HX.out.2.2.1;omega,HX.out.2.2.2,?_,hI.out.2.2.2.2.2⟩,rfl,rfl,by rw[←Dn.out.1]⟩;have hq:=HX.out.2.2.2;rw[As (by omega),oC,←Dn.out.2.1,gj (by rw[HEQ.out];simp: ¬R≠0),tx,qk];exact Al.out
   ·have hjn:j=nd:=by have:=hI.out.2.1;omega
    have hz:z= -1:=by have:=hI.out.2.2.1;omega
    subst hz;have HJ:=ae hjn;clear hjn;have ZZ:=ae hI.out;clear hI;go_wp2_with fail;go_loopg [6,7,10,11] (L-j) (fun gg t6 t7 _ _ wr=> ∃j q:Nat,Hid (gg=L-j∧nd≤j∧j≤L∧q=L-j∧bu wr g (tg D M L j) nd dp neg (tr||Wr M L j)∧Below B w wr)∧t6= .int .i64 (q:Int)∧t7= .int .u64 (N j:Int))
    case atStart=>exact⟨j,q,ae ⟨rfl,by have:=HJ.out;omega,by have:=HJ.out;omega,ZZ.out.2.2.2.1,ZZ.out.2.2.2.2.1,ZZ.out.2.2.2.2.2⟩,rfl,rfl⟩
    case round=>
     obtain⟨j,q,hI,rfl,rfl⟩:=hrel;have Lm:=HN.out.2.1 j hI.out.2.1;have fI:=hI.out.2.2.2.2.1;by_cases hjL:j<L
     ·have pc:0<N j:=by
       rw[Lm];exact Nat.div_pos (bR (dZ (by omega) (by omega)) HB.out.1) (eZ (by omega))
      have p1:((0:Int)<(N j:Int))=True:=aD (by omega);obtain⟨q1,D4⟩: ∃q1,q=q1+1:=⟨q-1,by have:=hI.out.2.2.2.1;omega⟩;subst D4;have hq:q1=L-(j+1):=by have:=hI.out.2.2.2.1;omega
      have uQ:N j<18446744073709551616:=by have:=HN.out.2.2.2 j;omega
      obtain⟨Q,hQ⟩: ∃Q,Q=N j/10:=⟨_,rfl⟩;obtain⟨R,hR⟩: ∃R,R=N j%10:=⟨_,rfl⟩;have g1:(N j:Int)/10=(Q:Int):=by rw[hQ];simp
      have g2:IntKind.u64.wrap ((N j:Int)-IntKind.u64.wrap (10*(Q:Int)))=(R:Int):=by rw[hQ,hR];exact Ui uQ
      have f2:IntKind.u64.wrap (Q:Int)=(Q:Int):=by rw[hQ];simp only[cZ];omega
      have Dl:Q=N (j+1):=by rw[hQ,Lm,HN.out.2.1 (j+1) (by have:=hI.out.2.1;omega),D8,←ep]
      have Ho:R=M/10^j%10:=by rw[hR,Lm]
      have hR9:R≤9:=by omega
      have Dn:=ae (And.intro Dl (And.intro Ho (And.intro hR9 hq)));have Al:=ae fI;have f0:=fI.free 803;have t0:=fI.tr;have hqb:q1<821:=by omega
      clear uQ hQ hR Dl Ho hR9 hq Lm fI;by_cases h8:q1<800
      ·have p3:((q1:Int)<800)=True:=aD (by omega);have fq:=Al.out.free q1;have dq:=Al.out.gK q1 h8;obtain⟨v0,FI⟩: ∃v0,v0=Value.int .u8 (tg D M L j q1:Int):=⟨_,rfl⟩;rw[←FI]at dq;clear FI;go_wp2_with fail;go_roundg (L-(j+1))
       case measure=>have:=hI.out.1;omega
       case rel=>
        refine⟨j+1,q1,ae ⟨rfl,by have:=hI.out.2.1;omega,by omega,Dn.out.2.2.2,?_,hI.out.2.2.2.2.2.setCell (p:=⟨g,q1,none⟩) hB _⟩,rfl,by rw[←Dn.out.1]⟩;have hq:=Dn.out.2.2.2;have e1:=Jc (D:=D) (M:=M) (L:=L) (j:=j) (by omega) (by omega);rw[←hq,←Dn.out.2.1]at e1;rw[←e1,oC,gj (by omega: ¬800≤L-1-j),qX,qk];exact Al.out.Bo h8 (wF Dn.out.2.2.1)
      ·have p3:((q1:Int)<800)=False:=bT (by omega);cases hz:decide (R=0)
       ·have bW:R≠0:=sX hz;have e0:((R:Int) != 0)=true:=by rw[jo];omega
        have Hv:=ae bW;clear hz bW;go_wp2_with fail;go_roundg (L-(j+1))
        case measure=>have:=hI.out.1;omega
        case rel=>
         refine⟨j+1,q1,ae ⟨rfl,by have:=hI.out.2.1;omega,by omega,Dn.out.2.2.2,?_,hI.out.2.2.2.2.2.setCell (p:=⟨g,803,none⟩) hB _⟩,rfl,by rw[←Dn.out.1]⟩;have hq:=Dn.out.2.2.2;rw[As (by omega),oC,←Dn.out.2.1,dO (by omega:800≤L-1-j),dO Hv.out,Bool.and_true,vz,vz];exact Al.out.Oq true
       ·have he:R=0:=mR hz;have e0:((R:Int) != 0)=false:=by rw[he];rfl
        have HEQ:=ae he;clear hz he;go_wp2_with fail;go_roundg (L-(j+1))
        case measure=>have:=hI.out.1;omega
        case rel=>
         refine⟨j+1,q1,ae ⟨rfl,by have:=hI.out.2.1;omega,by omega,Dn.out.2.2.2,?_,hI.out.2.2.2.2.2⟩,rfl,by rw[←Dn.out.1]⟩;have hq:=Dn.out.2.2.2;rw[As (by omega),oC,←Dn.out.2.1,gj (by rw[HEQ.out];simp: ¬R≠0),tx,qk];exact Al.out
     ·have abz:j=L:=by have:=hI.out.2.2.1;omega
      have Dg:N j=0:=by rw[Lm,abz];exact tp HB.out.2.1
      have p1:((0:Int)<(N j:Int))=False:=bT (by omega);have p1n: ¬0<N j:=by omega
      rw[abz]at fI;have Al:=ae fI;have HBE:=ae hI.out.2.2.2.2.2;have d1:=fI.nd;have d2:=fI.dp;have f1:=fI.free 800;have f2:=fI.free 801;have eF:po D nd k=tg D M L L:=by rw[po,←HL.out,←HM.out]
      have eT:XP D nd k tr=(tr||Wr M L L):=by rw[XP,←HL.out,←HM.out]
      have eN:xm D nd k=eE (tg D M L L) (min L 800):=by rw[xm,eF,←HL.out]
      have eP:PO D nd k dp=pB (tg D M L L) (min L 800) (dp+((L:Int)-nd)):=by rw[PO,eF,←HL.out]
      have HE:=ae (And.intro eF (And.intro eT (And.intro eN eP)));clear eF eT eN eP fI Lm Dg abz hI;by_cases h8:800≤L
      ·have p8:((800:Int)≤(L:Int))=True:=aD (by omega);go_wp2_with fail;refine(BR _ B g (tg D M L L) 800 (dp+((L:Int)-nd)) neg (tr||Wr M L L) (((Al.out.Bi (n:=L) (by omega)).Bi (n:=800) rfl).Es _) (by omega) hB).mono ?_;rintro e w9 ⟨rfl,FJ,Lk⟩;have HB9:=ae ((((HBE.out.setCell (p:=⟨g,800,none⟩) hB _).setCell (p:=⟨g,800,none⟩) hB _).setCell (p:=⟨g,801,none⟩) hB _).trans Lk);have HDF:=ae FJ;clear FJ Lk;go_wp2_with fail;go_end0;have Lw:min L 800=800:=qi h8;rw[HE.out.1,HE.out.2.1,HE.out.2.2.1,HE.out.2.2.2,Lw];exact⟨rfl,HDF.out,HB9.out⟩
      ·have p8:((800:Int)≤(L:Int))=False:=bT (by omega);go_wp2_with fail;refine(BR _ B g (tg D M L L) L (dp+((L:Int)-nd)) neg (tr||Wr M L L) ((Al.out.Bi (n:=L) (by omega)).Es _) (by omega) hB).mono ?_;rintro e w9 ⟨rfl,FJ,Lk⟩;have HB9:=ae (((HBE.out.setCell (p:=⟨g,800,none⟩) hB _).setCell (p:=⟨g,801,none⟩) hB _).trans Lk);have HDF:=ae FJ;clear FJ Lk;go_wp2_with fail;go_end0;have Lw:min L 800=L:=mS (by omega);rw[HE.out.1,HE.out.2.1,HE.out.2.2.1,HE.out.2.2.2,Lw];exact⟨rfl,HDF.out,HB9.out⟩
def eL (w:World) (g:Nat) (S:cM) (neg:Bool):Prop:=bu w g S.D S.nd S.dp neg S.tr
theorem Uj (w:World) (B g C:Nat) (S:cM) (neg:Bool) (k:Nat) (h:eL w g S neg) (hc:kC w C) (cH:S.Ok) (mP:1≤k) (hk:k≤60) (tV: -1000000000000≤S.dp∧S.dp≤1000000000000) (hB:B≤g):
  Calls prog 237 #[.pointer (some ⟨g,0,none⟩),.int .u64 (k:Int)] w fun e w'=>e= .returned (.tuple #[])∧eL w' g (S.ls k) neg∧Below B w w':=
 D0 w B g C S.D S.nd k S.dp neg S.tr h hc cH.gK cH.pos cH.le mP hk tV hB
theorem Uk (w:World) (B g:Nat) (S:cM) (neg:Bool) (k:Nat) (h:eL w g S neg) (cH:S.Ok) (mP:1≤k) (hk:k≤60) (tV: -1000000000000≤S.dp∧S.dp≤1000000000000) (hB:B≤g):
  Calls prog 238 #[.pointer (some ⟨g,0,none⟩),.int .u64 (k:Int)] w fun e w'=>e= .returned (.tuple #[])∧eL w' g (S.rs k) neg∧Below B w w':=
 Df w B g S.D S.nd k S.dp neg S.tr h cH.gK cH.pos cH.le mP hk tV hB
theorem Ω (h:S.Ok) {k:Nat} (h1:1≤k) (h2:k≤60):S.dp≤(S.ls k).dp∧(S.ls k).dp≤S.dp+20:=by
 rw[(cM.yF h h1 h2).2.1];have:=jY h.gK h.pos h1 h2;omega
theorem Ov (h:S.Ok) {k:Nat} (h1:1≤k) (h2:k≤60):S.dp-20≤(S.rs k).dp∧(S.rs k).dp≤S.dp:=by
 rw[(cM.vH h h1 h2).2.1];have:=oD h.gK h.pos h2;omega
theorem uK (w:World) (B g C:Nat) (S:cM) (neg:Bool) (k:Nat) (h:eL w g S neg) (hc:kC w C) (cH:S.Ok) (mP:1≤k) (hk:k≤100000000) (tV: -10000000000≤S.dp∧S.dp≤10000000000) (hB:B≤g) (hC:C<B) (hG:11<B):
  Calls prog 232 #[.pointer (some ⟨g,0,none⟩),.int .i64 (k:Int)] w fun e w'=>e= .returned (.tuple #[])∧eL w' g (cM.Xe k S) neg∧Below B w w':=by
 have hp:=cH.pos;obtain⟨n1,AE⟩: ∃n1,S.nd=n1+1:=⟨S.nd-1,by omega⟩;have d0:w.cell? ⟨g,800,none⟩=some (.int .i64 ((n1:Int)+1)):=by rw[h.nd,AE];rfl
 have q0:((n1:Int)+1=0)=False:=bT (by omega);have q1:((0:Int)<(k:Int))=True:=aD (by omega);have q1n:0<k:=mP;obtain⟨T,hT⟩: ∃T,T=cM.Xe k S:=⟨_,rfl⟩;rw[←hT];have H:=ae h;have HC:=ae hc;have FD:=ae cH;have XG:=ae tV;have HT:=ae hT;clear h hc cH tV hT AE hp;go_enter func232,ntmps232;go_wp2_with fail;go_loopg [1] k (fun gg t1 wr=> ∃(kk:Nat) (S2:cM),Hid (gg=kk∧1≤kk∧kk≤k∧S2.Ok∧eL wr g S2 neg∧Below B w wr∧cM.Xe kk S2=T∧ -20000000000+20*(kk:Int)≤S2.dp∧S2.dp+20*(kk:Int)≤20000000000)∧t1= .int .i64 (kk:Int))
 case atStart=>exact⟨k,S,ae ⟨rfl,mP,aS _,FD,H,aU _ _,HT.symm,by have:=XG.out;omega,by have:=XG.out;omega⟩,rfl⟩
 case round=>
  obtain⟨kk,S2,hI,rfl⟩:=hrel;by_cases hb:60<kk
  ·have p1:((60:Int)<(kk:Int))=True:=aD (by omega);go_wp2_with fail;refine(Uj _ B g C S2 neg 60 hI.2.2.2.2.1 (HC.below hI.2.2.2.2.2.1 hG hC) hI.2.2.2.1 (by omega) (by omega) (by have:=hI.2.2.2.2.2.2.2;omega) hB).mono ?_;rintro e w3 ⟨rfl,sf,cu⟩;have h3:=Ω hI.2.2.2.1 (k:=60) (by omega) (by omega);have HX:=ae (And.intro sf (And.intro (hI.2.2.2.2.2.1.trans cu) h3));obtain⟨k2,zE⟩: ∃k2,k2=kk-60:=⟨_,rfl⟩;have P4:wrap64 ((kk:Int)-60)=(k2:Int):=by simp only[wrap64];have:=hI.2.2.1;omega
   have H8:=ae zE;clear sf cu h3 zE;go_wp2_with fail;go_roundg k2
   case measure=>have:=hI.1;have:=H8.out;omega
   case rel=>
    have zE:=H8.out;have tV:=hI.2.2.2.2.2.2.2;have h3:=HX.2.2;refine⟨k2,S2.ls 60,ae ⟨rfl,by omega,by have:=hI.2.2.1;omega,(cM.yF hI.2.2.2.1 (by omega) (by omega)).1,HX.1,HX.2.1,?_,by omega,by omega⟩,?_⟩
    ·rw[zE,←cM.UG hb];exact hI.2.2.2.2.2.2.1
    ·first|rfl|exact iB (by omega)
  ·have p1:((60:Int)<(kk:Int))=False:=bT (by omega);go_wp2_with fail;refine(Uj _ B g C S2 neg kk hI.2.2.2.2.1 (HC.below hI.2.2.2.2.2.1 hG hC) hI.2.2.2.1 hI.2.1 (by omega) (by have:=hI.2.2.2.2.2.2.2;omega) hB).mono ?_;rintro e w3 ⟨rfl,sf,cu⟩;have kF:T=S2.ls kk:=by rw[←hI.out.2.2.2.2.2.2.1,cM.vZ (by omega)]
   have HX:=ae (And.intro sf (And.intro (hI.2.2.2.2.2.1.trans cu) kF));clear sf cu kF;go_wp2_with fail;go_end0;rw[HX.out.2.2];exact⟨rfl,HX.1,HX.2.1⟩
theorem V3 (h:k≤100000000):IntKind.u64.wrap (wrap64 (- -(k:Int)))=(k:Int):=by
 simp only[cZ,wrap64];omega
theorem uL (w:World) (B g:Nat) (S:cM) (neg:Bool) (k:Nat) (z:Int) (hz:z= -(k:Int)) (h:eL w g S neg) (cH:S.Ok) (mP:1≤k) (hk:k≤100000000) (tV: -10000000000≤S.dp∧S.dp≤10000000000) (hB:B≤g):
  Calls prog 232 #[.pointer (some ⟨g,0,none⟩),.int .i64 z] w fun e w'=>e= .returned (.tuple #[])∧eL w' g (cM.Lr k S) neg∧Below B w w':=by
 have hp:=cH.pos;obtain⟨n1,AE⟩: ∃n1,S.nd=n1+1:=⟨S.nd-1,by omega⟩;have d0:w.cell? ⟨g,800,none⟩=some (.int .i64 ((n1:Int)+1)):=by rw[h.nd,AE];rfl
 have q0:((n1:Int)+1=0)=False:=bT (by omega);have q1:((0:Int)<z)=False:=bT (by omega);have q2:(z<0)=True:=aD (by omega);obtain⟨T,hT⟩: ∃T,T=cM.Lr k S:=⟨_,rfl⟩;rw[←hT];have H:=ae h;have FD:=ae cH;have XG:=ae tV;have HT:=ae hT;have HZ:=ae hz;clear h cH tV hT AE hp hz;go_enter func232,ntmps232;go_wp2_with fail;go_loopg [1] k (fun gg t1 wr=> ∃(kk:Nat) (z:Int) (S2:cM),Hid (gg=kk∧1≤kk∧kk≤k∧S2.Ok∧eL wr g S2 neg∧Below B w wr∧cM.Lr kk S2=T∧ -20000000000+20*(kk:Int)≤S2.dp∧S2.dp+20*(kk:Int)≤20000000000∧z= -(kk:Int))∧t1= .int .i64 z)
 case atStart=>exact⟨k,z,S,ae ⟨rfl,mP,aS _,FD,H,aU _ _,HT.symm,by have:=XG.out;omega,by have:=XG.out;omega,HZ⟩,rfl⟩
 case round=>
  obtain⟨kk,z,S2,hI,rfl⟩:=hrel;have hz:=hI.2.2.2.2.2.2.2.2.2;have hkk:=hI.2.2.1;by_cases hb:60<kk
  ·have p1:(z< -60)=True:=aD (by omega);have P4:wrap64 (z+60)= -((kk-60:Nat):Int):=by simp only[wrap64];omega
   have HS:=ae P4;have ZN: -100000000≤z∧z<0:=by have:=hI.2.1;omega
   have HZZ:=ae hz;clear hz P4;go_wp2_with fail;refine(Uk _ B g S2 neg 60 hI.2.2.2.2.1 hI.2.2.2.1 (by omega) (by omega) (by have:=hI.2.2.2.2.2.2.2;omega) hB).mono ?_;rintro e w3 ⟨rfl,sf,cu⟩;have h3:=Ov hI.2.2.2.1 (k:=60) (by omega) (by omega);have HX:=ae (And.intro sf (And.intro (hI.2.2.2.2.2.1.trans cu) h3));clear sf cu h3;go_wp2_with fail;go_roundg (kk-60)
   case measure=>have:=hI.1;omega
   case rel=>
    have tV:=hI.2.2.2.2.2.2.2;have h3:=HX.2.2;refine⟨kk-60,z+60,S2.rs 60,ae ⟨rfl,by omega,by omega,(cM.vH hI.2.2.2.1 (by omega) (by omega)).1,HX.1,HX.2.1,?_,by omega,by omega,by have:=HZZ.out;omega⟩,?_⟩
    ·rw[←cM.Jd hb];exact hI.2.2.2.2.2.2.1
    ·first|rfl|exact iB (by rw[HS.out];have:=HZZ.out;omega)
  ·have p1:(z< -60)=False:=bT (by omega);have Xz:IntKind.u64.wrap (wrap64 (-z))=(kk:Int):=by rw[hz];exact V3 (by omega)
   have arF:IntKind.u64.wrap (-z)=(kk:Int):=by simp only[cZ];omega
   have ZN: -60≤z∧z<0:=by have:=hI.2.1;omega
   have HZZ:=ae hz;clear hz;go_wp2_with fail;refine(Uk _ B g S2 neg kk hI.2.2.2.2.1 hI.2.2.2.1 hI.2.1 (by omega) (by have:=hI.2.2.2.2.2.2.2;omega) hB).mono ?_;rintro e w3 ⟨rfl,sf,cu⟩;have kF:T=S2.rs kk:=by rw[←hI.out.2.2.2.2.2.2.1,cM.wa (by omega)]
   have HX:=ae (And.intro sf (And.intro (hI.2.2.2.2.2.1.trans cu) kF));clear sf cu kF;go_wp2_with fail;go_end0;rw[HX.out.2.2];exact⟨rfl,HX.1,HX.2.1⟩
theorem Zl (h1:48≤d) (h2:d≤57):(((d:Int)-48)%2 != 0)=decide ((d-48)%2≠0):=by
 rw[eo,jo,zK];omega
theorem acD:decide ((53:Int)≤(d:Int))=decide (53≤d):=by
 rw[eo,zK,zK];omega
theorem KM (w:World) (g:Nat) (S:cM) (neg:Bool) (n:Int) (h:eL w g S neg) (hn:n<0∨(S.nd:Int)≤n):
  Calls prog 239 #[.pointer (some ⟨g,0,none⟩),.int .i64 n] w fun e w'=>e= .returned (.bool false)∧w'=w:=by
 have d0:=h.nd;have H:=ae h;clear h;rcases Int.lt_or_le n 0 with h0|h0
 ·have p0:(n<0)=True:=aD h0;go_enter func239,ntmps239;go_wp2_with fail;go_ret;exact⟨rfl,rfl⟩
 ·have p0:(n<0)=False:=bT (by omega);have p1:((S.nd:Int)≤n)=True:=aD (by omega);go_enter func239,ntmps239;go_wp2_with fail;go_ret;exact⟨rfl,rfl⟩
theorem NI (w:World) (g:Nat) (S:cM) (neg:Bool) (i:Nat) (h:eL w g S neg) (cH:S.Ok) (hi:i<S.nd):
  Calls prog 239 #[.pointer (some ⟨g,0,none⟩),.int .i64 (i:Int)] w fun e w'=>e= .returned (.bool (Be S i))∧w'=w:=by
 obtain⟨T,hT⟩: ∃T,T=Be S i:=⟨_,rfl⟩;rw[←hT];have hle:=cH.le;have d0:=h.nd;have t0:=h.tr;have di:=h.gK i (by omega);have qK:=cH.gK.1 i hi;have p0:((i:Int)<0)=False:=bT (by omega);have p1:((S.nd:Int)≤(i:Int))=False:=bT (by omega);have p2:((i:Int)<800)=True:=aD (by omega);by_cases Hr:S.D i=53
 ·have e53:((S.D i:Int)==53)=true:=by rw[Hr];rfl
  by_cases hl:i+1=S.nd
  ·have e1:((i:Int)+1==(S.nd:Int))=true:=by rw[cx];omega
   have xc:T=(S.tr||En S.D i):=by rw[hT,Be,az ⟨Hr,hl⟩]
   cases Hn:S.tr
   ·rw[Hn]at t0 xc;have hT3:T=En S.D i:=by rw[xc,Bool.false_or]
    cases i with
    |zero=>
     have HX:=ae (show T=false by rw[hT3];rfl);have HH:=ae (And.intro Hr hl);clear xc hT hT3 h cH Hr hl qK;go_enter func239,ntmps239;go_wp2_with fail;go_ret;exact⟨ar HX.out.symm,rfl⟩
    |succ q=>
     have dq:=h.gK q (by omega);have Xg:=cH.gK.1 q (by omega);have ho:=Zl Xg.1 Xg.2;have HX:=ae (show T=decide ((S.D q-48)%2≠0)by rw[hT3,En,dO (by omega),mx,Nat.add_sub_cancel]);have HH:=ae (And.intro Hr hl);have HO:=ae ho;clear xc hT hT3 h cH Hr hl qK Xg;go_enter func239,ntmps239;go_wp2_with fail;go_ret;exact⟨ar (by rw[HX.out,eo,zK,zK];omega),rfl⟩
   ·rw[Hn]at t0 xc;have HX:=ae (show T=true by rw[xc,Bool.true_or]);have HH:=ae (And.intro Hr hl);clear xc hT h cH Hr hl qK;go_enter func239,ntmps239;go_wp2_with fail;go_ret;exact⟨by rw[HX.out];rfl,rfl⟩
  ·have e1:((i:Int)+1==(S.nd:Int))=false:=by rw[bN];omega
   have HX:=ae (show T=true by rw[hT,Be,ah (fun h=>hl h.2)];exact dO (by omega));have p5:((53:Int)≤(S.D i:Int))=True:=aD (by omega);have HH:=ae (And.intro Hr hl);clear hT h cH Hr hl qK;go_enter func239,ntmps239;go_wp2_with fail;go_ret;exact⟨ar HX.out.symm,rfl⟩
 ·have e53:((S.D i:Int)==53)=false:=by rw[bN];omega
  have HX:=ae (show T=decide (53≤S.D i)by rw[hT,Be,ah (fun h=>Hr h.1)]);have HH:=ae Hr;clear hT h cH Hr qK;go_enter func239,ntmps239;go_wp2_with fail;go_ret;exact⟨ar (by rw[HX.out];exact acD),rfl⟩
theorem Zm (w:World) (g:Nat) (S:cM) (neg:Bool) (n:Int) (h:eL w g S neg) (cH:S.Ok):
  Calls prog 239 #[.pointer (some ⟨g,0,none⟩),.int .i64 n] w fun e w'=>e= .returned (.bool (Xf S n))∧w'=w:=by
 by_cases hn:n<0∨(S.nd:Int)≤n
 ·rw[Xf,az hn];exact KM w g S neg n h hn
 ·rw[Xf,ah hn];obtain⟨i,rfl⟩: ∃i:Nat,n=(i:Int):=⟨n.toNat,by omega⟩;exact NI w g S neg i h cH (by omega)
theorem Zn {a:Nat} :(a%M*10+d)%M=(a*10+d)%M:=by
 rw[Nat.add_mod,Nat.mod_mul_mod,←Nat.add_mod]
theorem acE (h1:48≤d) (h2:d≤57):IntKind.u64.wrap (IntKind.u64.wrap ((n:Int)*10)+((d:Int)-48))=(((n*10+(d-48))%18446744073709551616:Nat):Int):=by
 simp only[cZ];omega
theorem acF (w:World) (g:Nat) (S:cM) (neg:Bool) (h:eL w g S neg) (cH:S.Ok):
  Calls prog 233 #[.pointer (some ⟨g,0,none⟩)] w fun e w'=>e= .returned (.int .u64 (FB S:Int))∧w'=w:=by
 obtain⟨T,hT⟩: ∃T,T=FB S:=⟨_,rfl⟩;rw[←hT];have d0:=h.nd;have d1:=h.dp;have H:=ae h;have FD:=ae cH;have hle:=cH.le;by_cases h20:20<S.dp
 ·have p0:((20:Int)<S.dp)=True:=aD h20;have HT:=ae (show T=18446744073709551615 by rw[hT,FB,az h20]);clear hT h cH;go_enter func233,ntmps233;go_wp2_with fail;go_ret;exact⟨aH (by rw[HT.out];rfl),rfl⟩
 ·have p0:((20:Int)<S.dp)=False:=bT h20;obtain⟨X,hX⟩: ∃X,X=S.dp.toNat:=⟨_,rfl⟩;have HT:=ae (show T=if Xf S S.dp=true then(lH S X+1)%18446744073709551616 else lH S X by rw[hT,FB,ah h20,hX]);have arG:X≤20:=by omega
  have dy: ∀i,(lH S i*10+sa S.D S.nd i)%18446744073709551616=lH S (i+1):=fun i=>by rw[lH,Zn];rfl
  have xa:=ae dy;have HX:=ae hX;clear hT h cH dy hX;go_enter func233,ntmps233;go_upto_block 0 with fail
  go_cut [3,4]from 10 to 36 (fun t3 t4 wx=> ∃i:Nat,Hid (i≤X∧(i=X∨S.nd≤i))∧t3= .int .i64 (i:Int)∧t4= .int .u64 (lH S i:Int)∧wx=w)
  case first=>
   go_wp2_with fail;go_loopg [3,4] 30 (fun gg t3 t4 wr=> ∃i:Nat,Hid (gg=30-i∧i≤X∧wr=w)∧t3= .int .i64 (i:Int)∧t4= .int .u64 (lH S i:Int))
   case atStart=>exact⟨0,ae ⟨rfl,aV _,rfl⟩,rfl,rfl⟩
   case round=>
    obtain⟨i,hI,rfl,rfl⟩:=hrel;obtain rfl:wr=w:=hI.out.2.2;have hs:=xa.out i;by_cases h1:(i:Int)<S.dp
    ·have p1:((i:Int)<S.dp)=True:=aD h1;by_cases h2:i<S.nd
     ·have p2:((i:Int)<(S.nd:Int))=True:=aD (by omega);have p3:((i:Int)<800)=True:=aD (by omega);have di:=H.out.gK i (by omega);have qK:=FD.out.gK.1 i h2;rw[sa,az h2]at hs;have HS:=ae hs;have HDI:=ae qK;have hiX:i+1≤X:=by have:=HX.out;omega
      clear hs;go_wp2_with fail;go_roundg (30-(i+1))
      case measure=>have:=hI.out.1;omega
      case rel=>exact⟨i+1,ae ⟨rfl,hiX,rfl⟩,rfl,by rw[←HS.out];exact iB (acE HDI.out.1 HDI.out.2)⟩
     ·have p2:((i:Int)<(S.nd:Int))=False:=bT (by omega);go_wp2_with fail;go_meet;exact⟨i,ae ⟨hI.out.2.1,.inr (by omega)⟩,rfl,rfl,rfl⟩
    ·have p1:((i:Int)<S.dp)=False:=bT h1;go_wp2_with fail;go_meet;exact⟨i,ae ⟨hI.out.2.1,.inl (by have:=HX.out;have:=hI.out.2.1;omega)⟩,rfl,rfl,rfl⟩
  case rest=>
   obtain⟨i0,s9,rfl,rfl,rfl⟩:=hcut;go_wp2_with fail;go_loopg [3,4] (30-i0) (fun gg t3 t4 wr=> ∃i:Nat,Hid (gg=30-i∧i≤X∧(i=X∨S.nd≤i)∧wr=wc)∧t3= .int .i64 (i:Int)∧t4= .int .u64 (lH S i:Int))
   case atStart=>exact⟨i0,ae ⟨rfl,s9.out.1,s9.out.2,rfl⟩,rfl,rfl⟩
   case round=>
    obtain⟨i,hI,rfl,rfl⟩:=hrel;obtain rfl:wr=wc:=hI.out.2.2.2;have hs:=xa.out i;by_cases h1:(i:Int)<S.dp
    ·have p1:((i:Int)<S.dp)=True:=aD h1;have hiX:i+1≤X:=by have:=HX.out;omega
     have qM:S.nd≤i:=by have:=hI.out.2.2.1;omega
     rw[sa,ah (by omega)]at hs;have HS:=ae hs;clear hs;go_wp2_with fail;go_roundg (30-(i+1))
     case measure=>have:=hI.out.1;omega
     case rel=>exact⟨i+1,ae ⟨rfl,hiX,.inr (by omega),rfl⟩,rfl,by rw[←HS.out];exact iB (by simp only[cZ];omega)⟩
    ·have p1:((i:Int)<S.dp)=False:=bT h1;have hiX:i=X:=by have:=HX.out;have:=hI.out.2.1;omega
     subst hiX;go_wp2_with fail;refine(Zm _ g S neg S.dp H.out FD.out).mono ?_;rintro e w2 ⟨rfl,rfl⟩;cases hb:Xf S S.dp
     ·have HB:=ae (show T=lH S i by rw[HT.out,hb,ah (by simp)]);go_wp2_with fail;go_ret;exact⟨aH (by rw[HB.out]),rfl⟩
     ·have HB:=ae (show T=(lH S i+1)%18446744073709551616 by rw[HT.out,hb,az rfl]);go_wp2_with fail;go_ret;exact⟨aH (by rw[HB.out];simp only[cZ];omega),rfl⟩
