import Derived.Test.YtcdoilkjmjbgmaaGreatDoorW22
import Derived.Deep.CutBlock
import Derived.Deep.LoopGhost
/- Part of the proof of YtcdoilkjmjbgmaaGreatDoorCardX: DecB DecC DecD DecE DecF. -/
set_option maxRecDepth 100000
set_option maxHeartbeats 4000000
set_option linter.unusedVariables false
set_option linter.unusedSimpArgs false
namespace Go.Proofs.YtcdoilkjmjbgmaaGreatDoor
open Go.RowKit
open Go.Proofs.Tryz
variable {a b:Int} {D:Nat→Nat} {nd k r n K d F i C B M:Nat} {l:List UInt8} {w w':World} {S:cG}
theorem iK {k:IntKind} (h:a=b):Value.int k a=Value.int k b:=by rw[h]
theorem RT (h:jx D nd) (hn:0<nd) (hk:k≤60) (au:pre D nd r<2^k):r≤20∧pre D nd r<1152921504606846976:=by
 have h60:(2:Nat)^k≤2^60:=ee (by omega) hk;refine⟨?_,by omega⟩;rcases dD r 21 with h1|h1
 ·omega
 ·exfalso;obtain⟨q,rfl⟩: ∃q,r=q+1:=⟨r-1,by omega⟩;have h2:=lN h hn q;have h3:(10:Nat)^20≤10^q:=ee (by omega) (by omega);omega
theorem Hp (hK:0<K):(((n/K:Nat):Int)==0)= !decide (K≤n):=by
 by_cases h:K≤n
 ·have:1≤n/K:=(Nat.one_le_div_iff hK).2 h;rw[dQ h,bK.2 (by omega)];rfl
 ·rw[tC (by omega),gp h];rfl
theorem Zy (hn:n<1152921504606846976) (h1:48≤d) (h2:d≤57):IntKind.u64.wrap (IntKind.u64.wrap ((n:Int)*10+IntKind.u64.wrap (d:Int))-48)=((n*10+(d-48):Nat):Int):=by
 simp only[cT];omega
theorem RU (hn:n<1152921504606846976):IntKind.u64.wrap ((n:Int)*10)=((n*10:Nat):Int):=by
 simp only[cT];omega
theorem ib (h:r<F):F-(intOf (.int .i64 ((r:Int)+1))).toNat<F-(intOf (.int .i64 (r:Int))).toNat:=by
 have h1:(intOf (.int .i64 ((r:Int)+1))).toNat=r+1:=rfl;have h2:(intOf (.int .i64 (r:Int))).toNat=r:=rfl;rw[h1,h2];exact Nat.sub_lt_sub_left h (vw r)
theorem Wf (h0:0<K) (h:K≤1152921504606846976):IntKind.u64.wrap (IntKind.u64.wrap (K:Int)-1)=((K-1:Nat):Int):=by
 simp only[cT];omega
theorem wJ (h:d≤9):IntKind.u64.wrap ((d:Int)+48)%256=((48+d:Nat):Int):=by
 simp only[cT];omega
theorem Wg (hn:n%K<1152921504606846976) (h1:48≤d) (h2:d≤57):IntKind.u64.wrap (IntKind.u64.wrap (IntKind.u64.wrap ((n:Int)%(K:Int)*10)+IntKind.u64.wrap (d:Int))-48)=((n%K*10+(d-48):Nat):Int):=by
 have e:(n:Int)%(K:Int)=((n%K:Nat):Int):=by simp
 rw[e];generalize n%K=m at hn ⊢
 simp only[cT];omega
theorem uQ (hn:n%K<1152921504606846976):IntKind.u64.wrap ((n:Int)%(K:Int)*10)=((n%K*10:Nat):Int):=by
 have e:(n:Int)%(K:Int)=((n%K:Nat):Int):=by simp
 rw[e];generalize n%K=m at hn ⊢
 simp only[cT];omega
theorem JX (hK:K=2^k) (h0:0<K):(((n:Nat):Int)/2^k==0)= !decide (K≤n):=by
 rw[←Hp h0,hK];simp
theorem Dk (w:World) (B g:Nat) (D:Nat→Nat) (nd k:Nat) (dp:Int) (neg tr:Bool) (h:bh w g D nd dp neg tr) (hd:jx D nd) (hn:0<nd) (sX:nd≤800) (lC:1≤k) (hk:k≤60) (ud: -1000000000000≤dp∧dp≤1000000000000) (hB:B≤g):
  Calls prog 238 #[.pointer (some ⟨g,0,none⟩),.int .u64 (k:Int)] w fun e w'=>e= .returned (.tuple #[])∧bh w' g (xt D nd k) (DG D nd k) (P5 D nd k dp) neg (X4 D nd k tr)∧Below B w w':=by
 have H:=aa h;have HD:=aa hd;obtain⟨K,yr⟩: ∃K,K=2^k:=⟨_,rfl⟩;have hK0:0<K:=by rw[yr];exact eX (by omega)
 have HK:=aa yr;have abS:K≤1152921504606846976:=by rw[yr];exact ee (by omega) hk
 have PA:((2:Int)^min k 64)=(K:Int):=by rw[mr (by omega),yr];simp
 have iJ: ∀r,tI D nd k r=decide (K≤pre D nd r):=fun r=>by rw[tI,yr]
 obtain⟨R0,hR0⟩: ∃R,R=AL D nd k:=⟨_,rfl⟩;obtain⟨P,hP⟩: ∃P:Nat→Nat,P=pre D nd:=⟨_,rfl⟩;have hPs: ∀r,P (r+1)=P r*10+sj D nd r:=fun r=>by rw[hP];rfl
 have hP0:P 0=0:=by rw[hP];rfl
 have pG: ∀r,P r<K→r≤20∧P r<1152921504606846976:=fun r hr=>by rw[hP]at hr ⊢;exact RT hd hn hk (by rw[←yr];exact hr)
 have pN: ∀r,0<r→P r≠0:=fun r hr=>by
  obtain⟨q,rfl⟩: ∃q,r=q+1:=⟨r-1,by omega⟩;have:=lN hd hn q;rw[hP];have h1:0<10^q:=eX (by omega);omega
 have Oa:=aa hPs;have HP0:=aa hP0;have xb:=aa pG;have alk:=aa pN;have Ym:=aa iJ;have ZZ:=aa hR0;have HP:=aa hP;clear h hd yr hR0 hP hPs hP0 pG pN iJ;go_enter func238,ntmps238;go_upto_block 0 with fail
 go_cut [4,6,7]from 12 to 48 (fun t4 t6 t7 wx=>t4= .int .i64 (R0:Int)∧t6= .int .u64 (P R0:Int)∧Hid (K≤P R0∧P R0<10*K∧1≤R0∧R0≤21)∧wx=w)
 case first=>
  go_wp2_with fail;go_loopw [4,6,7] (fun t4 t6 t7 wr=> ∃r:Nat,Hid (pQ (tI D nd k) (1000-r) r=R0∧r≤21∧P r<10*K∧(r=0→True))∧t4= .int .i64 (r:Int)∧t6= .int .u64 (P r:Int)∧wr=w) (fun t4 _ _ _=>1000-(intOf t4).toNat)
  case atStart=>exact⟨0,aa ⟨by rw[ZZ.out];rfl,by omega,by rw[HP0.out];omega,fun _=>trivial⟩,rfl,by rw[HP0.out];rfl,rfl⟩
  case round=>
   obtain⟨r,hI,rfl,rfl,rfl⟩:=hrel;have hz:=JX (n:=P r) HK.out hK0;have d0:=H.out.nd;by_cases lW:K≤P r
   ·rw[dQ lW]at hz;have HZ:=aa (show R0=r by
     rw[←hI.out.1];exact BC (by have:=hI.out.2.1;omega) (by rw[Ym.out,←HP.out];exact dQ lW))
    go_wp2_with fail;go_meet;rw[HZ.out];exact⟨rfl,rfl,aa ⟨lW,hI.out.2.2.1,by
     rcases jK r with h|h
     ·rw[h,HP0.out]at lW;omega
     ·exact h,hI.out.2.1⟩,rfl⟩
   ·rw[gp lW]at hz;have pG:=xb.out r (by omega);have HSR:=aa (show pQ (tI D nd k) (1000-(r+1)) (r+1)=R0 by
     rw[←hI.out.1];exact(xO (by omega) (by rw[Ym.out,←HP.out];exact gp lW)).symm)
    have hd9:=pZ HD.out r;have Lb:=Oa.out r;by_cases PV:r<nd
    ·have p1:((nd:Int)≤(r:Int))=False:=bL (by omega);have p2:((r:Int)<800)=True:=az (by omega);have dr:=H.out.gQ r (by omega);have WT:=HD.out.1 r PV;have qR:sj D nd r=D r-48:=by rw[sj,ar PV]
     have HX:=aa (And.intro Lb (And.intro qR (And.intro WT pG)));clear Lb qR WT pG hd9;go_wp2_with fail;go_roundw
     case rel=>
      refine⟨r+1,aa ⟨HSR.out,by have:=HX.out.2.2.2.1;omega,?_,fun _=>trivial⟩,rfl,?_,by first|rfl|trivial⟩
      ·rw[HX.out.1,HX.out.2.1];have:=HX.out.2.2.1;omega
      ·rw[HX.out.1,HX.out.2.1];exact iK (Zy HX.out.2.2.2.2 HX.out.2.2.1.1 HX.out.2.2.1.2)
     case measure=>exact ib (by omega)
    ·have p1:((nd:Int)≤(r:Int))=True:=az (by omega);have bC:(((P r:Nat):Int)==0)=false:=bK.2 (by have:=alk.out r (by omega);omega);have HX:=aa pG;clear Lb hd9 pG;go_wp2_with fail;go_loopw [4,6] (fun t4 t6 wr2=> ∃r:Nat,Hid (pQ (tI D nd k) (1000-r) r=R0∧r≤21∧P r<10*K∧nd≤r)∧t4= .int .i64 (r:Int)∧t6= .int .u64 (P r:Int)∧wr2=wr) (fun t4 _ _=>1000-(intOf t4).toNat)
     case atStart=>exact⟨r,aa ⟨hI.out.1,hI.out.2.1,hI.out.2.2.1,by omega⟩,rfl,rfl,rfl⟩
     case round=>
      obtain⟨r2,kl,rfl,rfl,rfl⟩:=hrel;have ej:=JX (n:=P r2) HK.out hK0;by_cases LN:K≤P r2
      ·rw[dQ LN]at ej;have HZ:=aa (show R0=r2 by
        rw[←kl.out.1];exact BC (by have:=kl.out.2.1;omega) (by rw[Ym.out,←HP.out];exact dQ LN))
       go_wp2_with fail;go_meet;rw[HZ.out];exact⟨rfl,rfl,aa ⟨LN,kl.out.2.2.1,by have:=kl.out.2.2.2;omega,kl.out.2.1⟩,rfl⟩
      ·rw[gp LN]at ej;have pG:=xb.out r2 (by omega);have alm:=aa (show pQ (tI D nd k) (1000-(r2+1)) (r2+1)=R0 by
        rw[←kl.out.1];exact(xO (by omega) (by rw[Ym.out,←HP.out];exact gp LN)).symm)
       have Lb:=Oa.out r2;have qR:sj D nd r2=0:=by rw[sj,af (by have:=kl.out.2.2.2;omega)]
       have HX2:=aa (And.intro Lb (And.intro qR pG));have atr:=pG.1;clear Lb qR pG;go_wp2_with fail;go_roundw
       case rel=>
        refine⟨r2+1,aa ⟨alm.out,by have:=HX2.out.2.2.1;omega,?_,by have:=kl.out.2.2.2;omega⟩,rfl,?_,by first|rfl|trivial⟩
        ·rw[HX2.out.1,HX2.out.2.1];omega
        ·rw[HX2.out.1,HX2.out.2.1,iv]
         first|exact iK (RU HX2.out.2.2.2)|exact iK (by omega)
       case measure=>exact ib (F:=1000) (by omega)
 case rest=>
  obtain⟨rfl,rfl,hX,rfl⟩:=hcut;have d1:=H.out.dp;have f1:=H.out.free 801;have aoN:IntKind.u64.wrap (IntKind.u64.wrap (2^k)-1)=((K-1:Nat):Int):=by
   rw[show ((2:Int)^k)=(K:Int)by rw[HK.out];simp];exact Wf hK0 abS
  obtain⟨N,hN⟩: ∃N:Nat→Nat,N=fun j=>P (R0+j)%(10*K):=⟨_,rfl⟩
  have hNd: ∀j,N j/K=jh D nd k R0 j∧N j%K*10+sj D nd (R0+j)=N (j+1)∧N j<10*K:=fun j=>by
   have h1:=Yy (X:=P (R0+j)) hK0 (pZ HD.out (R0+j));rw[hN];refine⟨?_,?_,lE _ (by omega)⟩
   ·rw[h1.1,jh,←HP.out,←HK.out]
   ·show P (R0+j)%(10*K)%K*10+sj D nd (R0+j)=P (R0+(j+1))%(10*K);rw[h1.2,←Bd,Oa.out]
  have sZ:N 0=P R0:=by rw[hN];exact td hX.out.2.1
  have hNe: ∀j,nd+(k+1)≤R0+j→N j=0:=fun j hj=>by
   rw[hN];show P (R0+j)%(10*K)=0;obtain⟨m,hm⟩: ∃m,R0+j=nd+(k+1+m):=⟨R0+j-nd-(k+1),by omega⟩;rw[hm,HP.out,ig,HK.out];have e:(10:Nat)^(k+1+m)=(10*2^k)*(5^k*10^m):=by
    rw[dX,ef,show (10:Nat)^k=2^k*5^k by rw[←Bh]];simp only[bV,fu,qD]
   rw[e,←bV,fu (pre D nd nd),bV];exact Nat.mul_mod_right _ _
  have Tb: ∀j,mE D nd k R0 j=decide (N j=0):=fun j=>by rw[mE,hN,←HP.out,←HK.out]
  have H1:=aa (H.out.EH (dp-((R0:Int)-1)));have HN:=aa (And.intro hNd (And.intro sZ (And.intro hNe Tb)));have ats:=hX.out.2.2.2;have hR1:=hX.out.2.2.1;have aln:=sZ;rw[←sZ];clear hN hNd sZ hNe Tb aln;have bZ:=aa ((aS B wc).setCell (p:=⟨g,801,none⟩) hB (.int .i64 (dp-((R0:Int)-1))));go_upto_block 4 with fail
  go_wp2_with fail;go_loopw [4,5,6,9,10] (fun t4 t5 t6 _ _ wr=> ∃j:Nat,Hid ((R0+j≤nd∨j=0)∧bh wr g (sk D nd k R0 j) nd (dp-((R0:Int)-1)) neg tr∧Below B wc wr)∧t4= .int .i64 ((R0+j:Nat):Int)∧t5= .int .i64 (j:Int)∧t6= .int .u64 (N j:Int)) (fun t4 _ _ _ _ _=>nd-(intOf t4).toNat)
  case atStart=>exact⟨0,aa ⟨.inr rfl,by rw[UJ];exact H1.out,bZ.out⟩,rfl,rfl,rfl⟩
  case round=>
   obtain⟨j,hI,rfl,rfl,rfl⟩:=hrel;have d0:=hI.out.2.1.nd;obtain⟨r,hr⟩: ∃r,r=R0+j:=⟨_,rfl⟩;rw[←hr];have cA:=HN.out.1 j;rw[←hr]at cA;have hjr:j+1≤r:=by omega
   have FN:=aa hr;clear hr;by_cases PV:r<nd
   ·have p1:((r:Int)<(nd:Int))=True:=az (by omega);have Xe:j<800:=by omega
    have p2:((r:Int)<800)=True:=az (by omega);have p3:((j:Int)<800)=True:=az (by omega);have dr:=hI.out.2.1.gQ r (by omega);rw[UI (by omega)]at dr;have fj:=hI.out.2.1.free j;have dj:=hI.out.2.1.gQ j Xe;have WT:=HD.out.1 r PV;have qR:sj D nd r=D r-48:=by rw[sj,ar PV]
    have g1:((N j:Int)/2^k)=((jh D nd k R0 j:Nat):Int):=by
     rw[←cA.1,HK.out];simp
    have g2:bits .and .u64 (N j:Int) ((K-1:Nat):Int)=((N j%K:Nat):Int):=by
     rw[vE _ _ (by have:=cA.2.2;omega) (by omega),HK.out,DB]
    have h9:jh D nd k R0 j≤9:=by rw[jh];omega
    have HX:=aa (And.intro cA (And.intro qR (And.intro WT h9)));obtain⟨v0,FQ⟩: ∃v0,v0=Value.int .u8 (sk D nd k R0 j j:Int):=⟨_,rfl⟩;rw[←FQ]at dj;clear cA qR WT h9 FQ;go_wp2_with fail;go_roundw
    case rel=>
     refine⟨j+1,aa ⟨.inl (by have:=FN.out;omega),?_,hI.out.2.2.setCell (p:=⟨g,j,none⟩) hB _⟩,?_,rfl,?_⟩
     ·rw[←Jk Xe];exact hI.out.2.1.Bv Xe (wJ HX.out.2.2.2)
     ·exact iK (by have:=FN.out;omega)
     ·rw[←HX.out.1.2.1,HX.out.2.1];exact iK (Wg (by have:=lE (N j) hK0;omega) HX.out.2.2.1.1 HX.out.2.2.1.2)
    case measure=>exact ib PV
   ·have p1:((r:Int)<(nd:Int))=False:=bL (by omega);have hjn:j=nd-R0:=by
     have h1:=hI.out.1;have h2:=FN.out;omega
    have agc:nd≤R0+j:=by have h2:=FN.out;omega
    obtain⟨WW,hWW⟩: ∃WW,WW=rsW D nd k R0:=⟨_,rfl⟩;have ι:pQ (mE D nd k R0) (2000-j) j=WW:=by rw[hWW,rsW,hjn]
    have Xe:j≤800:=by omega
    have HW:=aa hWW;have HI:=aa (And.intro hI.out.2.1 (And.intro hI.out.2.2 (And.intro ι agc)));have XK:(tr||Xk D nd k R0 j)=tr:=by rw[QA Xe,qG]
    have HT0:=aa XK;have sr:=aa cA;clear cA hWW ι agc XK hI hjn;go_wp2_with fail;go_loopg [5,6,11] (1000-j) (fun gg t5 t6 _ wr=> ∃j q:Nat,Hid (gg=1000-j∧q=min j 800∧pQ (mE D nd k R0) (2000-j) j=WW∧nd≤R0+j∧bh wr g (sk D nd k R0 j) nd (dp-((R0:Int)-1)) neg (tr||Xk D nd k R0 j)∧Below B wc wr∧j≤900)∧t5= .int .i64 (q:Int)∧t6= .int .u64 (N j:Int))
    case atStart=>exact⟨j,j,aa ⟨rfl,(mr Xe).symm,HI.out.2.2.1,HI.out.2.2.2,by rw[HT0.out];exact HI.out.1,HI.out.2.1,by omega⟩,rfl,rfl⟩
    case round=>
     obtain⟨j,q,kl,rfl,rfl⟩:=hrel;have cA:=HN.out.1 j;have Tb:=HN.out.2.2.2 j;have fG:=kl.out.2.2.2.2.1;cases hz:decide (N j=0)
     ·rw[hz]at Tb;have bC:N j≠0:=tc hz;have hjb:R0+j<nd+(k+1):=by
       rcases dD (R0+j) (nd+(k+1))with h|h
       ·exact h
       ·exact absurd (HN.out.2.2.1 j h) bC
      have hj9:j<900:=by omega
      have AP:=xO (F:=2000) (r:=j) (by omega) Tb;have qR:sj D nd (R0+j)=0:=by rw[sj,af (by have:=kl.out.2.2.2.1;omega)]
      have p1:((0:Int)<(N j:Int))=True:=az (by omega);have p1n:0<N j:=by omega
      have g1:((N j:Int)/2^k)=((jh D nd k R0 j:Nat):Int):=by
       rw[←cA.1,HK.out];simp
      have g2:bits .and .u64 (N j:Int) ((K-1:Nat):Int)=((N j%K:Nat):Int):=by
       rw[vE _ _ (by have:=cA.2.2;omega) (by omega),HK.out,DB]
      have h9:jh D nd k R0 j≤9:=by rw[jh];omega
      have hNs:N (j+1)=N j%K*10:=by have:=cA.2.1;rw[qR]at this;omega
      have Eh:N j%K<1152921504606846976:=by have:=lE (N j) hK0;omega
      have zP:pQ (mE D nd k R0) (2000-(j+1)) (j+1)=WW:=by rw[←AP];exact kl.out.2.2.1
      have HX:=aa (And.intro hNs (And.intro Eh (And.intro zP h9)));have PZ:=aa fG;have f0:=fG.free 803;have t0:=fG.tr;by_cases Xe:j<800
      ·have hq:q=j:=by have:=kl.out.2.1;omega
       subst hq;have fj:=fG.free q;have dj:=fG.gQ q Xe;obtain⟨v0,FQ⟩: ∃v0,v0=Value.int .u8 (sk D nd k R0 q q:Int):=⟨_,rfl⟩;rw[←FQ]at dj;clear FQ;have p3:((q:Int)<800)=True:=az (by omega);clear cA qR AP h9 Tb hz bC hNs Eh zP fG;go_wp2_with fail;go_roundg (1000-(q+1))
       case measure=>have:=kl.out.1;omega
       case rel=>
        refine⟨q+1,q+1,aa ⟨rfl,by omega,HX.out.2.2.1,by have:=kl.out.2.2.2.1;omega,?_,kl.out.2.2.2.2.2.1.setCell (p:=⟨g,q,none⟩) hB _,by omega⟩,rfl,?_⟩
        ·rw[←Jk Xe,BD,gp (by omega: ¬800≤q),rr,qG];exact PZ.out.Bv Xe (wJ HX.out.2.2.2)
        ·rw[HX.out.1];exact iK (uQ HX.out.2.1)
      ·have hq:q=800:=by have:=kl.out.2.1;omega
       have p3:((q:Int)<800)=False:=bL (by omega);have HQ:=aa hq;clear hq;have hjj:800≤j:=by omega
       cases κ:decide (0<jh D nd k R0 j)
       ·have p4:((0:Int)<(jh D nd k R0 j:Int))=False:=bL (by have:=tc κ;omega);have p4n: ¬0<jh D nd k R0 j:=tc κ;have HDZ:=aa κ;clear cA qR AP h9 Tb hz bC hNs Eh zP fG κ;go_wp2_with fail;go_roundg (1000-(j+1))
        case measure=>have:=kl.out.1;omega
        case rel=>
         refine⟨j+1,q,aa ⟨rfl,by have:=HQ.out;omega,HX.out.2.2.1,by have:=kl.out.2.2.2.1;omega,?_,kl.out.2.2.2.2.2.1,by omega⟩,rfl,?_⟩
         ·rw[OO hjj,BD,HDZ.out,tF,qG];exact PZ.out
         ·rw[HX.out.1];exact iK (uQ HX.out.2.1)
       ·have p4:((0:Int)<(jh D nd k R0 j:Int))=True:=az (by have:=nY κ;omega);have p4n:0<jh D nd k R0 j:=nY κ;have HDZ:=aa κ;clear cA qR AP h9 Tb hz bC hNs Eh zP fG κ;go_wp2_with fail;go_roundg (1000-(j+1))
        case measure=>have:=kl.out.1;omega
        case rel=>
         refine⟨j+1,q,aa ⟨rfl,by have:=HQ.out;omega,HX.out.2.2.1,by have:=kl.out.2.2.2.1;omega,?_,kl.out.2.2.2.2.2.1.setCell (p:=⟨g,803,none⟩) hB _,by omega⟩,rfl,?_⟩
         ·rw[OO hjj,BD,HDZ.out,dQ hjj,Bool.and_true,vC,vC];exact PZ.out.OD true
         ·rw[HX.out.1];exact iK (uQ HX.out.2.1)
     ·rw[hz]at Tb;have SZ:N j=0:=nY hz;have hWj:WW=j:=by rw[←kl.out.2.2.1];exact BC (by have:=kl.out.2.2.2.2.2.2;omega) Tb
      have p1:((0:Int)<(N j:Int))=False:=bL (by omega);have p1n: ¬0<N j:=by omega
      have f0:=fG.free 800;have d1:=fG.nd;have PZ:=aa (fG.Bp (n:=q) (z:=(q:Int)) rfl);have HWJ:=aa hWj;clear cA Tb hz SZ fG hWj;go_wp2_with fail;refine(BX _ B g _ q _ neg _ PZ.out (by have:=kl.out.2.1;omega) hB).mono ?_;rintro e w9 ⟨rfl,Dt,PU⟩;have HB9:=aa ((kl.out.2.2.2.2.2.1.setCell (p:=⟨g,800,none⟩) hB (.int .i64 (q:Int))).trans PU);have HDF:=aa Dt;clear Dt PU;go_wp2_with fail;go_end0;have e1:xt D nd k=sk D nd k R0 j:=by rw[xt,←ZZ.out,←HW.out,HWJ.out]
      have e2:Bk D nd k=q:=by rw[Bk,←ZZ.out,←HW.out,HWJ.out];exact kl.out.2.1.symm
      have e3:X4 D nd k tr=(tr||Xk D nd k R0 j):=by rw[X4,←ZZ.out,←HW.out,HWJ.out]
      have e4:P5 D nd k dp=pY (sk D nd k R0 j) q (dp-((R0:Int)-1)):=by rw[P5,e1,e2,←ZZ.out]
      rw[DG,e1,e2,e3,e4];exact⟨rfl,HDF.out,HB9.out⟩
theorem bh.drewN {w:World} {g:Nat} {D:Nat→Nat} {nd:Nat} {dp:Int} {neg tr:Bool} (h:bh w g D nd dp neg tr) (n:Nat):bh (w.drewN n) g D nd dp neg tr:=h.drew n
theorem NL (h:l.length≤i):gW D nd (l.drop i) i=false:=by rw[s9 h];rfl
theorem RW (h:i<l.length):gW D nd (l.drop i) i=if nd≤i then true else if D i=(an l i).toNat then gW D nd (l.drop (i+1)) (i+1)else decide (D i<(an l i).toNat):=by
 have e:l[i]=an l i:=by rw[an,lf,lB h];rfl
 rw[nV h,gW,e]
theorem RY (w:World) (g:Nat) (D:Nat→Nat) (nd:Nat) (dp:Int) (neg tr:Bool) (s:ByteArray) (h:bh w g D nd dp neg tr) (sX:nd≤800) (hs:s.size≤1000):
  Calls prog 244 #[.slice (some ⟨g,0,none⟩) nd 800,.string s] w fun e w'=>e= .returned (.bool (gW D nd s.data.toList 0))∧ ∃m,w'=w.drewN m:=by
 obtain⟨T,hT⟩: ∃T,T=gW D nd s.data.toList 0:=⟨_,rfl⟩;rw[←hT];have HT:=aa hT;have H:=aa h;clear hT h;go_enter func244,ntmps244;go_wp2_with fail;go_loopw [5] (fun t5 wr=> ∃i:Nat,Hid (gW D nd (s.data.toList.drop i) i=T∧i≤s.size∧ ∃m,wr=w.drewN m)∧t5= .int .i64 (i:Int)) (fun t5 _=>s.size-(intOf t5).toNat)
 case atStart=>exact⟨0,aa ⟨HT.symm,aT _,0,rfl⟩,rfl⟩
 case round=>
  obtain⟨i,hI,rfl⟩:=hrel;by_cases hi:i<s.size
  ·have p1:((i:Int)<(s.size:Int))=True:=az (by omega);have cA:=RW (D:=D) (nd:=nd) (l:=s.data.toList) (i:=i) (by rw[ab];exact hi);rw[aq hi]at cA;have hD:bh wr g D nd dp neg tr:=by obtain⟨m,hm⟩:=hI.2.2;rw[hm];exact H.drewN m
   have HD:=aa hD;have sr:=aa cA;clear cA hD;by_cases hn:nd≤i
   ·have p2:((nd:Int)≤(i:Int))=True:=az (by omega);have xe:T=true:=by rw[←hI.out.1,sr.out,ar hn]
    have xc:=aa xe;clear xe;go_wp2_with fail;go_ret;exact⟨by rw[xc.out];rfl,hI.2.2⟩
   ·have p2:((nd:Int)≤(i:Int))=False:=bL (by omega);have p3:((i:Int)<(nd:Int))=True:=az (by omega);have c0:=HD.gQ i (by omega);by_cases he:D i=s[i].toNat
    ·have e1:((D i:Int) != (s[i].toNat:Int))=false:=by rw[he];simp
     have xe:gW D nd (s.data.toList.drop (i+1)) (i+1)=T:=by rw[←hI.out.1,sr.out,af hn,ar he]
     have xc:=aa xe;clear xe;go_wp2_with fail;go_quiet (fail);have tl: ∃m,wr.drewN nq=w.drewN m:=by obtain⟨m,hm⟩:=hI.2.2;exact⟨_,by rw[hm,jN]⟩
     clear c0;generalize wr.drewN nq=w2 at tl ⊢
     have Wz:=aa tl;clear tl he;go_wp2_with fail;go_roundw
     case rel=>exact⟨i+1,aa ⟨xc,hi,Wz⟩,rfl⟩
     case measure=>exact ib hi
    ·have e1:((D i:Int) != (s[i].toNat:Int))=true:=by rw[ju];omega
     have xe:T=decide (D i<s[i].toNat):=by rw[←hI.out.1,sr.out,af hn,af he]
     have xc:=aa xe;clear xe;clear he;go_wp2_with fail;go_quiet (fail);have tl: ∃m,wr.drewN nq=w.drewN m:=by obtain⟨m,hm⟩:=hI.2.2;exact⟨_,by rw[hm,jN]⟩
     have c1:(wr.drewN nq).cell? ⟨g,i,none⟩=some (.int .u8 (D i:Int)):=c0;clear c0;generalize wr.drewN nq=w2 at tl c1 ⊢
     have Wz:=aa tl;clear tl;go_wp2_with fail;go_quiet (fail);have XD: ∃m,w2.drewN nq=w.drewN m:=by obtain⟨m,hm⟩:=Wz.out;exact⟨_,by rw[hm,jN]⟩
     clear c1;generalize w2.drewN nq=w3 at XD ⊢
     have HM3:=aa XD;clear XD;go_wp2_with fail;go_ret;exact⟨by rw[xc.out];rfl,HM3⟩
  ·have p1:((i:Int)<(s.size:Int))=False:=bL (by omega);have xe:T=false:=by rw[←hI.out.1];exact NL (by rw[ab];omega)
   have xc:=aa xe;clear xe;go_wp2_with fail;go_ret;exact⟨by rw[xc.out];rfl,hI.2.2⟩
structure kt (w:World) (C:Nat):Prop where
 FM: ∃o,w.cell? ⟨11,0,none⟩=some (.slice (some ⟨C,o,none⟩) 61 61)∧ ∀k,k<61→w.cell? ⟨C,o+k*2,none⟩=some (.int .i64 (Dr k:Int))∧w.cell? ⟨C,o+k*2+1,none⟩=some (.string ⟨(Lq k).toArray⟩)
 lt0:11<w.heap.size
 lt:C<w.heap.size
theorem kt.below (h:kt w C) (hb:Below B w w') (h0:11<B) (h1:C<B):kt w' C:=by
 obtain⟨o,t1,t2⟩:=h.FM;exact⟨⟨o,(hb.cell (p:=⟨_,0,none⟩) h0).trans t1,fun k hk=>⟨(hb.cell (p:=⟨C,_,none⟩) h1).trans (t2 k hk).1,(hb.cell (p:=⟨C,_,none⟩) h1).trans (t2 k hk).2⟩⟩,gO h.lt0 hb.size,gO h.lt hb.size⟩
theorem acP (hK:K=2^k) (h60:K≤1152921504606846976) (hn:n<K) (h1:48≤d) (h2:d≤57):IntKind.u64.wrap ((n:Int)+IntKind.u64.wrap (IntKind.u64.wrap (IntKind.u64.wrap (d:Int)-48)*2^k))=((n+(d-48)*K:Nat):Int):=by
 have e:((2:Int)^k)=(K:Int):=by rw[hK];simp
 rw[e];have e2:IntKind.u64.wrap (IntKind.u64.wrap (d:Int)-48)=((d-48:Nat):Int):=by simp only[cT];omega
 rw[e2];have h9:(d-48)*K≤9*K:=fc _ (by omega);have e3:(((d-48:Nat):Int)*(K:Int))=(((d-48)*K:Nat):Int):=by simp
 rw[e3];generalize (d-48)*K=x at h9 ⊢
 simp only[cT];omega
theorem Up (hn:n<18446744073709551616):IntKind.u64.wrap ((n:Int)-IntKind.u64.wrap (10*((n/10:Nat):Int)))=((n%10:Nat):Int):=by
 simp only[cT];omega
theorem Ec (w:World) (B g C:Nat) (D:Nat→Nat) (nd k:Nat) (dp:Int) (neg tr:Bool) (h:bh w g D nd dp neg tr) (hc:kt w C) (hd:jx D nd) (hn:0<nd) (sX:nd≤800) (lC:1≤k) (hk:k≤60) (ud: -1000000000000≤dp∧dp≤1000000000000) (hB:B≤g):
  Calls prog 237 #[.pointer (some ⟨g,0,none⟩),.int .u64 (k:Int)] w fun e w'=>e= .returned (.tuple #[])∧bh w' g (pR D nd k) (xv D nd k) (P6 D nd k dp) neg (X5 D nd k tr)∧Below B w w':=by
 have H:=aa h;have HD:=aa hd;have cC:=BE lC hk;obtain⟨o,h0,Qc⟩:=hc.FM;have hr:=Qc k (by omega);clear Qc;obtain⟨δ,hδ⟩: ∃δ,δ=Dr k:=⟨_,rfl⟩;obtain⟨s,hs⟩: ∃s:ByteArray,s=⟨(Lq k).toArray⟩:=⟨_,rfl⟩;rw[←hδ,←hs]at hr;have Z0:s.data.toList=Lq k:=by rw[hs]
 have hss:s.size≤60:=by rw[←ab,Z0];exact cC.short
 have att:1≤δ∧δ≤20:=by rw[hδ];exact⟨cC.pos,cC.small⟩
 obtain⟨r1,r2⟩:=hr;have hb:=jX hd hn lC hk;obtain⟨L,hL⟩: ∃L,L=tn D nd k:=⟨_,rfl⟩;obtain⟨M,hM⟩: ∃M,M=Lc D nd k:=⟨_,rfl⟩;rw[←hL,←hM]at hb;have HB:=aa hb;have HL:=aa hL;have HM:=aa hM;have WJ:=aa (And.intro hδ Z0);have hLn:nd≤L∧L≤nd+20:=⟨hb.2.2.1,hb.2.2.2⟩;clear h hd cC hs hδ Z0 hb hL hM hc;have d0:=H.out.nd;have hq0:((0:Int)≤(nd:Int))=True:=az (by omega);have Eg:((nd:Int)≤800)=True:=az (by omega);have tY:((k:Int)<61)=True:=az (by omega);go_enter func237,ntmps237;obtain⟨b,hl⟩: ∃b,L5 D nd k=b:=⟨_,rfl⟩;have hp:gW D nd s.data.toList 0=b:=by rw[WJ.out.2];exact hl
 have HP:=aa hp;have HLB:=aa hl;clear hp hl;go_wp2_with fail;go_quiet ((go_at_call 244;exact Calls.quiet_of ((RY _ g D nd dp neg tr s (H.out.drewN _) sX (by omega)).mono fun _ _ ⟨h1,h2⟩=>⟨by rw[h1,HP.out],h2⟩)));obtain⟨m,hm⟩: ∃m,m=nq:=⟨_,rfl⟩;rw[←hm];clear hm;have hH:bh (w.drewN m) g D nd dp neg tr:=H.out.drewN m;have aM:Below B w (w.drewN m):=bS (aS B w) m;clear d0 h0 r1 r2;generalize w.drewN m=w2 at hH aM ⊢
 have d0:=hH.nd;have H2:=aa hH;have bD:=aa aM;obtain⟨K,yr⟩: ∃K,K=2^k:=⟨_,rfl⟩;have abS:K≤1152921504606846976:=by rw[yr];exact ee (n:=2) (by omega) hk
 have hK0:0<K:=by rw[yr];exact eX (by omega)
 obtain⟨N,hN⟩: ∃N:Nat→Nat,N=Sf (pre D nd nd) k:=⟨_,rfl⟩;have hMM:M=pre D nd nd*K:=by rw[HM.out,Lc,yr]
 have rD: ∀j,j<nd→(N j+(D (nd-1-j)-48)*K)%10=M/10^j%10∧(N j+(D (nd-1-j)-48)*K)/10=N (j+1)∧N j<K:=fun j hj=>by
  have:=Jm (k:=k) (YA HD.out hj);rw[hN,hMM,yr];exact this
 have Tl: ∀j,nd≤j→N j=M/10^j:=fun j hj=>by
  rw[hN,hMM,yr];exact MC (xE HD.out nd) hj
 have sZ:N 0=0:=by rw[hN,Sf];simp[Nat.mod_one]
 have hNK: ∀j,N j<K:=fun j=>by rw[hN,yr];exact(Jm rfl).2.2
 have HN:=aa (And.intro rD (And.intro Tl (And.intro sZ hNK)));have HKK:=aa yr;clear hH aM yr hN hMM rD Tl sZ hNK;go_upto_if 30 with fail
 go_cut [4]from 12 to 32 (fun t4 wx=>t4= .int .i64 ((L:Int)-nd)∧wx=w2)
 case first=>
  cases b
  ·have hLL:(L:Int)-nd=δ:=by
    have:=HL.out;rw[tn,HLB.out,af (by simp),←WJ.out.1]at this;omega
   go_wp2_with fail;go_meet;exact⟨iK (by omega),rfl⟩
  ·have hLL:(L:Int)-nd=δ-1:=by
    have:=HL.out;rw[tn,HLB.out,ar rfl,←WJ.out.1]at this;omega
   go_wp2_with fail;go_meet;exact⟨iK (by omega),rfl⟩
 case rest=>
  obtain⟨rfl,rfl⟩:=hcut;go_wp2_with fail;go_loopg [5,6,7,8,9] nd (fun gg t5 t6 t7 _ _ wr=> ∃(j q:Nat) (z:Int),Hid (gg=nd-j∧j≤nd∧z=(nd:Int)-1-j∧q=L-j∧bh wr g (tp D M L j) nd dp neg (tr||WD M L j)∧Below B w wr)∧t5= .int .i64 z∧t6= .int .i64 (q:Int)∧t7= .int .u64 (N j:Int))
  case atStart=>
   refine⟨0,L,(nd:Int)-1,aa ⟨rfl,aT _,by simp,rfl,?_,bD.out⟩,?_,?_,by rw[HN.out.2.2.1];rfl⟩
   ·rw[UM];have e:WD M L 0=false:=rfl;rw[e,qG];exact H2.out
   ·first|rfl|exact iK (by omega)
   ·first|rfl|exact iK (by omega)
  case round=>
   obtain⟨j,q,z,hI,rfl,rfl,rfl⟩:=hrel;by_cases hj:j<nd
   ·obtain⟨r,hr⟩: ∃r:Nat,r=nd-1-j:=⟨_,rfl⟩;have hz:z=(r:Int):=by have:=hI.out.2.2.1;omega
    subst hz;obtain⟨q1,Eg⟩: ∃q1,q=q1+1:=⟨q-1,by have:=hI.out.2.2.2.1;omega⟩;subst Eg;have hq:q1=L-(j+1):=by have:=hI.out.2.2.2.1;omega
    have hr8:r<800:=by omega
    have p0:((r:Int)<800)=True:=az (by omega);have fG:=hI.out.2.2.2.2.1;have c0:=fG.gQ r hr8;rw[UL (by omega)]at c0;have cA:=HN.out.1 j hj;rw[←hr]at cA;have WT:=HD.out.1 r (by omega);have HX:=aa (And.intro cA (And.intro WT (And.intro hr hq)));have At:=aa fG;have hqb:q1<821:=by omega
    clear cA WT hr hq fG;obtain⟨nn,qZ⟩: ∃nn,nn=N j+(D r-48)*K:=⟨_,rfl⟩;have f1:IntKind.u64.wrap ((N j:Int)+IntKind.u64.wrap (IntKind.u64.wrap (IntKind.u64.wrap (D r:Int)-48)*2^k))=(nn:Int):=by
     rw[qZ];exact acP HKK.out abS HX.out.1.2.2 HX.out.2.1.1 HX.out.2.1.2
    have yq:nn<18446744073709551616:=by
     have h9:(D r-48)*K≤9*K:=fc _ (by have:=HX.out.2.1.2;omega);have:=HX.out.1.2.2;omega
    obtain⟨Q,hQ⟩: ∃Q,Q=nn/10:=⟨_,rfl⟩;obtain⟨R,hR⟩: ∃R,R=nn%10:=⟨_,rfl⟩;have g1:(nn:Int)/10=(Q:Int):=by rw[hQ];simp
    have g2:IntKind.u64.wrap ((nn:Int)-IntKind.u64.wrap (10*(Q:Int)))=(R:Int):=by rw[hQ,hR];exact Up yq
    have f2:IntKind.u64.wrap (Q:Int)=(Q:Int):=by rw[hQ];simp only[cT];omega
    have Dx:Q=N (j+1):=by rw[hQ,qZ];exact HX.out.1.2.1
    have Hx:R=M/10^j%10:=by rw[hR,qZ];exact HX.out.1.1
    have hR9:R≤9:=by omega
    have DA:=aa (And.intro Dx (And.intro Hx hR9));have f0:=At.out.free 803;have t0:=At.out.tr;clear qZ yq hQ hR Dx Hx hR9;by_cases h8:q1<800
    ·have p3:((q1:Int)<800)=True:=az (by omega);have fq:=At.out.free q1;have dq:=At.out.gQ q1 h8;obtain⟨v0,FQ⟩: ∃v0,v0=Value.int .u8 (tp D M L j q1:Int):=⟨_,rfl⟩;rw[←FQ]at dq;clear FQ;go_wp2_with fail;go_roundg (nd-(j+1))
     case measure=>have:=hI.out.1;omega
     case rel=>
      refine⟨j+1,q1,(r:Int)-1,aa ⟨rfl,by omega,by have:=HX.out.2.2.1;omega,HX.out.2.2.2,?_,hI.out.2.2.2.2.2.setCell (p:=⟨g,q1,none⟩) hB _⟩,rfl,rfl,by rw[←DA.out.1]⟩;have hq:=HX.out.2.2.2;have e1:=Jn (D:=D) (M:=M) (L:=L) (j:=j) (by omega) (by omega);rw[←hq,←DA.out.2.1]at e1;rw[←e1,oU,gp (by omega: ¬800≤L-1-j),rr,qG];exact At.out.Bv h8 (wJ DA.out.2.2)
    ·have p3:((q1:Int)<800)=False:=bL (by omega);cases hz:decide (R=0)
     ·have bC:R≠0:=tc hz;have e0:((R:Int) != 0)=true:=by rw[ju];omega
      have Ie:=aa bC;clear hz bC;go_wp2_with fail;go_roundg (nd-(j+1))
      case measure=>have:=hI.out.1;omega
      case rel=>
       refine⟨j+1,q1,(r:Int)-1,aa ⟨rfl,by omega,by have:=HX.out.2.2.1;omega,HX.out.2.2.2,?_,hI.out.2.2.2.2.2.setCell (p:=⟨g,803,none⟩) hB _⟩,rfl,rfl,by rw[←DA.out.1]⟩;have hq:=HX.out.2.2.2;rw[Az (by omega),oU,←DA.out.2.1,dQ (by omega:800≤L-1-j),dQ Ie.out,Bool.and_true,vC,vC];exact At.out.OD true
     ·have he:R=0:=nY hz;have e0:((R:Int) != 0)=false:=by rw[he];rfl
      have HEQ:=aa he;clear hz he;go_wp2_with fail;go_roundg (nd-(j+1))
      case measure=>have:=hI.out.1;omega
      case rel=>
       refine⟨j+1,q1,(r:Int)-1,aa ⟨rfl,by omega,by have:=HX.out.2.2.1;omega,HX.out.2.2.2,?_,hI.out.2.2.2.2.2⟩,rfl,rfl,by rw[←DA.out.1]⟩;have hq:=HX.out.2.2.2;rw[Az (by omega),oU,←DA.out.2.1,gp (by rw[HEQ.out];simp: ¬R≠0),tF,qG];exact At.out
   ·have hjn:j=nd:=by have:=hI.out.2.1;omega
    have hz:z= -1:=by have:=hI.out.2.2.1;omega
    subst hz;have HJ:=aa hjn;clear hjn;have ν:=aa hI.out;clear hI;go_wp2_with fail;go_loopg [6,7,10,11] (L-j) (fun gg t6 t7 _ _ wr=> ∃j q:Nat,Hid (gg=L-j∧nd≤j∧j≤L∧q=L-j∧bh wr g (tp D M L j) nd dp neg (tr||WD M L j)∧Below B w wr)∧t6= .int .i64 (q:Int)∧t7= .int .u64 (N j:Int))
    case atStart=>exact⟨j,q,aa ⟨rfl,by have:=HJ.out;omega,by have:=HJ.out;omega,ν.out.2.2.2.1,ν.out.2.2.2.2.1,ν.out.2.2.2.2.2⟩,rfl,rfl⟩
    case round=>
     obtain⟨j,q,hI,rfl,rfl⟩:=hrel;have Lm:=HN.out.2.1 j hI.out.2.1;have fG:=hI.out.2.2.2.2.1;by_cases hjL:j<L
     ·have pN:0<N j:=by
       rw[Lm];exact Nat.div_pos (bn (ee (by omega) (by omega)) HB.out.1) (eX (by omega))
      have p1:((0:Int)<(N j:Int))=True:=az (by omega);obtain⟨q1,Eg⟩: ∃q1,q=q1+1:=⟨q-1,by have:=hI.out.2.2.2.1;omega⟩;subst Eg;have hq:q1=L-(j+1):=by have:=hI.out.2.2.2.1;omega
      have yq:N j<18446744073709551616:=by have:=HN.out.2.2.2 j;omega
      obtain⟨Q,hQ⟩: ∃Q,Q=N j/10:=⟨_,rfl⟩;obtain⟨R,hR⟩: ∃R,R=N j%10:=⟨_,rfl⟩;have g1:(N j:Int)/10=(Q:Int):=by rw[hQ];simp
      have g2:IntKind.u64.wrap ((N j:Int)-IntKind.u64.wrap (10*(Q:Int)))=(R:Int):=by rw[hQ,hR];exact Up yq
      have f2:IntKind.u64.wrap (Q:Int)=(Q:Int):=by rw[hQ];simp only[cT];omega
      have Dx:Q=N (j+1):=by rw[hQ,Lm,HN.out.2.1 (j+1) (by have:=hI.out.2.1;omega),Em,←ef]
      have Hx:R=M/10^j%10:=by rw[hR,Lm]
      have hR9:R≤9:=by omega
      have DA:=aa (And.intro Dx (And.intro Hx (And.intro hR9 hq)));have At:=aa fG;have f0:=fG.free 803;have t0:=fG.tr;have hqb:q1<821:=by omega
      clear yq hQ hR Dx Hx hR9 hq Lm fG;by_cases h8:q1<800
      ·have p3:((q1:Int)<800)=True:=az (by omega);have fq:=At.out.free q1;have dq:=At.out.gQ q1 h8;obtain⟨v0,FQ⟩: ∃v0,v0=Value.int .u8 (tp D M L j q1:Int):=⟨_,rfl⟩;rw[←FQ]at dq;clear FQ;go_wp2_with fail;go_roundg (L-(j+1))
       case measure=>have:=hI.out.1;omega
       case rel=>
        refine⟨j+1,q1,aa ⟨rfl,by have:=hI.out.2.1;omega,by omega,DA.out.2.2.2,?_,hI.out.2.2.2.2.2.setCell (p:=⟨g,q1,none⟩) hB _⟩,rfl,by rw[←DA.out.1]⟩;have hq:=DA.out.2.2.2;have e1:=Jn (D:=D) (M:=M) (L:=L) (j:=j) (by omega) (by omega);rw[←hq,←DA.out.2.1]at e1;rw[←e1,oU,gp (by omega: ¬800≤L-1-j),rr,qG];exact At.out.Bv h8 (wJ DA.out.2.2.1)
      ·have p3:((q1:Int)<800)=False:=bL (by omega);cases hz:decide (R=0)
       ·have bC:R≠0:=tc hz;have e0:((R:Int) != 0)=true:=by rw[ju];omega
        have Ie:=aa bC;clear hz bC;go_wp2_with fail;go_roundg (L-(j+1))
        case measure=>have:=hI.out.1;omega
        case rel=>
         refine⟨j+1,q1,aa ⟨rfl,by have:=hI.out.2.1;omega,by omega,DA.out.2.2.2,?_,hI.out.2.2.2.2.2.setCell (p:=⟨g,803,none⟩) hB _⟩,rfl,by rw[←DA.out.1]⟩;have hq:=DA.out.2.2.2;rw[Az (by omega),oU,←DA.out.2.1,dQ (by omega:800≤L-1-j),dQ Ie.out,Bool.and_true,vC,vC];exact At.out.OD true
       ·have he:R=0:=nY hz;have e0:((R:Int) != 0)=false:=by rw[he];rfl
        have HEQ:=aa he;clear hz he;go_wp2_with fail;go_roundg (L-(j+1))
        case measure=>have:=hI.out.1;omega
        case rel=>
         refine⟨j+1,q1,aa ⟨rfl,by have:=hI.out.2.1;omega,by omega,DA.out.2.2.2,?_,hI.out.2.2.2.2.2⟩,rfl,by rw[←DA.out.1]⟩;have hq:=DA.out.2.2.2;rw[Az (by omega),oU,←DA.out.2.1,gp (by rw[HEQ.out];simp: ¬R≠0),tF,qG];exact At.out
     ·have abT:j=L:=by have:=hI.out.2.2.1;omega
      have yn:N j=0:=by rw[Lm,abT];exact tC HB.out.2.1
      have p1:((0:Int)<(N j:Int))=False:=bL (by omega);have p1n: ¬0<N j:=by omega
      rw[abT]at fG;have At:=aa fG;have HBE:=aa hI.out.2.2.2.2.2;have d1:=fG.nd;have d2:=fG.dp;have f1:=fG.free 800;have f2:=fG.free 801;have eF:pR D nd k=tp D M L L:=by rw[pR,←HL.out,←HM.out]
      have eT:X5 D nd k tr=(tr||WD M L L):=by rw[X5,←HL.out,←HM.out]
      have eN:xv D nd k=ez (tp D M L L) (min L 800):=by rw[xv,eF,←HL.out]
      have eP:P6 D nd k dp=pY (tp D M L L) (min L 800) (dp+((L:Int)-nd)):=by rw[P6,eF,←HL.out]
      have HE:=aa (And.intro eF (And.intro eT (And.intro eN eP)));clear eF eT eN eP fG Lm yn abT hI;by_cases h8:800≤L
      ·have p8:((800:Int)≤(L:Int))=True:=az (by omega);go_wp2_with fail;refine(BX _ B g (tp D M L L) 800 (dp+((L:Int)-nd)) neg (tr||WD M L L) (((At.out.Bp (n:=L) (by omega)).Bp (n:=800) rfl).EH _) (by omega) hB).mono ?_;rintro e w9 ⟨rfl,Dt,PU⟩;have HB9:=aa ((((HBE.out.setCell (p:=⟨g,800,none⟩) hB _).setCell (p:=⟨g,800,none⟩) hB _).setCell (p:=⟨g,801,none⟩) hB _).trans PU);have HDF:=aa Dt;clear Dt PU;go_wp2_with fail;go_end0;have LD:min L 800=800:=qE h8;rw[HE.out.1,HE.out.2.1,HE.out.2.2.1,HE.out.2.2.2,LD];exact⟨rfl,HDF.out,HB9.out⟩
      ·have p8:((800:Int)≤(L:Int))=False:=bL (by omega);go_wp2_with fail;refine(BX _ B g (tp D M L L) L (dp+((L:Int)-nd)) neg (tr||WD M L L) ((At.out.Bp (n:=L) (by omega)).EH _) (by omega) hB).mono ?_;rintro e w9 ⟨rfl,Dt,PU⟩;have HB9:=aa (((HBE.out.setCell (p:=⟨g,800,none⟩) hB _).setCell (p:=⟨g,801,none⟩) hB _).trans PU);have HDF:=aa Dt;clear Dt PU;go_wp2_with fail;go_end0;have LD:min L 800=L:=mr (by omega);rw[HE.out.1,HE.out.2.1,HE.out.2.2.1,HE.out.2.2.2,LD];exact⟨rfl,HDF.out,HB9.out⟩
def eK (w:World) (g:Nat) (S:cG) (neg:Bool):Prop:=bh w g S.D S.nd S.dp neg S.tr
theorem Uq (w:World) (B g C:Nat) (S:cG) (neg:Bool) (k:Nat) (h:eK w g S neg) (hc:kt w C) (cC:S.Ok) (lC:1≤k) (hk:k≤60) (ud: -1000000000000≤S.dp∧S.dp≤1000000000000) (hB:B≤g):
  Calls prog 237 #[.pointer (some ⟨g,0,none⟩),.int .u64 (k:Int)] w fun e w'=>e= .returned (.tuple #[])∧eK w' g (S.ls k) neg∧Below B w w':=
 Ec w B g C S.D S.nd k S.dp neg S.tr h hc cC.gQ cC.pos cC.le lC hk ud hB
theorem Ur (w:World) (B g:Nat) (S:cG) (neg:Bool) (k:Nat) (h:eK w g S neg) (cC:S.Ok) (lC:1≤k) (hk:k≤60) (ud: -1000000000000≤S.dp∧S.dp≤1000000000000) (hB:B≤g):
  Calls prog 238 #[.pointer (some ⟨g,0,none⟩),.int .u64 (k:Int)] w fun e w'=>e= .returned (.tuple #[])∧eK w' g (S.rs k) neg∧Below B w w':=
 Dk w B g S.D S.nd k S.dp neg S.tr h cC.gQ cC.pos cC.le lC hk ud hB
theorem aae (h:S.Ok) {k:Nat} (h1:1≤k) (h2:k≤60):S.dp≤(S.ls k).dp∧(S.ls k).dp≤S.dp+20:=by
 rw[(cG.yK h h1 h2).2.1];have:=jX h.gQ h.pos h1 h2;omega
theorem OF (h:S.Ok) {k:Nat} (h1:1≤k) (h2:k≤60):S.dp-20≤(S.rs k).dp∧(S.rs k).dp≤S.dp:=by
 rw[(cG.vJ h h1 h2).2.1];have:=oV h.gQ h.pos h2;omega
theorem uR (w:World) (B g C:Nat) (S:cG) (neg:Bool) (k:Nat) (h:eK w g S neg) (hc:kt w C) (cC:S.Ok) (lC:1≤k) (hk:k≤100000000) (ud: -10000000000≤S.dp∧S.dp≤10000000000) (hB:B≤g) (hC:C<B) (hG:11<B):
  Calls prog 232 #[.pointer (some ⟨g,0,none⟩),.int .i64 (k:Int)] w fun e w'=>e= .returned (.tuple #[])∧eK w' g (cG.Xl k S) neg∧Below B w w':=by
 have hp:=cC.pos;obtain⟨n1,AK⟩: ∃n1,S.nd=n1+1:=⟨S.nd-1,by omega⟩;have d0:w.cell? ⟨g,800,none⟩=some (.int .i64 ((n1:Int)+1)):=by rw[h.nd,AK];rfl
 have q0:((n1:Int)+1=0)=False:=bL (by omega);have q1:((0:Int)<(k:Int))=True:=az (by omega);have q1n:0<k:=lC;obtain⟨T,hT⟩: ∃T,T=cG.Xl k S:=⟨_,rfl⟩;rw[←hT];have H:=aa h;have HC:=aa hc;have FL:=aa cC;have XV:=aa ud;have HT:=aa hT;clear h hc cC ud hT AK hp;go_enter func232,ntmps232;go_wp2_with fail;go_loopg [1] k (fun gg t1 wr=> ∃(kk:Nat) (S2:cG),Hid (gg=kk∧1≤kk∧kk≤k∧S2.Ok∧eK wr g S2 neg∧Below B w wr∧cG.Xl kk S2=T∧ -20000000000+20*(kk:Int)≤S2.dp∧S2.dp+20*(kk:Int)≤20000000000)∧t1= .int .i64 (kk:Int))
 case atStart=>exact⟨k,S,aa ⟨rfl,lC,aP _,FL,H,aS _ _,HT.symm,by have:=XV.out;omega,by have:=XV.out;omega⟩,rfl⟩
 case round=>
  obtain⟨kk,S2,hI,rfl⟩:=hrel;by_cases hb:60<kk
  ·have p1:((60:Int)<(kk:Int))=True:=az (by omega);go_wp2_with fail;refine(Uq _ B g C S2 neg 60 hI.2.2.2.2.1 (HC.below hI.2.2.2.2.2.1 hG hC) hI.2.2.2.1 (by omega) (by omega) (by have:=hI.2.2.2.2.2.2.2;omega) hB).mono ?_;rintro e w3 ⟨rfl,su,cr⟩;have h3:=aae hI.2.2.2.1 (k:=60) (by omega) (by omega);have HX:=aa (And.intro su (And.intro (hI.2.2.2.2.2.1.trans cr) h3));obtain⟨k2,zM⟩: ∃k2,k2=kk-60:=⟨_,rfl⟩;have Qg:wrap64 ((kk:Int)-60)=(k2:Int):=by simp only[wrap64];have:=hI.2.2.1;omega
   have Ob:=aa zM;clear su cr h3 zM;go_wp2_with fail;go_roundg k2
   case measure=>have:=hI.1;have:=Ob.out;omega
   case rel=>
    have zM:=Ob.out;have ud:=hI.2.2.2.2.2.2.2;have h3:=HX.2.2;refine⟨k2,S2.ls 60,aa ⟨rfl,by omega,by have:=hI.2.2.1;omega,(cG.yK hI.2.2.2.1 (by omega) (by omega)).1,HX.1,HX.2.1,?_,by omega,by omega⟩,?_⟩
    ·rw[zM,←cG.UN hb];exact hI.2.2.2.2.2.2.1
    ·first|rfl|exact iK (by omega)
  ·have p1:((60:Int)<(kk:Int))=False:=bL (by omega);go_wp2_with fail;refine(Uq _ B g C S2 neg kk hI.2.2.2.2.1 (HC.below hI.2.2.2.2.2.1 hG hC) hI.2.2.2.1 hI.2.1 (by omega) (by have:=hI.2.2.2.2.2.2.2;omega) hB).mono ?_;rintro e w3 ⟨rfl,su,cr⟩;have kC:T=S2.ls kk:=by rw[←hI.out.2.2.2.2.2.2.1,cG.wb (by omega)]
   have HX:=aa (And.intro su (And.intro (hI.2.2.2.2.2.1.trans cr) kC));clear su cr kC;go_wp2_with fail;go_end0;rw[HX.out.2.2];exact⟨rfl,HX.1,HX.2.1⟩
theorem Wh (h:k≤100000000):IntKind.u64.wrap (wrap64 (- -(k:Int)))=(k:Int):=by
 simp only[cT,wrap64];omega
theorem uS (w:World) (B g:Nat) (S:cG) (neg:Bool) (k:Nat) (z:Int) (hz:z= -(k:Int)) (h:eK w g S neg) (cC:S.Ok) (lC:1≤k) (hk:k≤100000000) (ud: -10000000000≤S.dp∧S.dp≤10000000000) (hB:B≤g):
  Calls prog 232 #[.pointer (some ⟨g,0,none⟩),.int .i64 z] w fun e w'=>e= .returned (.tuple #[])∧eK w' g (cG.Lr k S) neg∧Below B w w':=by
 have hp:=cC.pos;obtain⟨n1,AK⟩: ∃n1,S.nd=n1+1:=⟨S.nd-1,by omega⟩;have d0:w.cell? ⟨g,800,none⟩=some (.int .i64 ((n1:Int)+1)):=by rw[h.nd,AK];rfl
 have q0:((n1:Int)+1=0)=False:=bL (by omega);have q1:((0:Int)<z)=False:=bL (by omega);have q2:(z<0)=True:=az (by omega);obtain⟨T,hT⟩: ∃T,T=cG.Lr k S:=⟨_,rfl⟩;rw[←hT];have H:=aa h;have FL:=aa cC;have XV:=aa ud;have HT:=aa hT;have HZ:=aa hz;clear h cC ud hT AK hp hz;go_enter func232,ntmps232;go_wp2_with fail;go_loopg [1] k (fun gg t1 wr=> ∃(kk:Nat) (z:Int) (S2:cG),Hid (gg=kk∧1≤kk∧kk≤k∧S2.Ok∧eK wr g S2 neg∧Below B w wr∧cG.Lr kk S2=T∧ -20000000000+20*(kk:Int)≤S2.dp∧S2.dp+20*(kk:Int)≤20000000000∧z= -(kk:Int))∧t1= .int .i64 z)
 case atStart=>exact⟨k,z,S,aa ⟨rfl,lC,aP _,FL,H,aS _ _,HT.symm,by have:=XV.out;omega,by have:=XV.out;omega,HZ⟩,rfl⟩
 case round=>
  obtain⟨kk,z,S2,hI,rfl⟩:=hrel;have hz:=hI.2.2.2.2.2.2.2.2.2;have hkk:=hI.2.2.1;by_cases hb:60<kk
  ·have p1:(z< -60)=True:=az (by omega);have Qg:wrap64 (z+60)= -((kk-60:Nat):Int):=by simp only[wrap64];omega
   have HS:=aa Qg;have Z4: -100000000≤z∧z<0:=by have:=hI.2.1;omega
   have HZZ:=aa hz;clear hz Qg;go_wp2_with fail;refine(Ur _ B g S2 neg 60 hI.2.2.2.2.1 hI.2.2.2.1 (by omega) (by omega) (by have:=hI.2.2.2.2.2.2.2;omega) hB).mono ?_;rintro e w3 ⟨rfl,su,cr⟩;have h3:=OF hI.2.2.2.1 (k:=60) (by omega) (by omega);have HX:=aa (And.intro su (And.intro (hI.2.2.2.2.2.1.trans cr) h3));clear su cr h3;go_wp2_with fail;go_roundg (kk-60)
   case measure=>have:=hI.1;omega
   case rel=>
    have ud:=hI.2.2.2.2.2.2.2;have h3:=HX.2.2;refine⟨kk-60,z+60,S2.rs 60,aa ⟨rfl,by omega,by omega,(cG.vJ hI.2.2.2.1 (by omega) (by omega)).1,HX.1,HX.2.1,?_,by omega,by omega,by have:=HZZ.out;omega⟩,?_⟩
    ·rw[←cG.Jo hb];exact hI.2.2.2.2.2.2.1
    ·first|rfl|exact iK (by rw[HS.out];have:=HZZ.out;omega)
  ·have p1:(z< -60)=False:=bL (by omega);have XJ:IntKind.u64.wrap (wrap64 (-z))=(kk:Int):=by rw[hz];exact Wh (by omega)
   have atu:IntKind.u64.wrap (-z)=(kk:Int):=by simp only[cT];omega
   have Z4: -60≤z∧z<0:=by have:=hI.2.1;omega
   have HZZ:=aa hz;clear hz;go_wp2_with fail;refine(Ur _ B g S2 neg kk hI.2.2.2.2.1 hI.2.2.2.1 hI.2.1 (by omega) (by have:=hI.2.2.2.2.2.2.2;omega) hB).mono ?_;rintro e w3 ⟨rfl,su,cr⟩;have kC:T=S2.rs kk:=by rw[←hI.out.2.2.2.2.2.2.1,cG.we (by omega)]
   have HX:=aa (And.intro su (And.intro (hI.2.2.2.2.2.1.trans cr) kC));clear su cr kC;go_wp2_with fail;go_end0;rw[HX.out.2.2];exact⟨rfl,HX.1,HX.2.1⟩
theorem Zz (h1:48≤d) (h2:d≤57):(((d:Int)-48)%2 != 0)=decide ((d-48)%2≠0):=by
 rw[eE,ju,zT];omega
theorem acQ:decide ((53:Int)≤(d:Int))=decide (53≤d):=by
 rw[eE,zT,zT];omega
theorem K4 (w:World) (g:Nat) (S:cG) (neg:Bool) (n:Int) (h:eK w g S neg) (hn:n<0∨(S.nd:Int)≤n):
  Calls prog 239 #[.pointer (some ⟨g,0,none⟩),.int .i64 n] w fun e w'=>e= .returned (.bool false)∧w'=w:=by
 have d0:=h.nd;have H:=aa h;clear h;rcases Int.lt_or_le n 0 with h0|h0
 ·have p0:(n<0)=True:=az h0;go_enter func239,ntmps239;go_wp2_with fail;go_ret;exact⟨rfl,rfl⟩
 ·have p0:(n<0)=False:=bL (by omega);have p1:((S.nd:Int)≤n)=True:=az (by omega);go_enter func239,ntmps239;go_wp2_with fail;go_ret;exact⟨rfl,rfl⟩
theorem NM (w:World) (g:Nat) (S:cG) (neg:Bool) (i:Nat) (h:eK w g S neg) (cC:S.Ok) (hi:i<S.nd):
  Calls prog 239 #[.pointer (some ⟨g,0,none⟩),.int .i64 (i:Int)] w fun e w'=>e= .returned (.bool (Bl S i))∧w'=w:=by
 obtain⟨T,hT⟩: ∃T,T=Bl S i:=⟨_,rfl⟩;rw[←hT];have hle:=cC.le;have d0:=h.nd;have t0:=h.tr;have di:=h.gQ i (by omega);have ua:=cC.gQ.1 i hi;have p0:((i:Int)<0)=False:=bL (by omega);have p1:((S.nd:Int)≤(i:Int))=False:=bL (by omega);have p2:((i:Int)<800)=True:=az (by omega);by_cases H8:S.D i=53
 ·have e53:((S.D i:Int)==53)=true:=by rw[H8];rfl
  by_cases hl:i+1=S.nd
  ·have e1:((i:Int)+1==(S.nd:Int))=true:=by rw[cn];omega
   have xe:T=(S.tr||ED S.D i):=by rw[hT,Bl,ar ⟨H8,hl⟩]
   cases Hw:S.tr
   ·rw[Hw]at t0 xe;have PY:T=ED S.D i:=by rw[xe,Bool.false_or]
    cases i with
    |zero=>
     have HX:=aa (show T=false by rw[PY];rfl);have HH:=aa (And.intro H8 hl);clear xe hT PY h cC H8 hl ua;go_enter func239,ntmps239;go_wp2_with fail;go_ret;exact⟨ah HX.out.symm,rfl⟩
    |succ q=>
     have dq:=h.gQ q (by omega);have hdq:=cC.gQ.1 q (by omega);have ho:=Zz hdq.1 hdq.2;have HX:=aa (show T=decide ((S.D q-48)%2≠0)by rw[PY,ED,dQ (by omega),mA,Nat.add_sub_cancel]);have HH:=aa (And.intro H8 hl);have HO:=aa ho;clear xe hT PY h cC H8 hl ua hdq;go_enter func239,ntmps239;go_wp2_with fail;go_ret;exact⟨ah (by rw[HX.out,eE,zT,zT];omega),rfl⟩
   ·rw[Hw]at t0 xe;have HX:=aa (show T=true by rw[xe,Bool.true_or]);have HH:=aa (And.intro H8 hl);clear xe hT h cC H8 hl ua;go_enter func239,ntmps239;go_wp2_with fail;go_ret;exact⟨by rw[HX.out];rfl,rfl⟩
  ·have e1:((i:Int)+1==(S.nd:Int))=false:=by rw[bK];omega
   have HX:=aa (show T=true by rw[hT,Bl,af (fun h=>hl h.2)];exact dQ (by omega));have p5:((53:Int)≤(S.D i:Int))=True:=az (by omega);have HH:=aa (And.intro H8 hl);clear hT h cC H8 hl ua;go_enter func239,ntmps239;go_wp2_with fail;go_ret;exact⟨ah HX.out.symm,rfl⟩
 ·have e53:((S.D i:Int)==53)=false:=by rw[bK];omega
  have HX:=aa (show T=decide (53≤S.D i)by rw[hT,Bl,af (fun h=>H8 h.1)]);have HH:=aa H8;clear hT h cC H8 ua;go_enter func239,ntmps239;go_wp2_with fail;go_ret;exact⟨ah (by rw[HX.out];exact acQ),rfl⟩
theorem ZA (w:World) (g:Nat) (S:cG) (neg:Bool) (n:Int) (h:eK w g S neg) (cC:S.Ok):
  Calls prog 239 #[.pointer (some ⟨g,0,none⟩),.int .i64 n] w fun e w'=>e= .returned (.bool (Xn S n))∧w'=w:=by
 by_cases hn:n<0∨(S.nd:Int)≤n
 ·rw[Xn,ar hn];exact K4 w g S neg n h hn
 ·rw[Xn,af hn];obtain⟨i,rfl⟩: ∃i:Nat,n=(i:Int):=⟨n.toNat,by omega⟩;exact NM w g S neg i h cC (by omega)
theorem ZB {a:Nat} :(a%M*10+d)%M=(a*10+d)%M:=by
 rw[Nat.add_mod,Nat.mod_mul_mod,←Nat.add_mod]
theorem acR (h1:48≤d) (h2:d≤57):IntKind.u64.wrap (IntKind.u64.wrap ((n:Int)*10)+((d:Int)-48))=(((n*10+(d-48))%18446744073709551616:Nat):Int):=by
 simp only[cT];omega
theorem acS (w:World) (g:Nat) (S:cG) (neg:Bool) (h:eK w g S neg) (cC:S.Ok):
  Calls prog 233 #[.pointer (some ⟨g,0,none⟩)] w fun e w'=>e= .returned (.int .u64 (FJ S:Int))∧w'=w:=by
 obtain⟨T,hT⟩: ∃T,T=FJ S:=⟨_,rfl⟩;rw[←hT];have d0:=h.nd;have d1:=h.dp;have H:=aa h;have FL:=aa cC;have hle:=cC.le;by_cases h20:20<S.dp
 ·have p0:((20:Int)<S.dp)=True:=az h20;have HT:=aa (show T=18446744073709551615 by rw[hT,FJ,ar h20]);clear hT h cC;go_enter func233,ntmps233;go_wp2_with fail;go_ret;exact⟨aE (by rw[HT.out];rfl),rfl⟩
 ·have p0:((20:Int)<S.dp)=False:=bL h20;obtain⟨X,hX⟩: ∃X,X=S.dp.toNat:=⟨_,rfl⟩;have HT:=aa (show T=if Xn S S.dp=true then(lH S X+1)%18446744073709551616 else lH S X by rw[hT,FJ,af h20,hX]);have atv:X≤20:=by omega
  have cA: ∀i,(lH S i*10+sj S.D S.nd i)%18446744073709551616=lH S (i+1):=fun i=>by rw[lH,ZB];rfl
  have sr:=aa cA;have HX:=aa hX;clear hT h cC cA hX;go_enter func233,ntmps233;go_upto_block 0 with fail
  go_cut [3,4]from 10 to 36 (fun t3 t4 wx=> ∃i:Nat,Hid (i≤X∧(i=X∨S.nd≤i))∧t3= .int .i64 (i:Int)∧t4= .int .u64 (lH S i:Int)∧wx=w)
  case first=>
   go_wp2_with fail;go_loopg [3,4] 30 (fun gg t3 t4 wr=> ∃i:Nat,Hid (gg=30-i∧i≤X∧wr=w)∧t3= .int .i64 (i:Int)∧t4= .int .u64 (lH S i:Int))
   case atStart=>exact⟨0,aa ⟨rfl,aT _,rfl⟩,rfl,rfl⟩
   case round=>
    obtain⟨i,hI,rfl,rfl⟩:=hrel;obtain rfl:wr=w:=hI.out.2.2;have hs:=sr.out i;by_cases h1:(i:Int)<S.dp
    ·have p1:((i:Int)<S.dp)=True:=az h1;by_cases h2:i<S.nd
     ·have p2:((i:Int)<(S.nd:Int))=True:=az (by omega);have p3:((i:Int)<800)=True:=az (by omega);have di:=H.out.gQ i (by omega);have ua:=FL.out.gQ.1 i h2;rw[sj,ar h2]at hs;have HS:=aa hs;have HDI:=aa ua;have hiX:i+1≤X:=by have:=HX.out;omega
      clear hs;go_wp2_with fail;go_roundg (30-(i+1))
      case measure=>have:=hI.out.1;omega
      case rel=>exact⟨i+1,aa ⟨rfl,hiX,rfl⟩,rfl,by rw[←HS.out];exact iK (acR HDI.out.1 HDI.out.2)⟩
     ·have p2:((i:Int)<(S.nd:Int))=False:=bL (by omega);go_wp2_with fail;go_meet;exact⟨i,aa ⟨hI.out.2.1,.inr (by omega)⟩,rfl,rfl,rfl⟩
    ·have p1:((i:Int)<S.dp)=False:=bL h1;go_wp2_with fail;go_meet;exact⟨i,aa ⟨hI.out.2.1,.inl (by have:=HX.out;have:=hI.out.2.1;omega)⟩,rfl,rfl,rfl⟩
  case rest=>
   obtain⟨i0,ti,rfl,rfl,rfl⟩:=hcut;go_wp2_with fail;go_loopg [3,4] (30-i0) (fun gg t3 t4 wr=> ∃i:Nat,Hid (gg=30-i∧i≤X∧(i=X∨S.nd≤i)∧wr=wc)∧t3= .int .i64 (i:Int)∧t4= .int .u64 (lH S i:Int))
   case atStart=>exact⟨i0,aa ⟨rfl,ti.out.1,ti.out.2,rfl⟩,rfl,rfl⟩
   case round=>
    obtain⟨i,hI,rfl,rfl⟩:=hrel;obtain rfl:wr=wc:=hI.out.2.2.2;have hs:=sr.out i;by_cases h1:(i:Int)<S.dp
    ·have p1:((i:Int)<S.dp)=True:=az h1;have hiX:i+1≤X:=by have:=HX.out;omega
     have sX:S.nd≤i:=by have:=hI.out.2.2.1;omega
     rw[sj,af (by omega)]at hs;have HS:=aa hs;clear hs;go_wp2_with fail;go_roundg (30-(i+1))
     case measure=>have:=hI.out.1;omega
     case rel=>exact⟨i+1,aa ⟨rfl,hiX,.inr (by omega),rfl⟩,rfl,by rw[←HS.out];exact iK (by simp only[cT];omega)⟩
    ·have p1:((i:Int)<S.dp)=False:=bL h1;have hiX:i=X:=by have:=HX.out;have:=hI.out.2.1;omega
     subst hiX;go_wp2_with fail;refine(ZA _ g S neg S.dp H.out FL.out).mono ?_;rintro e w2 ⟨rfl,rfl⟩;cases hb:Xn S S.dp
     ·have HB:=aa (show T=lH S i by rw[HT.out,hb,af (by simp)]);go_wp2_with fail;go_ret;exact⟨aE (by rw[HB.out]),rfl⟩
     ·have HB:=aa (show T=(lH S i+1)%18446744073709551616 by rw[HT.out,hb,ar rfl]);go_wp2_with fail;go_ret;exact⟨aE (by rw[HB.out];simp only[cT];omega),rfl⟩
