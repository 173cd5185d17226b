import Derived.Test.YtcdoilkjmjbgmaaGreatDoorR22
import Derived.Deep.CutBlock
import Derived.Deep.LoopGhost
/- Part of the proof of YtcdoilkjmjbgmaaGreatDoorCardR: DecB DecC DecD DecE DecF. -/
set_option maxRecDepth 100000
set_option maxHeartbeats 4000000
set_option linter.unusedVariables false
set_option linter.unusedSimpArgs false
namespace Go.Proofs.YtcdoilkjmjbgmaaGreatDoor
open Go.RowKit
open Tryz
variable {a b:Int} {D:Nat→Nat} {nd k r n K d F i C B M:Nat} {l:List UInt8} {w w':World} {S:cS}
theorem iM {k:IntKind} (h:a=b):Value.int k a=Value.int k b:=by rw[h]
theorem RZ (h:jE D nd) (hn:0<nd) (hk:k≤60) (ax:pre D nd r<2^k):r≤20∧pre D nd r<1152921504606846976:=by
 have h60:(2:Nat)^k≤2^60:=ek (by omega) hk;refine⟨?_,by omega⟩;rcases dF r 21 with h1|h1
 ·omega
 ·exfalso;obtain⟨q,rfl⟩: ∃q,r=q+1:=⟨r-1,by omega⟩;have h2:=lW h hn q;have h3:(10:Nat)^20≤10^q:=ek (by omega) (by omega);omega
theorem H7 (hK:0<K):(((n/K:Nat):Int)==0)= !decide (K≤n):=by
 by_cases h:K≤n
 ·have:1≤n/K:=(Nat.one_le_div_iff hK).2 h;rw[dR h,bN.2 (by omega)];rfl
 ·rw[tO (by omega),gA h];rfl
theorem Y9 (hn:n<1152921504606846976) (h1:48≤d) (h2:d≤57):IntKind.u64.wrap (IntKind.u64.wrap ((n:Int)*10+IntKind.u64.wrap (d:Int))-48)=((n*10+(d-48):Nat):Int):=by
 simp only[dc];omega
theorem R1 (hn:n<1152921504606846976):IntKind.u64.wrap ((n:Int)*10)=((n*10:Nat):Int):=by
 simp only[dc];omega
theorem ig (h:r<F):F-(intOf (.int .i64 ((r:Int)+1))).toNat<F-(intOf (.int .i64 (r:Int))).toNat:=by
 have h1:(intOf (.int .i64 ((r:Int)+1))).toNat=r+1:=rfl;have h2:(intOf (.int .i64 (r:Int))).toNat=r:=rfl;rw[h1,h2];exact Nat.sub_lt_sub_left h (vU r)
theorem V1 (h0:0<K) (h:K≤1152921504606846976):IntKind.u64.wrap (IntKind.u64.wrap (K:Int)-1)=((K-1:Nat):Int):=by
 simp only[dc];omega
theorem w8 (h:d≤9):IntKind.u64.wrap ((d:Int)+48)%256=((48+d:Nat):Int):=by
 simp only[dc];omega
theorem V2 (hn:n%K<1152921504606846976) (h1:48≤d) (h2:d≤57):IntKind.u64.wrap (IntKind.u64.wrap (IntKind.u64.wrap ((n:Int)%(K:Int)*10)+IntKind.u64.wrap (d:Int))-48)=((n%K*10+(d-48):Nat):Int):=by
 have e:(n:Int)%(K:Int)=((n%K:Nat):Int):=by simp
 rw[e];generalize n%K=m at hn ⊢
 simp only[dc];omega
theorem ve (hn:n%K<1152921504606846976):IntKind.u64.wrap ((n:Int)%(K:Int)*10)=((n%K*10:Nat):Int):=by
 have e:(n:Int)%(K:Int)=((n%K:Nat):Int):=by simp
 rw[e];generalize n%K=m at hn ⊢
 simp only[dc];omega
theorem Kg (hK:K=2^k) (h0:0<K):(((n:Nat):Int)/2^k==0)= !decide (K≤n):=by
 rw[←H7 h0,hK];simp
theorem DB (w:World) (B g:Nat) (D:Nat→Nat) (nd k:Nat) (dp:Int) (neg tr:Bool) (h:bz w g D nd dp neg tr) (hd:jE D nd) (hn:0<nd) (rb:nd≤800) (mU:1≤k) (hk:k≤60) (uA: -1000000000000≤dp∧dp≤1000000000000) (hB:B≤g):
  Calls prog 238 #[.pointer (some ⟨g,0,none⟩),.int .u64 (k:Int)] w fun e w'=>e= .returned (.tuple #[])∧bz w' g (xH D nd k) (DQ D nd k) (Qf D nd k dp) neg (XL D nd k tr)∧Below B w w':=by
 have H:=aa h;have HD:=aa hd;obtain⟨K,AV⟩: ∃K,K=2^k:=⟨_,rfl⟩;have hK0:0<K:=by rw[AV];exact fb (by omega)
 have HK:=aa AV;have abn:K≤1152921504606846976:=by rw[AV];exact ek (by omega) hk
 have PF:((2:Int)^min k 64)=(K:Int):=by rw[mW (by omega),AV];simp
 have iL: ∀r,tV D nd k r=decide (K≤pre D nd r):=fun r=>by rw[tV,AV]
 obtain⟨R0,hR0⟩: ∃R,R=AS D nd k:=⟨_,rfl⟩;obtain⟨P,hP⟩: ∃P:Nat→Nat,P=pre D nd:=⟨_,rfl⟩;have hPs: ∀r,P (r+1)=P r*10+sH D nd r:=fun r=>by rw[hP];rfl
 have hP0:P 0=0:=by rw[hP];rfl
 have po: ∀r,P r<K→r≤20∧P r<1152921504606846976:=fun r hr=>by rw[hP]at hr ⊢;exact RZ hd hn hk (by rw[←AV];exact hr)
 have pE: ∀r,0<r→P r≠0:=fun r hr=>by
  obtain⟨q,rfl⟩: ∃q,r=q+1:=⟨r-1,by omega⟩;have:=lW hd hn q;rw[hP];have h1:0<10^q:=fb (by omega);omega
 have Oj:=aa hPs;have HP0:=aa hP0;have xB:=aa po;have akd:=aa pE;have X1:=aa iL;have Wu:=aa hR0;have HP:=aa hP;clear h hd AV hR0 hP hPs hP0 po pE iL;go_enter func238,ntmps238;go_upto_block 0 with fail
 go_cut [4,6,7]from 12 to 48 (fun t4 t6 t7 wx=>t4= .int .i64 (R0:Int)∧t6= .int .u64 (P R0:Int)∧Hid (K≤P R0∧P R0<10*K∧1≤R0∧R0≤21)∧wx=w)
 case first=>
  go_wp2_with fail;go_loopw [4,6,7] (fun t4 t6 t7 wr=> ∃r:Nat,Hid (pH (tV D nd k) (1000-r) r=R0∧r≤21∧P r<10*K∧(r=0→True))∧t4= .int .i64 (r:Int)∧t6= .int .u64 (P r:Int)∧wr=w) (fun t4 _ _ _=>1000-(intOf t4).toNat)
  case atStart=>exact⟨0,aa ⟨by rw[Wu.out];rfl,by omega,by rw[HP0.out];omega,fun _=>trivial⟩,rfl,by rw[HP0.out];rfl,rfl⟩
  case round=>
   obtain⟨r,hI,rfl,rfl,rfl⟩:=hrel;have hz:=Kg (n:=P r) HK.out hK0;have d0:=H.out.nd;by_cases mg:K≤P r
   ·rw[dR mg]at hz;have HZ:=aa (show R0=r by
     rw[←hI.out.1];exact BP (by have:=hI.out.2.1;omega) (by rw[X1.out,←HP.out];exact dR mg))
    go_wp2_with fail;go_meet;rw[HZ.out];exact⟨rfl,rfl,aa ⟨mg,hI.out.2.2.1,by
     rcases jS r with h|h
     ·rw[h,HP0.out]at mg;omega
     ·exact h,hI.out.2.1⟩,rfl⟩
   ·rw[gA mg]at hz;have po:=xB.out r (by omega);have SZ:=aa (show pH (tV D nd k) (1000-(r+1)) (r+1)=R0 by
     rw[←hI.out.1];exact(yb (by omega) (by rw[X1.out,←HP.out];exact gA mg)).symm)
    have hd9:=pQ HD.out r;have Lv:=Oj.out r;by_cases Qa:r<nd
    ·have p1:((nd:Int)≤(r:Int))=False:=bU (by omega);have p2:((r:Int)<800)=True:=aA (by omega);have dr:=H.out.gT r (by omega);have Wx:=HD.out.1 r Qa;have qI:sH D nd r=D r-48:=by rw[sH,au Qa]
     have HX:=aa (And.intro Lv (And.intro qI (And.intro Wx po)));clear Lv qI Wx po hd9;go_wp2_with fail;go_roundw
     case rel=>
      refine⟨r+1,aa ⟨SZ.out,by have:=HX.out.2.2.2.1;omega,?_,fun _=>trivial⟩,rfl,?_,by first|rfl|trivial⟩
      ·rw[HX.out.1,HX.out.2.1];have:=HX.out.2.2.1;omega
      ·rw[HX.out.1,HX.out.2.1];exact iM (Y9 HX.out.2.2.2.2 HX.out.2.2.1.1 HX.out.2.2.1.2)
     case measure=>exact ig (by omega)
    ·have p1:((nd:Int)≤(r:Int))=True:=aA (by omega);have bZ:(((P r:Nat):Int)==0)=false:=bN.2 (by have:=akd.out r (by omega);omega);have HX:=aa po;clear Lv hd9 po;go_wp2_with fail;go_loopw [4,6] (fun t4 t6 wr2=> ∃r:Nat,Hid (pH (tV D nd k) (1000-r) r=R0∧r≤21∧P r<10*K∧nd≤r)∧t4= .int .i64 (r:Int)∧t6= .int .u64 (P r:Int)∧wr2=wr) (fun t4 _ _=>1000-(intOf t4).toNat)
     case atStart=>exact⟨r,aa ⟨hI.out.1,hI.out.2.1,hI.out.2.2.1,by omega⟩,rfl,rfl,rfl⟩
     case round=>
      obtain⟨r2,ku,rfl,rfl,rfl⟩:=hrel;have ep:=Kg (n:=P r2) HK.out hK0;by_cases L6:K≤P r2
      ·rw[dR L6]at ep;have HZ:=aa (show R0=r2 by
        rw[←ku.out.1];exact BP (by have:=ku.out.2.1;omega) (by rw[X1.out,←HP.out];exact dR L6))
       go_wp2_with fail;go_meet;rw[HZ.out];exact⟨rfl,rfl,aa ⟨L6,ku.out.2.2.1,by have:=ku.out.2.2.2;omega,ku.out.2.1⟩,rfl⟩
      ·rw[gA L6]at ep;have po:=xB.out r2 (by omega);have ake:=aa (show pH (tV D nd k) (1000-(r2+1)) (r2+1)=R0 by
        rw[←ku.out.1];exact(yb (by omega) (by rw[X1.out,←HP.out];exact gA L6)).symm)
       have Lv:=Oj.out r2;have qI:sH D nd r2=0:=by rw[sH,af (by have:=ku.out.2.2.2;omega)]
       have HX2:=aa (And.intro Lv (And.intro qI po));have as2:=po.1;clear Lv qI po;go_wp2_with fail;go_roundw
       case rel=>
        refine⟨r2+1,aa ⟨ake.out,by have:=HX2.out.2.2.1;omega,?_,by have:=ku.out.2.2.2;omega⟩,rfl,?_,by first|rfl|trivial⟩
        ·rw[HX2.out.1,HX2.out.2.1];omega
        ·rw[HX2.out.1,HX2.out.2.1,iK]
         first|exact iM (R1 HX2.out.2.2.2)|exact iM (by omega)
       case measure=>exact ig (F:=1000) (by omega)
 case rest=>
  obtain⟨rfl,rfl,hX,rfl⟩:=hcut;have d1:=H.out.dp;have f1:=H.out.free 801;have anD:IntKind.u64.wrap (IntKind.u64.wrap (2^k)-1)=((K-1:Nat):Int):=by
   rw[show ((2:Int)^k)=(K:Int)by rw[HK.out];simp];exact V1 hK0 abn
  obtain⟨N,hN⟩: ∃N:Nat→Nat,N=fun j=>P (R0+j)%(10*K):=⟨_,rfl⟩
  have hNd: ∀j,N j/K=ji D nd k R0 j∧N j%K*10+sH D nd (R0+j)=N (j+1)∧N j<10*K:=fun j=>by
   have h1:=Yc (X:=P (R0+j)) hK0 (pQ HD.out (R0+j));rw[hN];refine⟨?_,?_,mD _ (by omega)⟩
   ·rw[h1.1,ji,←HP.out,←HK.out]
   ·show P (R0+j)%(10*K)%K*10+sH D nd (R0+j)=P (R0+(j+1))%(10*K);rw[h1.2,←Bk,Oj.out]
  have tl:N 0=P R0:=by rw[hN];exact tz hX.out.2.1
  have hNe: ∀j,nd+(k+1)≤R0+j→N j=0:=fun j hj=>by
   rw[hN];show P (R0+j)%(10*K)=0;obtain⟨m,hm⟩: ∃m,R0+j=nd+(k+1+m):=⟨R0+j-nd-(k+1),by omega⟩;rw[hm,HP.out,ik,HK.out];have e:(10:Nat)^(k+1+m)=(10*2^k)*(5^k*10^m):=by
    rw[ee,et,show (10:Nat)^k=2^k*5^k by rw[←Bo]];simp only[ct,fA,qv]
   rw[e,←ct,fA (pre D nd nd),ct];exact Nat.mul_mod_right _ _
  have S5: ∀j,mF D nd k R0 j=decide (N j=0):=fun j=>by rw[mF,hN,←HP.out,←HK.out]
  have H1:=aa (H.out.EN (dp-((R0:Int)-1)));have HN:=aa (And.intro hNd (And.intro tl (And.intro hNe S5)));have as3:=hX.out.2.2.2;have hR1:=hX.out.2.2.1;have akf:=tl;rw[←tl];clear hN hNd tl hNe S5 akf;have cn:=aa ((aV B wc).setCell (p:=⟨g,801,none⟩) hB (.int .i64 (dp-((R0:Int)-1))));go_upto_block 4 with fail
  go_wp2_with fail;go_loopw [4,5,6,9,10] (fun t4 t5 t6 _ _ wr=> ∃j:Nat,Hid ((R0+j≤nd∨j=0)∧bz wr g (sI D nd k R0 j) nd (dp-((R0:Int)-1)) neg tr∧Below B wc wr)∧t4= .int .i64 ((R0+j:Nat):Int)∧t5= .int .i64 (j:Int)∧t6= .int .u64 (N j:Int)) (fun t4 _ _ _ _ _=>nd-(intOf t4).toNat)
  case atStart=>exact⟨0,aa ⟨.inr rfl,by rw[UC];exact H1.out,cn.out⟩,rfl,rfl,rfl⟩
  case round=>
   obtain⟨j,hI,rfl,rfl,rfl⟩:=hrel;have d0:=hI.out.2.1.nd;obtain⟨r,hr⟩: ∃r,r=R0+j:=⟨_,rfl⟩;rw[←hr];have dz:=HN.out.1 j;rw[←hr]at dz;have hjr:j+1≤r:=by omega
   have FY:=aa hr;clear hr;by_cases Qa:r<nd
   ·have p1:((r:Int)<(nd:Int))=True:=aA (by omega);have WT:j<800:=by omega
    have p2:((r:Int)<800)=True:=aA (by omega);have p3:((j:Int)<800)=True:=aA (by omega);have dr:=hI.out.2.1.gT r (by omega);rw[UB (by omega)]at dr;have fj:=hI.out.2.1.free j;have dj:=hI.out.2.1.gT j WT;have Wx:=HD.out.1 r Qa;have qI:sH D nd r=D r-48:=by rw[sH,au Qa]
    have g1:((N j:Int)/2^k)=((ji D nd k R0 j:Nat):Int):=by
     rw[←dz.1,HK.out];simp
    have g2:bits .and .u64 (N j:Int) ((K-1:Nat):Int)=((N j%K:Nat):Int):=by
     rw[vX _ _ (by have:=dz.2.2;omega) (by omega),HK.out,DM]
    have h9:ji D nd k R0 j≤9:=by rw[ji];omega
    have HX:=aa (And.intro dz (And.intro qI (And.intro Wx h9)));obtain⟨v0,F1⟩: ∃v0,v0=Value.int .u8 (sI D nd k R0 j j:Int):=⟨_,rfl⟩;rw[←F1]at dj;clear dz qI Wx h9 F1;go_wp2_with fail;go_roundw
    case rel=>
     refine⟨j+1,aa ⟨.inl (by have:=FY.out;omega),?_,hI.out.2.2.setCell (p:=⟨g,j,none⟩) hB _⟩,?_,rfl,?_⟩
     ·rw[←JD WT];exact hI.out.2.1.BJ WT (w8 HX.out.2.2.2)
     ·exact iM (by have:=FY.out;omega)
     ·rw[←HX.out.1.2.1,HX.out.2.1];exact iM (V2 (by have:=mD (N j) hK0;omega) HX.out.2.2.1.1 HX.out.2.2.1.2)
    case measure=>exact ig Qa
   ·have p1:((r:Int)<(nd:Int))=False:=bU (by omega);have hjn:j=nd-R0:=by
     have h1:=hI.out.1;have h2:=FY.out;omega
    have afl:nd≤R0+j:=by have h2:=FY.out;omega
    obtain⟨WW,hWW⟩: ∃WW,WW=rsW D nd k R0:=⟨_,rfl⟩;have A1:pH (mF D nd k R0) (2000-j) j=WW:=by rw[hWW,rsW,hjn]
    have WT:j≤800:=by omega
    have HW:=aa hWW;have HI:=aa (And.intro hI.out.2.1 (And.intro hI.out.2.2 (And.intro A1 afl)));have Xz:(tr||Xb D nd k R0 j)=tr:=by rw[QJ WT,qz]
    have HT0:=aa Xz;have xw:=aa dz;clear dz hWW A1 afl Xz hI hjn;go_wp2_with fail;go_loopg [5,6,11] (1000-j) (fun gg t5 t6 _ wr=> ∃j q:Nat,Hid (gg=1000-j∧q=min j 800∧pH (mF D nd k R0) (2000-j) j=WW∧nd≤R0+j∧bz wr g (sI D nd k R0 j) nd (dp-((R0:Int)-1)) neg (tr||Xb D nd k R0 j)∧Below B wc wr∧j≤900)∧t5= .int .i64 (q:Int)∧t6= .int .u64 (N j:Int))
    case atStart=>exact⟨j,j,aa ⟨rfl,(mW WT).symm,HI.out.2.2.1,HI.out.2.2.2,by rw[HT0.out];exact HI.out.1,HI.out.2.1,by omega⟩,rfl,rfl⟩
    case round=>
     obtain⟨j,q,ku,rfl,rfl⟩:=hrel;have dz:=HN.out.1 j;have S5:=HN.out.2.2.2 j;have fP:=ku.out.2.2.2.2.1;cases hz:decide (N j=0)
     ·rw[hz]at S5;have bZ:N j≠0:=tw hz;have hjb:R0+j<nd+(k+1):=by
       rcases dF (R0+j) (nd+(k+1))with h|h
       ·exact h
       ·exact absurd (HN.out.2.2.1 j h) bZ
      have hj9:j<900:=by omega
      have re:=yb (F:=2000) (r:=j) (by omega) S5;have qI:sH D nd (R0+j)=0:=by rw[sH,af (by have:=ku.out.2.2.2.1;omega)]
      have p1:((0:Int)<(N j:Int))=True:=aA (by omega);have p1n:0<N j:=by omega
      have g1:((N j:Int)/2^k)=((ji D nd k R0 j:Nat):Int):=by
       rw[←dz.1,HK.out];simp
      have g2:bits .and .u64 (N j:Int) ((K-1:Nat):Int)=((N j%K:Nat):Int):=by
       rw[vX _ _ (by have:=dz.2.2;omega) (by omega),HK.out,DM]
      have h9:ji D nd k R0 j≤9:=by rw[ji];omega
      have hNs:N (j+1)=N j%K*10:=by have:=dz.2.1;rw[qI]at this;omega
      have PU:N j%K<1152921504606846976:=by have:=mD (N j) hK0;omega
      have zW:pH (mF D nd k R0) (2000-(j+1)) (j+1)=WW:=by rw[←re];exact ku.out.2.2.1
      have HX:=aa (And.intro hNs (And.intro PU (And.intro zW h9)));have Qc:=aa fP;have f0:=fP.free 803;have t0:=fP.tr;by_cases WT:j<800
      ·have hq:q=j:=by have:=ku.out.2.1;omega
       subst hq;have fj:=fP.free q;have dj:=fP.gT q WT;obtain⟨v0,F1⟩: ∃v0,v0=Value.int .u8 (sI D nd k R0 q q:Int):=⟨_,rfl⟩;rw[←F1]at dj;clear F1;have p3:((q:Int)<800)=True:=aA (by omega);clear dz qI re h9 S5 hz bZ hNs PU zW fP;go_wp2_with fail;go_roundg (1000-(q+1))
       case measure=>have:=ku.out.1;omega
       case rel=>
        refine⟨q+1,q+1,aa ⟨rfl,by omega,HX.out.2.2.1,by have:=ku.out.2.2.2.1;omega,?_,ku.out.2.2.2.2.2.1.setCell (p:=⟨g,q,none⟩) hB _,by omega⟩,rfl,?_⟩
        ·rw[←JD WT,BQ,gA (by omega: ¬800≤q),rA,qz];exact Qc.out.BJ WT (w8 HX.out.2.2.2)
        ·rw[HX.out.1];exact iM (ve HX.out.2.1)
      ·have hq:q=800:=by have:=ku.out.2.1;omega
       have p3:((q:Int)<800)=False:=bU (by omega);have HQ:=aa hq;clear hq;have hjj:800≤j:=by omega
       cases ZQ:decide (0<ji D nd k R0 j)
       ·have p4:((0:Int)<(ji D nd k R0 j:Int))=False:=bU (by have:=tw ZQ;omega);have p4n: ¬0<ji D nd k R0 j:=tw ZQ;have HDZ:=aa ZQ;clear dz qI re h9 S5 hz bZ hNs PU zW fP ZQ;go_wp2_with fail;go_roundg (1000-(j+1))
        case measure=>have:=ku.out.1;omega
        case rel=>
         refine⟨j+1,q,aa ⟨rfl,by have:=HQ.out;omega,HX.out.2.2.1,by have:=ku.out.2.2.2.1;omega,?_,ku.out.2.2.2.2.2.1,by omega⟩,rfl,?_⟩
         ·rw[O1 hjj,BQ,HDZ.out,tQ,qz];exact Qc.out
         ·rw[HX.out.1];exact iM (ve HX.out.2.1)
       ·have p4:((0:Int)<(ji D nd k R0 j:Int))=True:=aA (by have:=nT ZQ;omega);have p4n:0<ji D nd k R0 j:=nT ZQ;have HDZ:=aa ZQ;clear dz qI re h9 S5 hz bZ hNs PU zW fP ZQ;go_wp2_with fail;go_roundg (1000-(j+1))
        case measure=>have:=ku.out.1;omega
        case rel=>
         refine⟨j+1,q,aa ⟨rfl,by have:=HQ.out;omega,HX.out.2.2.1,by have:=ku.out.2.2.2.1;omega,?_,ku.out.2.2.2.2.2.1.setCell (p:=⟨g,803,none⟩) hB _,by omega⟩,rfl,?_⟩
         ·rw[O1 hjj,BQ,HDZ.out,dR hjj,Bool.and_true,vW,vW];exact Qc.out.OP true
         ·rw[HX.out.1];exact iM (ve HX.out.2.1)
     ·rw[hz]at S5;have SR:N j=0:=nT hz;have hWj:WW=j:=by rw[←ku.out.2.2.1];exact BP (by have:=ku.out.2.2.2.2.2.2;omega) S5
      have p1:((0:Int)<(N j:Int))=False:=bU (by omega);have p1n: ¬0<N j:=by omega
      have f0:=fP.free 800;have d1:=fP.nd;have Qc:=aa (fP.Bw (n:=q) (z:=(q:Int)) rfl);have HWJ:=aa hWj;clear dz S5 hz SR fP hWj;go_wp2_with fail;refine(Ci _ B g _ q _ neg _ Qc.out (by have:=ku.out.2.1;omega) hB).mono ?_;rintro e w9 ⟨rfl,F2,P9⟩;have HB9:=aa ((ku.out.2.2.2.2.2.1.setCell (p:=⟨g,800,none⟩) hB (.int .i64 (q:Int))).trans P9);have HDF:=aa F2;clear F2 P9;go_wp2_with fail;go_end0;have e1:xH D nd k=sI D nd k R0 j:=by rw[xH,←Wu.out,←HW.out,HWJ.out]
      have e2:Br D nd k=q:=by rw[Br,←Wu.out,←HW.out,HWJ.out];exact ku.out.2.1.symm
      have e3:XL D nd k tr=(tr||Xb D nd k R0 j):=by rw[XL,←Wu.out,←HW.out,HWJ.out]
      have e4:Qf D nd k dp=pP (sI D nd k R0 j) q (dp-((R0:Int)-1)):=by rw[Qf,e1,e2,←Wu.out]
      rw[DQ,e1,e2,e3,e4];exact⟨rfl,HDF.out,HB9.out⟩
theorem bz.drewN {w:World} {g:Nat} {D:Nat→Nat} {nd:Nat} {dp:Int} {neg tr:Bool} (h:bz w g D nd dp neg tr) (n:Nat):bz (w.drewN n) g D nd dp neg tr:=h.drew n
theorem NX (h:l.length≤i):ib D nd (l.drop i) i=false:=by rw[uD h];rfl
theorem R2 (h:i<l.length):ib D nd (l.drop i) i=if nd≤i then true else if D i=(aq l i).toNat then ib D nd (l.drop (i+1)) (i+1)else decide (D i<(aq l i).toNat):=by
 have e:l[i]=aq l i:=by rw[aq,lA,eG h];rfl
 rw[pq h,ib,e]
theorem R3 (w:World) (g:Nat) (D:Nat→Nat) (nd:Nat) (dp:Int) (neg tr:Bool) (s:ByteArray) (h:bz w g D nd dp neg tr) (rb:nd≤800) (hs:s.size≤1000):
  Calls prog 244 #[.slice (some ⟨g,0,none⟩) nd 800,.string s] w fun e w'=>e= .returned (.bool (ib D nd s.data.toList 0))∧ ∃m,w'=w.drewN m:=by
 obtain⟨T,hT⟩: ∃T,T=ib D nd s.data.toList 0:=⟨_,rfl⟩;rw[←hT];have HT:=aa hT;have H:=aa h;clear hT h;go_enter func244,ntmps244;go_wp2_with fail;go_loopw [5] (fun t5 wr=> ∃i:Nat,Hid (ib D nd (s.data.toList.drop i) i=T∧i≤s.size∧ ∃m,wr=w.drewN m)∧t5= .int .i64 (i:Int)) (fun t5 _=>s.size-(intOf t5).toNat)
 case atStart=>exact⟨0,aa ⟨HT.symm,dQ _,0,rfl⟩,rfl⟩
 case round=>
  obtain⟨i,hI,rfl⟩:=hrel;by_cases hi:i<s.size
  ·have p1:((i:Int)<(s.size:Int))=True:=aA (by omega);have dz:=R2 (D:=D) (nd:=nd) (l:=s.data.toList) (i:=i) (by rw[ab];exact hi);rw[ar hi]at dz;have hD:bz wr g D nd dp neg tr:=by obtain⟨m,hm⟩:=hI.2.2;rw[hm];exact H.drewN m
   have HD:=aa hD;have xw:=aa dz;clear dz hD;by_cases hn:nd≤i
   ·have p2:((nd:Int)≤(i:Int))=True:=aA (by omega);have xy:T=true:=by rw[←hI.out.1,xw.out,au hn]
    have xx:=aa xy;clear xy;go_wp2_with fail;go_ret;exact⟨by rw[xx.out];rfl,hI.2.2⟩
   ·have p2:((nd:Int)≤(i:Int))=False:=bU (by omega);have p3:((i:Int)<(nd:Int))=True:=aA (by omega);have c0:=HD.gT i (by omega);by_cases he:D i=s[i].toNat
    ·have e1:((D i:Int) != (s[i].toNat:Int))=false:=by rw[he];simp
     have xy:ib D nd (s.data.toList.drop (i+1)) (i+1)=T:=by rw[←hI.out.1,xw.out,af hn,au he]
     have xx:=aa xy;clear xy;go_wp2_with fail;go_quiet (fail);have qt: ∃m,wr.drewN nq=w.drewN m:=by obtain⟨m,hm⟩:=hI.2.2;exact⟨_,by rw[hm,jV]⟩
     clear c0;generalize wr.drewN nq=w2 at qt ⊢
     have Wl:=aa qt;clear qt he;go_wp2_with fail;go_roundw
     case rel=>exact⟨i+1,aa ⟨xx,hi,Wl⟩,rfl⟩
     case measure=>exact ig hi
    ·have e1:((D i:Int) != (s[i].toNat:Int))=true:=by rw[jA];omega
     have xy:T=decide (D i<s[i].toNat):=by rw[←hI.out.1,xw.out,af hn,af he]
     have xx:=aa xy;clear xy;clear he;go_wp2_with fail;go_quiet (fail);have qt: ∃m,wr.drewN nq=w.drewN m:=by obtain⟨m,hm⟩:=hI.2.2;exact⟨_,by rw[hm,jV]⟩
     have c1:(wr.drewN nq).cell? ⟨g,i,none⟩=some (.int .u8 (D i:Int)):=c0;clear c0;generalize wr.drewN nq=w2 at qt c1 ⊢
     have Wl:=aa qt;clear qt;go_wp2_with fail;go_quiet (fail);have Xu: ∃m,w2.drewN nq=w.drewN m:=by obtain⟨m,hm⟩:=Wl.out;exact⟨_,by rw[hm,jV]⟩
     clear c1;generalize w2.drewN nq=w3 at Xu ⊢
     have HM3:=aa Xu;clear Xu;go_wp2_with fail;go_ret;exact⟨by rw[xx.out];rfl,HM3⟩
  ·have p1:((i:Int)<(s.size:Int))=False:=bU (by omega);have xy:T=false:=by rw[←hI.out.1];exact NX (by rw[ab];omega)
   have xx:=aa xy;clear xy;go_wp2_with fail;go_ret;exact⟨by rw[xx.out];rfl,hI.2.2⟩
structure kH (w:World) (C:Nat):Prop where
 FX: ∃o,w.cell? ⟨11,0,none⟩=some (.slice (some ⟨C,o,none⟩) 61 61)∧ ∀k,k<61→w.cell? ⟨C,o+k*2,none⟩=some (.int .i64 (DG k:Int))∧w.cell? ⟨C,o+k*2+1,none⟩=some (.string ⟨(LJ k).toArray⟩)
 lt0:11<w.heap.size
 lt:C<w.heap.size
theorem kH.below (h:kH w C) (hb:Below B w w') (h0:11<B) (h1:C<B):kH w' C:=by
 obtain⟨o,t1,t2⟩:=h.FX;exact⟨⟨o,(hb.cell (p:=⟨_,0,none⟩) h0).trans t1,fun k hk=>⟨(hb.cell (p:=⟨C,_,none⟩) h1).trans (t2 k hk).1,(hb.cell (p:=⟨C,_,none⟩) h1).trans (t2 k hk).2⟩⟩,gU h.lt0 hb.size,gU h.lt hb.size⟩
theorem acf (hK:K=2^k) (h60:K≤1152921504606846976) (hn:n<K) (h1:48≤d) (h2:d≤57):IntKind.u64.wrap ((n:Int)+IntKind.u64.wrap (IntKind.u64.wrap (IntKind.u64.wrap (d:Int)-48)*2^k))=((n+(d-48)*K:Nat):Int):=by
 have e:((2:Int)^k)=(K:Int):=by rw[hK];simp
 rw[e];have e2:IntKind.u64.wrap (IntKind.u64.wrap (d:Int)-48)=((d-48:Nat):Int):=by simp only[dc];omega
 rw[e2];have h9:(d-48)*K≤9*K:=fi _ (by omega);have e3:(((d-48:Nat):Int)*(K:Int))=(((d-48)*K:Nat):Int):=by simp
 rw[e3];generalize (d-48)*K=x at h9 ⊢
 simp only[dc];omega
theorem Ui (hn:n<18446744073709551616):IntKind.u64.wrap ((n:Int)-IntKind.u64.wrap (10*((n/10:Nat):Int)))=((n%10:Nat):Int):=by
 simp only[dc];omega
theorem El (w:World) (B g C:Nat) (D:Nat→Nat) (nd k:Nat) (dp:Int) (neg tr:Bool) (h:bz w g D nd dp neg tr) (hc:kH w C) (hd:jE D nd) (hn:0<nd) (rb:nd≤800) (mU:1≤k) (hk:k≤60) (uA: -1000000000000≤dp∧dp≤1000000000000) (hB:B≤g):
  Calls prog 237 #[.pointer (some ⟨g,0,none⟩),.int .u64 (k:Int)] w fun e w'=>e= .returned (.tuple #[])∧bz w' g (pI D nd k) (xJ D nd k) (Qg D nd k dp) neg (XM D nd k tr)∧Below B w w':=by
 have H:=aa h;have HD:=aa hd;have cJ:=BR mU hk;obtain⟨o,h0,Qm⟩:=hc.FX;have hr:=Qm k (by omega);clear Qm;obtain⟨δ,hδ⟩: ∃δ,δ=DG k:=⟨_,rfl⟩;obtain⟨s,hs⟩: ∃s:ByteArray,s=⟨(LJ k).toArray⟩:=⟨_,rfl⟩;rw[←hδ,←hs]at hr;have hsl:s.data.toList=LJ k:=by rw[hs]
 have hss:s.size≤60:=by rw[←ab,hsl];exact cJ.short
 have as4:1≤δ∧δ≤20:=by rw[hδ];exact⟨cJ.pos,cJ.small⟩
 obtain⟨r1,r2⟩:=hr;have hb:=j8 hd hn mU hk;obtain⟨L,hL⟩: ∃L,L=tG D nd k:=⟨_,rfl⟩;obtain⟨M,hM⟩: ∃M,M=Lw D nd k:=⟨_,rfl⟩;rw[←hL,←hM]at hb;have HB:=aa hb;have HL:=aa hL;have HM:=aa hM;have Wr:=aa (And.intro hδ hsl);have hLn:nd≤L∧L≤nd+20:=⟨hb.2.2.1,hb.2.2.2⟩;clear h hd cJ hs hδ hsl hb hL hM hc;have d0:=H.out.nd;have hq0:((0:Int)≤(nd:Int))=True:=aA (by omega);have Eo:((nd:Int)≤800)=True:=aA (by omega);have uw:((k:Int)<61)=True:=aA (by omega);go_enter func237,ntmps237;obtain⟨b,hl⟩: ∃b,Mj D nd k=b:=⟨_,rfl⟩;have hp:ib D nd s.data.toList 0=b:=by rw[Wr.out.2];exact hl
 have HP:=aa hp;have HLB:=aa hl;clear hp hl;go_wp2_with fail;go_quiet ((go_at_call 244;exact Calls.quiet_of ((R3 _ g D nd dp neg tr s (H.out.drewN _) rb (by omega)).mono fun _ _ ⟨h1,h2⟩=>⟨by rw[h1,HP.out],h2⟩)));obtain⟨m,hm⟩: ∃m,m=nq:=⟨_,rfl⟩;rw[←hm];clear hm;have hH:bz (w.drewN m) g D nd dp neg tr:=H.out.drewN m;have aN:Below B w (w.drewN m):=cr (aV B w) m;clear d0 h0 r1 r2;generalize w.drewN m=w2 at hH aN ⊢
 have d0:=hH.nd;have H2:=aa hH;have bC:=aa aN;obtain⟨K,AV⟩: ∃K,K=2^k:=⟨_,rfl⟩;have abn:K≤1152921504606846976:=by rw[AV];exact ek (n:=2) (by omega) hk
 have hK0:0<K:=by rw[AV];exact fb (by omega)
 obtain⟨N,hN⟩: ∃N:Nat→Nat,N=Sg (pre D nd nd) k:=⟨_,rfl⟩;have hMM:M=pre D nd nd*K:=by rw[HM.out,Lw,AV]
 have rI: ∀j,j<nd→(N j+(D (nd-1-j)-48)*K)%10=M/10^j%10∧(N j+(D (nd-1-j)-48)*K)/10=N (j+1)∧N j<K:=fun j hj=>by
  have:=JF (k:=k) (Ye HD.out hj);rw[hN,hMM,AV];exact this
 have Tg: ∀j,nd≤j→N j=M/10^j:=fun j hj=>by
  rw[hN,hMM,AV];exact MQ (xS HD.out nd) hj
 have tl:N 0=0:=by rw[hN,Sg];simp[Nat.mod_one]
 have hNK: ∀j,N j<K:=fun j=>by rw[hN,AV];exact(JF rfl).2.2
 have HN:=aa (And.intro rI (And.intro Tg (And.intro tl hNK)));have HKK:=aa AV;clear hH aN AV hN hMM rI Tg tl hNK;go_upto_if 30 with fail
 go_cut [4]from 12 to 32 (fun t4 wx=>t4= .int .i64 ((L:Int)-nd)∧wx=w2)
 case first=>
  cases b
  ·have hLL:(L:Int)-nd=δ:=by
    have:=HL.out;rw[tG,HLB.out,af (by simp),←Wr.out.1]at this;omega
   go_wp2_with fail;go_meet;exact⟨iM (by omega),rfl⟩
  ·have hLL:(L:Int)-nd=δ-1:=by
    have:=HL.out;rw[tG,HLB.out,au rfl,←Wr.out.1]at this;omega
   go_wp2_with fail;go_meet;exact⟨iM (by omega),rfl⟩
 case rest=>
  obtain⟨rfl,rfl⟩:=hcut;go_wp2_with fail;go_loopg [5,6,7,8,9] nd (fun gg t5 t6 t7 _ _ wr=> ∃(j q:Nat) (z:Int),Hid (gg=nd-j∧j≤nd∧z=(nd:Int)-1-j∧q=L-j∧bz wr g (tH D M L j) nd dp neg (tr||Wn M L j)∧Below B w wr)∧t5= .int .i64 z∧t6= .int .i64 (q:Int)∧t7= .int .u64 (N j:Int))
  case atStart=>
   refine⟨0,L,(nd:Int)-1,aa ⟨rfl,dQ _,by simp,rfl,?_,bC.out⟩,?_,?_,by rw[HN.out.2.2.1];rfl⟩
   ·rw[UF];have e:Wn M L 0=false:=rfl;rw[e,qz];exact H2.out
   ·first|rfl|exact iM (by omega)
   ·first|rfl|exact iM (by omega)
  case round=>
   obtain⟨j,q,z,hI,rfl,rfl,rfl⟩:=hrel;by_cases hj:j<nd
   ·obtain⟨r,hr⟩: ∃r:Nat,r=nd-1-j:=⟨_,rfl⟩;have hz:z=(r:Int):=by have:=hI.out.2.2.1;omega
    subst hz;obtain⟨q1,Eo⟩: ∃q1,q=q1+1:=⟨q-1,by have:=hI.out.2.2.2.1;omega⟩;subst Eo;have hq:q1=L-(j+1):=by have:=hI.out.2.2.2.1;omega
    have hr8:r<800:=by omega
    have p0:((r:Int)<800)=True:=aA (by omega);have fP:=hI.out.2.2.2.2.1;have c0:=fP.gT r hr8;rw[UE (by omega)]at c0;have dz:=HN.out.1 j hj;rw[←hr]at dz;have Wx:=HD.out.1 r (by omega);have HX:=aa (And.intro dz (And.intro Wx (And.intro hr hq)));have AD:=aa fP;have hqb:q1<821:=by omega
    clear dz Wx hr hq fP;obtain⟨nn,qX⟩: ∃nn,nn=N j+(D r-48)*K:=⟨_,rfl⟩;have f1:IntKind.u64.wrap ((N j:Int)+IntKind.u64.wrap (IntKind.u64.wrap (IntKind.u64.wrap (D r:Int)-48)*2^k))=(nn:Int):=by
     rw[qX];exact acf HKK.out abn HX.out.1.2.2 HX.out.2.1.1 HX.out.2.1.2
    have yC:nn<18446744073709551616:=by
     have h9:(D r-48)*K≤9*K:=fi _ (by have:=HX.out.2.1.2;omega);have:=HX.out.1.2.2;omega
    obtain⟨Q,hQ⟩: ∃Q,Q=nn/10:=⟨_,rfl⟩;obtain⟨R,hR⟩: ∃R,R=nn%10:=⟨_,rfl⟩;have g1:(nn:Int)/10=(Q:Int):=by rw[hQ];simp
    have g2:IntKind.u64.wrap ((nn:Int)-IntKind.u64.wrap (10*(Q:Int)))=(R:Int):=by rw[hQ,hR];exact Ui yC
    have f2:IntKind.u64.wrap (Q:Int)=(Q:Int):=by rw[hQ];simp only[dc];omega
    have DJ:Q=N (j+1):=by rw[hQ,qX];exact HX.out.1.2.1
    have Ii:R=M/10^j%10:=by rw[hR,qX];exact HX.out.1.1
    have hR9:R≤9:=by omega
    have DL:=aa (And.intro DJ (And.intro Ii hR9));have f0:=AD.out.free 803;have t0:=AD.out.tr;clear qX yC hQ hR DJ Ii hR9;by_cases h8:q1<800
    ·have p3:((q1:Int)<800)=True:=aA (by omega);have fq:=AD.out.free q1;have dq:=AD.out.gT q1 h8;obtain⟨v0,F1⟩: ∃v0,v0=Value.int .u8 (tH D M L j q1:Int):=⟨_,rfl⟩;rw[←F1]at dq;clear F1;go_wp2_with fail;go_roundg (nd-(j+1))
     case measure=>have:=hI.out.1;omega
     case rel=>
      refine⟨j+1,q1,(r:Int)-1,aa ⟨rfl,by omega,by have:=HX.out.2.2.1;omega,HX.out.2.2.2,?_,hI.out.2.2.2.2.2.setCell (p:=⟨g,q1,none⟩) hB _⟩,rfl,rfl,by rw[←DL.out.1]⟩;have hq:=HX.out.2.2.2;have e1:=JG (D:=D) (M:=M) (L:=L) (j:=j) (by omega) (by omega);rw[←hq,←DL.out.2.1]at e1;rw[←e1,oJ,gA (by omega: ¬800≤L-1-j),rA,qz];exact AD.out.BJ h8 (w8 DL.out.2.2)
    ·have p3:((q1:Int)<800)=False:=bU (by omega);cases hz:decide (R=0)
     ·have bZ:R≠0:=tw hz;have e0:((R:Int) != 0)=true:=by rw[jA];omega
      have Ir:=aa bZ;clear hz bZ;go_wp2_with fail;go_roundg (nd-(j+1))
      case measure=>have:=hI.out.1;omega
      case rel=>
       refine⟨j+1,q1,(r:Int)-1,aa ⟨rfl,by omega,by have:=HX.out.2.2.1;omega,HX.out.2.2.2,?_,hI.out.2.2.2.2.2.setCell (p:=⟨g,803,none⟩) hB _⟩,rfl,rfl,by rw[←DL.out.1]⟩;have hq:=HX.out.2.2.2;rw[AJ (by omega),oJ,←DL.out.2.1,dR (by omega:800≤L-1-j),dR Ir.out,Bool.and_true,vW,vW];exact AD.out.OP true
     ·have he:R=0:=nT hz;have e0:((R:Int) != 0)=false:=by rw[he];rfl
      have HEQ:=aa he;clear hz he;go_wp2_with fail;go_roundg (nd-(j+1))
      case measure=>have:=hI.out.1;omega
      case rel=>
       refine⟨j+1,q1,(r:Int)-1,aa ⟨rfl,by omega,by have:=HX.out.2.2.1;omega,HX.out.2.2.2,?_,hI.out.2.2.2.2.2⟩,rfl,rfl,by rw[←DL.out.1]⟩;have hq:=HX.out.2.2.2;rw[AJ (by omega),oJ,←DL.out.2.1,gA (by rw[HEQ.out];simp: ¬R≠0),tQ,qz];exact AD.out
   ·have hjn:j=nd:=by have:=hI.out.2.1;omega
    have hz:z= -1:=by have:=hI.out.2.2.1;omega
    subst hz;have HJ:=aa hjn;clear hjn;have ZR:=aa hI.out;clear hI;go_wp2_with fail;go_loopg [6,7,10,11] (L-j) (fun gg t6 t7 _ _ wr=> ∃j q:Nat,Hid (gg=L-j∧nd≤j∧j≤L∧q=L-j∧bz wr g (tH D M L j) nd dp neg (tr||Wn M L j)∧Below B w wr)∧t6= .int .i64 (q:Int)∧t7= .int .u64 (N j:Int))
    case atStart=>exact⟨j,q,aa ⟨rfl,by have:=HJ.out;omega,by have:=HJ.out;omega,ZR.out.2.2.2.1,ZR.out.2.2.2.2.1,ZR.out.2.2.2.2.2⟩,rfl,rfl⟩
    case round=>
     obtain⟨j,q,hI,rfl,rfl⟩:=hrel;have LF:=HN.out.2.1 j hI.out.2.1;have fP:=hI.out.2.2.2.2.1;by_cases hjL:j<L
     ·have pE:0<N j:=by
       rw[LF];exact Nat.div_pos (bP (ek (by omega) (by omega)) HB.out.1) (fb (by omega))
      have p1:((0:Int)<(N j:Int))=True:=aA (by omega);obtain⟨q1,Eo⟩: ∃q1,q=q1+1:=⟨q-1,by have:=hI.out.2.2.2.1;omega⟩;subst Eo;have hq:q1=L-(j+1):=by have:=hI.out.2.2.2.1;omega
      have yC:N j<18446744073709551616:=by have:=HN.out.2.2.2 j;omega
      obtain⟨Q,hQ⟩: ∃Q,Q=N j/10:=⟨_,rfl⟩;obtain⟨R,hR⟩: ∃R,R=N j%10:=⟨_,rfl⟩;have g1:(N j:Int)/10=(Q:Int):=by rw[hQ];simp
      have g2:IntKind.u64.wrap ((N j:Int)-IntKind.u64.wrap (10*(Q:Int)))=(R:Int):=by rw[hQ,hR];exact Ui yC
      have f2:IntKind.u64.wrap (Q:Int)=(Q:Int):=by rw[hQ];simp only[dc];omega
      have DJ:Q=N (j+1):=by rw[hQ,LF,HN.out.2.1 (j+1) (by have:=hI.out.2.1;omega),Ev,←et]
      have Ii:R=M/10^j%10:=by rw[hR,LF]
      have hR9:R≤9:=by omega
      have DL:=aa (And.intro DJ (And.intro Ii (And.intro hR9 hq)));have AD:=aa fP;have f0:=fP.free 803;have t0:=fP.tr;have hqb:q1<821:=by omega
      clear yC hQ hR DJ Ii hR9 hq LF fP;by_cases h8:q1<800
      ·have p3:((q1:Int)<800)=True:=aA (by omega);have fq:=AD.out.free q1;have dq:=AD.out.gT q1 h8;obtain⟨v0,F1⟩: ∃v0,v0=Value.int .u8 (tH D M L j q1:Int):=⟨_,rfl⟩;rw[←F1]at dq;clear F1;go_wp2_with fail;go_roundg (L-(j+1))
       case measure=>have:=hI.out.1;omega
       case rel=>
        refine⟨j+1,q1,aa ⟨rfl,by have:=hI.out.2.1;omega,by omega,DL.out.2.2.2,?_,hI.out.2.2.2.2.2.setCell (p:=⟨g,q1,none⟩) hB _⟩,rfl,by rw[←DL.out.1]⟩;have hq:=DL.out.2.2.2;have e1:=JG (D:=D) (M:=M) (L:=L) (j:=j) (by omega) (by omega);rw[←hq,←DL.out.2.1]at e1;rw[←e1,oJ,gA (by omega: ¬800≤L-1-j),rA,qz];exact AD.out.BJ h8 (w8 DL.out.2.2.1)
      ·have p3:((q1:Int)<800)=False:=bU (by omega);cases hz:decide (R=0)
       ·have bZ:R≠0:=tw hz;have e0:((R:Int) != 0)=true:=by rw[jA];omega
        have Ir:=aa bZ;clear hz bZ;go_wp2_with fail;go_roundg (L-(j+1))
        case measure=>have:=hI.out.1;omega
        case rel=>
         refine⟨j+1,q1,aa ⟨rfl,by have:=hI.out.2.1;omega,by omega,DL.out.2.2.2,?_,hI.out.2.2.2.2.2.setCell (p:=⟨g,803,none⟩) hB _⟩,rfl,by rw[←DL.out.1]⟩;have hq:=DL.out.2.2.2;rw[AJ (by omega),oJ,←DL.out.2.1,dR (by omega:800≤L-1-j),dR Ir.out,Bool.and_true,vW,vW];exact AD.out.OP true
       ·have he:R=0:=nT hz;have e0:((R:Int) != 0)=false:=by rw[he];rfl
        have HEQ:=aa he;clear hz he;go_wp2_with fail;go_roundg (L-(j+1))
        case measure=>have:=hI.out.1;omega
        case rel=>
         refine⟨j+1,q1,aa ⟨rfl,by have:=hI.out.2.1;omega,by omega,DL.out.2.2.2,?_,hI.out.2.2.2.2.2⟩,rfl,by rw[←DL.out.1]⟩;have hq:=DL.out.2.2.2;rw[AJ (by omega),oJ,←DL.out.2.1,gA (by rw[HEQ.out];simp: ¬R≠0),tQ,qz];exact AD.out
     ·have abo:j=L:=by have:=hI.out.2.2.1;omega
      have lB:N j=0:=by rw[LF,abo];exact tO HB.out.2.1
      have p1:((0:Int)<(N j:Int))=False:=bU (by omega);have p1n: ¬0<N j:=by omega
      rw[abo]at fP;have AD:=aa fP;have HBE:=aa hI.out.2.2.2.2.2;have d1:=fP.nd;have d2:=fP.dp;have f1:=fP.free 800;have f2:=fP.free 801;have eF:pI D nd k=tH D M L L:=by rw[pI,←HL.out,←HM.out]
      have eT:XM D nd k tr=(tr||Wn M L L):=by rw[XM,←HL.out,←HM.out]
      have eN:xJ D nd k=eB (tH D M L L) (min L 800):=by rw[xJ,eF,←HL.out]
      have eP:Qg D nd k dp=pP (tH D M L L) (min L 800) (dp+((L:Int)-nd)):=by rw[Qg,eF,←HL.out]
      have HE:=aa (And.intro eF (And.intro eT (And.intro eN eP)));clear eF eT eN eP fP LF lB abo hI;by_cases h8:800≤L
      ·have p8:((800:Int)≤(L:Int))=True:=aA (by omega);go_wp2_with fail;refine(Ci _ B g (tH D M L L) 800 (dp+((L:Int)-nd)) neg (tr||Wn M L L) (((AD.out.Bw (n:=L) (by omega)).Bw (n:=800) rfl).EN _) (by omega) hB).mono ?_;rintro e w9 ⟨rfl,F2,P9⟩;have HB9:=aa ((((HBE.out.setCell (p:=⟨g,800,none⟩) hB _).setCell (p:=⟨g,800,none⟩) hB _).setCell (p:=⟨g,801,none⟩) hB _).trans P9);have HDF:=aa F2;clear F2 P9;go_wp2_with fail;go_end0;have LU:min L 800=800:=qw h8;rw[HE.out.1,HE.out.2.1,HE.out.2.2.1,HE.out.2.2.2,LU];exact⟨rfl,HDF.out,HB9.out⟩
      ·have p8:((800:Int)≤(L:Int))=False:=bU (by omega);go_wp2_with fail;refine(Ci _ B g (tH D M L L) L (dp+((L:Int)-nd)) neg (tr||Wn M L L) ((AD.out.Bw (n:=L) (by omega)).EN _) (by omega) hB).mono ?_;rintro e w9 ⟨rfl,F2,P9⟩;have HB9:=aa (((HBE.out.setCell (p:=⟨g,800,none⟩) hB _).setCell (p:=⟨g,801,none⟩) hB _).trans P9);have HDF:=aa F2;clear F2 P9;go_wp2_with fail;go_end0;have LU:min L 800=L:=mW (by omega);rw[HE.out.1,HE.out.2.1,HE.out.2.2.1,HE.out.2.2.2,LU];exact⟨rfl,HDF.out,HB9.out⟩
def eQ (w:World) (g:Nat) (S:cS) (neg:Bool):Prop:=bz w g S.D S.nd S.dp neg S.tr
theorem Uj (w:World) (B g C:Nat) (S:cS) (neg:Bool) (k:Nat) (h:eQ w g S neg) (hc:kH w C) (cJ:S.Ok) (mU:1≤k) (hk:k≤60) (uA: -1000000000000≤S.dp∧S.dp≤1000000000000) (hB:B≤g):
  Calls prog 237 #[.pointer (some ⟨g,0,none⟩),.int .u64 (k:Int)] w fun e w'=>e= .returned (.tuple #[])∧eQ w' g (S.ls k) neg∧Below B w w':=
 El w B g C S.D S.nd k S.dp neg S.tr h hc cJ.gT cJ.pos cJ.le mU hk uA hB
theorem Uk (w:World) (B g:Nat) (S:cS) (neg:Bool) (k:Nat) (h:eQ w g S neg) (cJ:S.Ok) (mU:1≤k) (hk:k≤60) (uA: -1000000000000≤S.dp∧S.dp≤1000000000000) (hB:B≤g):
  Calls prog 238 #[.pointer (some ⟨g,0,none⟩),.int .u64 (k:Int)] w fun e w'=>e= .returned (.tuple #[])∧eQ w' g (S.rs k) neg∧Below B w w':=
 DB w B g S.D S.nd k S.dp neg S.tr h cJ.gT cJ.pos cJ.le mU hk uA hB
theorem π (h:S.Ok) {k:Nat} (h1:1≤k) (h2:k≤60):S.dp≤(S.ls k).dp∧(S.ls k).dp≤S.dp+20:=by
 rw[(cS.yX h h1 h2).2.1];have:=j8 h.gT h.pos h1 h2;omega
theorem OS (h:S.Ok) {k:Nat} (h1:1≤k) (h2:k≤60):S.dp-20≤(S.rs k).dp∧(S.rs k).dp≤S.dp:=by
 rw[(cS.we h h1 h2).2.1];have:=oK h.gT h.pos h2;omega
theorem vf (w:World) (B g C:Nat) (S:cS) (neg:Bool) (k:Nat) (h:eQ w g S neg) (hc:kH w C) (cJ:S.Ok) (mU:1≤k) (hk:k≤100000000) (uA: -10000000000≤S.dp∧S.dp≤10000000000) (hB:B≤g) (hC:C<B) (hG:11<B):
  Calls prog 232 #[.pointer (some ⟨g,0,none⟩),.int .i64 (k:Int)] w fun e w'=>e= .returned (.tuple #[])∧eQ w' g (cS.Xc k S) neg∧Below B w w':=by
 have hp:=cJ.pos;obtain⟨n1,AR⟩: ∃n1,S.nd=n1+1:=⟨S.nd-1,by omega⟩;have d0:w.cell? ⟨g,800,none⟩=some (.int .i64 ((n1:Int)+1)):=by rw[h.nd,AR];rfl
 have q0:((n1:Int)+1=0)=False:=bU (by omega);have q1:((0:Int)<(k:Int))=True:=aA (by omega);have q1n:0<k:=mU;obtain⟨T,hT⟩: ∃T,T=cS.Xc k S:=⟨_,rfl⟩;rw[←hT];have H:=aa h;have HC:=aa hc;have FW:=aa cJ;have S4:=aa uA;have HT:=aa hT;clear h hc cJ uA hT AR hp;go_enter func232,ntmps232;go_wp2_with fail;go_loopg [1] k (fun gg t1 wr=> ∃(kk:Nat) (S2:cS),Hid (gg=kk∧1≤kk∧kk≤k∧S2.Ok∧eQ wr g S2 neg∧Below B w wr∧cS.Xc kk S2=T∧ -20000000000+20*(kk:Int)≤S2.dp∧S2.dp+20*(kk:Int)≤20000000000)∧t1= .int .i64 (kk:Int))
 case atStart=>exact⟨k,S,aa ⟨rfl,mU,aS _,FW,H,aV _ _,HT.symm,by have:=S4.out;omega,by have:=S4.out;omega⟩,rfl⟩
 case round=>
  obtain⟨kk,S2,hI,rfl⟩:=hrel;by_cases hb:60<kk
  ·have p1:((60:Int)<(kk:Int))=True:=aA (by omega);go_wp2_with fail;refine(Uj _ B g C S2 neg 60 hI.2.2.2.2.1 (HC.below hI.2.2.2.2.2.1 hG hC) hI.2.2.2.1 (by omega) (by omega) (by have:=hI.2.2.2.2.2.2.2;omega) hB).mono ?_;rintro e w3 ⟨rfl,sL,bW⟩;have h3:=π hI.2.2.2.1 (k:=60) (by omega) (by omega);have HX:=aa (And.intro sL (And.intro (hI.2.2.2.2.2.1.trans bW) h3));obtain⟨k2,zU⟩: ∃k2,k2=kk-60:=⟨_,rfl⟩;have Qp:wrap64 ((kk:Int)-60)=(k2:Int):=by simp only[wrap64];have:=hI.2.2.1;omega
   have Ol:=aa zU;clear sL bW h3 zU;go_wp2_with fail;go_roundg k2
   case measure=>have:=hI.1;have:=Ol.out;omega
   case rel=>
    have zU:=Ol.out;have uA:=hI.2.2.2.2.2.2.2;have h3:=HX.2.2;refine⟨k2,S2.ls 60,aa ⟨rfl,by omega,by have:=hI.2.2.1;omega,(cS.yX hI.2.2.2.1 (by omega) (by omega)).1,HX.1,HX.2.1,?_,by omega,by omega⟩,?_⟩
    ·rw[zU,←cS.UG hb];exact hI.2.2.2.2.2.2.1
    ·first|rfl|exact iM (by omega)
  ·have p1:((60:Int)<(kk:Int))=False:=bU (by omega);go_wp2_with fail;refine(Uj _ B g C S2 neg kk hI.2.2.2.2.1 (HC.below hI.2.2.2.2.2.1 hG hC) hI.2.2.2.1 hI.2.1 (by omega) (by have:=hI.2.2.2.2.2.2.2;omega) hB).mono ?_;rintro e w3 ⟨rfl,sL,bW⟩;have kK:T=S2.ls kk:=by rw[←hI.out.2.2.2.2.2.2.1,cS.wJ (by omega)]
   have HX:=aa (And.intro sL (And.intro (hI.2.2.2.2.2.1.trans bW) kK));clear sL bW kK;go_wp2_with fail;go_end0;rw[HX.out.2.2];exact⟨rfl,HX.1,HX.2.1⟩
theorem V3 (h:k≤100000000):IntKind.u64.wrap (wrap64 (- -(k:Int)))=(k:Int):=by
 simp only[dc,wrap64];omega
theorem vg (w:World) (B g:Nat) (S:cS) (neg:Bool) (k:Nat) (z:Int) (hz:z= -(k:Int)) (h:eQ w g S neg) (cJ:S.Ok) (mU:1≤k) (hk:k≤100000000) (uA: -10000000000≤S.dp∧S.dp≤10000000000) (hB:B≤g):
  Calls prog 232 #[.pointer (some ⟨g,0,none⟩),.int .i64 z] w fun e w'=>e= .returned (.tuple #[])∧eQ w' g (cS.LK k S) neg∧Below B w w':=by
 have hp:=cJ.pos;obtain⟨n1,AR⟩: ∃n1,S.nd=n1+1:=⟨S.nd-1,by omega⟩;have d0:w.cell? ⟨g,800,none⟩=some (.int .i64 ((n1:Int)+1)):=by rw[h.nd,AR];rfl
 have q0:((n1:Int)+1=0)=False:=bU (by omega);have q1:((0:Int)<z)=False:=bU (by omega);have q2:(z<0)=True:=aA (by omega);obtain⟨T,hT⟩: ∃T,T=cS.LK k S:=⟨_,rfl⟩;rw[←hT];have H:=aa h;have FW:=aa cJ;have S4:=aa uA;have HT:=aa hT;have HZ:=aa hz;clear h cJ uA hT AR hp hz;go_enter func232,ntmps232;go_wp2_with fail;go_loopg [1] k (fun gg t1 wr=> ∃(kk:Nat) (z:Int) (S2:cS),Hid (gg=kk∧1≤kk∧kk≤k∧S2.Ok∧eQ wr g S2 neg∧Below B w wr∧cS.LK kk S2=T∧ -20000000000+20*(kk:Int)≤S2.dp∧S2.dp+20*(kk:Int)≤20000000000∧z= -(kk:Int))∧t1= .int .i64 z)
 case atStart=>exact⟨k,z,S,aa ⟨rfl,mU,aS _,FW,H,aV _ _,HT.symm,by have:=S4.out;omega,by have:=S4.out;omega,HZ⟩,rfl⟩
 case round=>
  obtain⟨kk,z,S2,hI,rfl⟩:=hrel;have hz:=hI.2.2.2.2.2.2.2.2.2;have hkk:=hI.2.2.1;by_cases hb:60<kk
  ·have p1:(z< -60)=True:=aA (by omega);have Qp:wrap64 (z+60)= -((kk-60:Nat):Int):=by simp only[wrap64];omega
   have HS:=aa Qp;have ZC: -100000000≤z∧z<0:=by have:=hI.2.1;omega
   have HZZ:=aa hz;clear hz Qp;go_wp2_with fail;refine(Uk _ B g S2 neg 60 hI.2.2.2.2.1 hI.2.2.2.1 (by omega) (by omega) (by have:=hI.2.2.2.2.2.2.2;omega) hB).mono ?_;rintro e w3 ⟨rfl,sL,bW⟩;have h3:=OS hI.2.2.2.1 (k:=60) (by omega) (by omega);have HX:=aa (And.intro sL (And.intro (hI.2.2.2.2.2.1.trans bW) h3));clear sL bW h3;go_wp2_with fail;go_roundg (kk-60)
   case measure=>have:=hI.1;omega
   case rel=>
    have uA:=hI.2.2.2.2.2.2.2;have h3:=HX.2.2;refine⟨kk-60,z+60,S2.rs 60,aa ⟨rfl,by omega,by omega,(cS.we hI.2.2.2.1 (by omega) (by omega)).1,HX.1,HX.2.1,?_,by omega,by omega,by have:=HZZ.out;omega⟩,?_⟩
    ·rw[←cS.JH hb];exact hI.2.2.2.2.2.2.1
    ·first|rfl|exact iM (by rw[HS.out];have:=HZZ.out;omega)
  ·have p1:(z< -60)=False:=bU (by omega);have Xy:IntKind.u64.wrap (wrap64 (-z))=(kk:Int):=by rw[hz];exact V3 (by omega)
   have as5:IntKind.u64.wrap (-z)=(kk:Int):=by simp only[dc];omega
   have ZC: -60≤z∧z<0:=by have:=hI.2.1;omega
   have HZZ:=aa hz;clear hz;go_wp2_with fail;refine(Uk _ B g S2 neg kk hI.2.2.2.2.1 hI.2.2.2.1 hI.2.1 (by omega) (by have:=hI.2.2.2.2.2.2.2;omega) hB).mono ?_;rintro e w3 ⟨rfl,sL,bW⟩;have kK:T=S2.rs kk:=by rw[←hI.out.2.2.2.2.2.2.1,cS.wK (by omega)]
   have HX:=aa (And.intro sL (And.intro (hI.2.2.2.2.2.1.trans bW) kK));clear sL bW kK;go_wp2_with fail;go_end0;rw[HX.out.2.2];exact⟨rfl,HX.1,HX.2.1⟩
theorem Za (h1:48≤d) (h2:d≤57):(((d:Int)-48)%2 != 0)=decide ((d-48)%2≠0):=by
 rw[eH,jA,zY];omega
theorem acg:decide ((53:Int)≤(d:Int))=decide (53≤d):=by
 rw[eH,zY,zY];omega
theorem Ll (w:World) (g:Nat) (S:cS) (neg:Bool) (n:Int) (h:eQ w g S neg) (hn:n<0∨(S.nd:Int)≤n):
  Calls prog 239 #[.pointer (some ⟨g,0,none⟩),.int .i64 n] w fun e w'=>e= .returned (.bool false)∧w'=w:=by
 have d0:=h.nd;have H:=aa h;clear h;rcases Int.lt_or_le n 0 with h0|h0
 ·have p0:(n<0)=True:=aA h0;go_enter func239,ntmps239;go_wp2_with fail;go_ret;exact⟨rfl,rfl⟩
 ·have p0:(n<0)=False:=bU (by omega);have p1:((S.nd:Int)≤n)=True:=aA (by omega);go_enter func239,ntmps239;go_wp2_with fail;go_ret;exact⟨rfl,rfl⟩
theorem NY (w:World) (g:Nat) (S:cS) (neg:Bool) (i:Nat) (h:eQ w g S neg) (cJ:S.Ok) (hi:i<S.nd):
  Calls prog 239 #[.pointer (some ⟨g,0,none⟩),.int .i64 (i:Int)] w fun e w'=>e= .returned (.bool (Bs S i))∧w'=w:=by
 obtain⟨T,hT⟩: ∃T,T=Bs S i:=⟨_,rfl⟩;rw[←hT];have hle:=cJ.le;have d0:=h.nd;have t0:=h.tr;have di:=h.gT i (by omega);have uy:=cJ.gT.1 i hi;have p0:((i:Int)<0)=False:=bU (by omega);have p1:((S.nd:Int)≤(i:Int))=False:=bU (by omega);have p2:((i:Int)<800)=True:=aA (by omega);by_cases Im:S.D i=53
 ·have e53:((S.D i:Int)==53)=true:=by rw[Im];rfl
  by_cases hl:i+1=S.nd
  ·have e1:((i:Int)+1==(S.nd:Int))=true:=by rw[cC];omega
   have xy:T=(S.tr||EJ S.D i):=by rw[hT,Bs,au ⟨Im,hl⟩]
   cases Ih:S.tr
   ·rw[Ih]at t0 xy;have hT3:T=EJ S.D i:=by rw[xy,Bool.false_or]
    cases i with
    |zero=>
     have HX:=aa (show T=false by rw[hT3];rfl);have HH:=aa (And.intro Im hl);clear xy hT hT3 h cJ Im hl uy;go_enter func239,ntmps239;go_wp2_with fail;go_ret;exact⟨ah HX.out.symm,rfl⟩
    |succ q=>
     have dq:=h.gT q (by omega);have hdq:=cJ.gT.1 q (by omega);have ho:=Za hdq.1 hdq.2;have HX:=aa (show T=decide ((S.D q-48)%2≠0)by rw[hT3,EJ,dR (by omega),mC,Nat.add_sub_cancel]);have HH:=aa (And.intro Im hl);have HO:=aa ho;clear xy hT hT3 h cJ Im hl uy hdq;go_enter func239,ntmps239;go_wp2_with fail;go_ret;exact⟨ah (by rw[HX.out,eH,zY,zY];omega),rfl⟩
   ·rw[Ih]at t0 xy;have HX:=aa (show T=true by rw[xy,Bool.true_or]);have HH:=aa (And.intro Im hl);clear xy hT h cJ Im hl uy;go_enter func239,ntmps239;go_wp2_with fail;go_ret;exact⟨by rw[HX.out];rfl,rfl⟩
  ·have e1:((i:Int)+1==(S.nd:Int))=false:=by rw[bN];omega
   have HX:=aa (show T=true by rw[hT,Bs,af (fun h=>hl h.2)];exact dR (by omega));have p5:((53:Int)≤(S.D i:Int))=True:=aA (by omega);have HH:=aa (And.intro Im hl);clear hT h cJ Im hl uy;go_enter func239,ntmps239;go_wp2_with fail;go_ret;exact⟨ah HX.out.symm,rfl⟩
 ·have e53:((S.D i:Int)==53)=false:=by rw[bN];omega
  have HX:=aa (show T=decide (53≤S.D i)by rw[hT,Bs,af (fun h=>Im h.1)]);have HH:=aa Im;clear hT h cJ Im uy;go_enter func239,ntmps239;go_wp2_with fail;go_ret;exact⟨ah (by rw[HX.out];exact acg),rfl⟩
theorem Zb (w:World) (g:Nat) (S:cS) (neg:Bool) (n:Int) (h:eQ w g S neg) (cJ:S.Ok):
  Calls prog 239 #[.pointer (some ⟨g,0,none⟩),.int .i64 n] w fun e w'=>e= .returned (.bool (Xe S n))∧w'=w:=by
 by_cases hn:n<0∨(S.nd:Int)≤n
 ·rw[Xe,au hn];exact Ll w g S neg n h hn
 ·rw[Xe,af hn];obtain⟨i,rfl⟩: ∃i:Nat,n=(i:Int):=⟨n.toNat,by omega⟩;exact NY w g S neg i h cJ (by omega)
theorem Zc {a:Nat} :(a%M*10+d)%M=(a*10+d)%M:=by
 rw[Nat.add_mod,Nat.mod_mul_mod,←Nat.add_mod]
theorem ach (h1:48≤d) (h2:d≤57):IntKind.u64.wrap (IntKind.u64.wrap ((n:Int)*10)+((d:Int)-48))=(((n*10+(d-48))%18446744073709551616:Nat):Int):=by
 simp only[dc];omega
theorem aci (w:World) (g:Nat) (S:cS) (neg:Bool) (h:eQ w g S neg) (cJ:S.Ok):
  Calls prog 233 #[.pointer (some ⟨g,0,none⟩)] w fun e w'=>e= .returned (.int .u64 (FU S:Int))∧w'=w:=by
 obtain⟨T,hT⟩: ∃T,T=FU S:=⟨_,rfl⟩;rw[←hT];have d0:=h.nd;have d1:=h.dp;have H:=aa h;have FW:=aa cJ;have hle:=cJ.le;by_cases h20:20<S.dp
 ·have p0:((20:Int)<S.dp)=True:=aA h20;have HT:=aa (show T=18446744073709551615 by rw[hT,FU,au h20]);clear hT h cJ;go_enter func233,ntmps233;go_wp2_with fail;go_ret;exact⟨aH (by rw[HT.out];rfl),rfl⟩
 ·have p0:((20:Int)<S.dp)=False:=bU h20;obtain⟨X,hX⟩: ∃X,X=S.dp.toNat:=⟨_,rfl⟩;have HT:=aa (show T=if Xe S S.dp=true then(lR S X+1)%18446744073709551616 else lR S X by rw[hT,FU,af h20,hX]);have as6:X≤20:=by omega
  have dz: ∀i,(lR S i*10+sH S.D S.nd i)%18446744073709551616=lR S (i+1):=fun i=>by rw[lR,Zc];rfl
  have xw:=aa dz;have HX:=aa hX;clear hT h cJ dz hX;go_enter func233,ntmps233;go_upto_block 0 with fail
  go_cut [3,4]from 10 to 36 (fun t3 t4 wx=> ∃i:Nat,Hid (i≤X∧(i=X∨S.nd≤i))∧t3= .int .i64 (i:Int)∧t4= .int .u64 (lR S i:Int)∧wx=w)
  case first=>
   go_wp2_with fail;go_loopg [3,4] 30 (fun gg t3 t4 wr=> ∃i:Nat,Hid (gg=30-i∧i≤X∧wr=w)∧t3= .int .i64 (i:Int)∧t4= .int .u64 (lR S i:Int))
   case atStart=>exact⟨0,aa ⟨rfl,dQ _,rfl⟩,rfl,rfl⟩
   case round=>
    obtain⟨i,hI,rfl,rfl⟩:=hrel;obtain rfl:wr=w:=hI.out.2.2;have hs:=xw.out i;by_cases h1:(i:Int)<S.dp
    ·have p1:((i:Int)<S.dp)=True:=aA h1;by_cases h2:i<S.nd
     ·have p2:((i:Int)<(S.nd:Int))=True:=aA (by omega);have p3:((i:Int)<800)=True:=aA (by omega);have di:=H.out.gT i (by omega);have uy:=FW.out.gT.1 i h2;rw[sH,au h2]at hs;have HS:=aa hs;have HDI:=aa uy;have hiX:i+1≤X:=by have:=HX.out;omega
      clear hs;go_wp2_with fail;go_roundg (30-(i+1))
      case measure=>have:=hI.out.1;omega
      case rel=>exact⟨i+1,aa ⟨rfl,hiX,rfl⟩,rfl,by rw[←HS.out];exact iM (ach HDI.out.1 HDI.out.2)⟩
     ·have p2:((i:Int)<(S.nd:Int))=False:=bU (by omega);go_wp2_with fail;go_meet;exact⟨i,aa ⟨hI.out.2.1,.inr (by omega)⟩,rfl,rfl,rfl⟩
    ·have p1:((i:Int)<S.dp)=False:=bU h1;go_wp2_with fail;go_meet;exact⟨i,aa ⟨hI.out.2.1,.inl (by have:=HX.out;have:=hI.out.2.1;omega)⟩,rfl,rfl,rfl⟩
  case rest=>
   obtain⟨i0,tE,rfl,rfl,rfl⟩:=hcut;go_wp2_with fail;go_loopg [3,4] (30-i0) (fun gg t3 t4 wr=> ∃i:Nat,Hid (gg=30-i∧i≤X∧(i=X∨S.nd≤i)∧wr=wc)∧t3= .int .i64 (i:Int)∧t4= .int .u64 (lR S i:Int))
   case atStart=>exact⟨i0,aa ⟨rfl,tE.out.1,tE.out.2,rfl⟩,rfl,rfl⟩
   case round=>
    obtain⟨i,hI,rfl,rfl⟩:=hrel;obtain rfl:wr=wc:=hI.out.2.2.2;have hs:=xw.out i;by_cases h1:(i:Int)<S.dp
    ·have p1:((i:Int)<S.dp)=True:=aA h1;have hiX:i+1≤X:=by have:=HX.out;omega
     have rb:S.nd≤i:=by have:=hI.out.2.2.1;omega
     rw[sH,af (by omega)]at hs;have HS:=aa hs;clear hs;go_wp2_with fail;go_roundg (30-(i+1))
     case measure=>have:=hI.out.1;omega
     case rel=>exact⟨i+1,aa ⟨rfl,hiX,.inr (by omega),rfl⟩,rfl,by rw[←HS.out];exact iM (by simp only[dc];omega)⟩
    ·have p1:((i:Int)<S.dp)=False:=bU h1;have hiX:i=X:=by have:=HX.out;have:=hI.out.2.1;omega
     subst hiX;go_wp2_with fail;refine(Zb _ g S neg S.dp H.out FW.out).mono ?_;rintro e w2 ⟨rfl,rfl⟩;cases hb:Xe S S.dp
     ·have HB:=aa (show T=lR S i by rw[HT.out,hb,af (by simp)]);go_wp2_with fail;go_ret;exact⟨aH (by rw[HB.out]),rfl⟩
     ·have HB:=aa (show T=(lR S i+1)%18446744073709551616 by rw[HT.out,hb,au rfl]);go_wp2_with fail;go_ret;exact⟨aH (by rw[HB.out];simp only[dc];omega),rfl⟩
