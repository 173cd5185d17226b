import Derived.Test.YtibcjfjacielbaaGreatDoorP12
import Derived.Deep.CutBlock
import Derived.Deep.LoopGhost
/- Part of the proof of YtibcjfjacielbaaGreatDoorCardP: DecB DecC DecD DecE DecF. -/
set_option maxRecDepth 100000
set_option maxHeartbeats 4000000
set_option linter.unusedVariables false
set_option linter.unusedSimpArgs false
namespace Go.Proofs.YtibcjfjacielbaaGreatDoor
open Go.RowKit
theorem vint {k:IntKind} {a b:Int} (h:a=b):Value.int k a=Value.int k b:=by rw[h]
theorem pre_small {D:Nat→Nat} {nd k r:Nat} (h:DigOk D nd) (hn:0<nd) (hk:k≤60) (hlt:pre D nd r<2^k):r≤20∧pre D nd r<1152921504606846976:=by
 have h60:(2:Nat)^k≤2^60:=Nat.pow_le_pow_right (by omega) hk;refine⟨?_,by omega⟩;rcases Nat.lt_or_ge r 21 with h1|h1
 ·omega
 ·exfalso;obtain⟨q,rfl⟩: ∃q,r=q+1:=⟨r-1,by omega⟩;have h2:=pre_pos h hn q;have h3:(10:Nat)^20≤10^q:=Nat.pow_le_pow_right (by omega) (by omega);omega
theorem div_zero_iff {n K:Nat} (hK:0<K):(((n/K:Nat):Int)==0)= !decide (K≤n):=by
 by_cases h:K≤n
 ·have:1≤n/K:=(Nat.one_le_div_iff hK).2 h;rw[decide_eq_true h,beq_eq_false_iff_ne.2 (by omega)];rfl
 ·rw[Nat.div_eq_of_lt (by omega),decide_eq_false h];rfl
theorem acc_val {n d:Nat} (hn:n<1152921504606846976) (h1:48≤d) (h2:d≤57):IntKind.u64.wrap (IntKind.u64.wrap ((n:Int)*10+IntKind.u64.wrap (d:Int))-48)=((n*10+(d-48):Nat):Int):=by
 simp only[IntKind.wrap_u64];omega
theorem mul10_val {n:Nat} (hn:n<1152921504606846976):IntKind.u64.wrap ((n:Int)*10)=((n*10:Nat):Int):=by
 simp only[IntKind.wrap_u64];omega
theorem meas_i64 {F r:Nat} (h:r<F):F-(intOf (.int .i64 ((r:Int)+1))).toNat<F-(intOf (.int .i64 (r:Int))).toNat:=by
 have h1:(intOf (.int .i64 ((r:Int)+1))).toNat=r+1:=rfl;have h2:(intOf (.int .i64 (r:Int))).toNat=r:=rfl;rw[h1,h2];exact Nat.sub_lt_sub_left h (Nat.lt_succ_self r)
theorem mask_val {K:Nat} (h0:0<K) (h:K≤1152921504606846976):IntKind.u64.wrap (IntKind.u64.wrap (K:Int)-1)=((K-1:Nat):Int):=by
 simp only[IntKind.wrap_u64];omega
theorem byte_val {d:Nat} (h:d≤9):IntKind.u64.wrap ((d:Int)+48)%256=((48+d:Nat):Int):=by
 simp only[IntKind.wrap_u64];omega
theorem acc_val2 {n K d:Nat} (hn:n%K<1152921504606846976) (h1:48≤d) (h2:d≤57):IntKind.u64.wrap (IntKind.u64.wrap (IntKind.u64.wrap ((n:Int)%(K:Int)*10)+IntKind.u64.wrap (d:Int))-48)=((n%K*10+(d-48):Nat):Int):=by
 have e:(n:Int)%(K:Int)=((n%K:Nat):Int):=by simp
 rw[e];generalize n%K=m at hn ⊢
 simp only[IntKind.wrap_u64];omega
theorem mul10_val2 {n K:Nat} (hn:n%K<1152921504606846976):IntKind.u64.wrap ((n:Int)%(K:Int)*10)=((n%K*10:Nat):Int):=by
 have e:(n:Int)%(K:Int)=((n%K:Nat):Int):=by simp
 rw[e];generalize n%K=m at hn ⊢
 simp only[IntKind.wrap_u64];omega
theorem shr_zero {n K k:Nat} (hK:K=2^k) (h0:0<K):(((n:Nat):Int)/2^k==0)= !decide (K≤n):=by
 rw[←div_zero_iff h0,hK];simp
theorem dec_rightShift (w:World) (B g:Nat) (D:Nat→Nat) (nd k:Nat) (dp:Int) (neg tr:Bool) (h:DecAt w g D nd dp neg tr) (hd:DigOk D nd) (hn:0<nd) (hnd:nd≤800) (hk1:1≤k) (hk:k≤60) (hdp: -1000000000000≤dp∧dp≤1000000000000) (hB:B≤g):
  Calls Tryz.prog 332 #[.pointer (some ⟨g,0,none⟩),.int .u64 (k:Int)] w fun e w'=>e= .returned (.tuple #[])∧DecAt w' g (rsDF D nd k) (rsNd D nd k) (rsDp D nd k dp) neg (rsTr D nd k tr)∧Below B w w':=by
 have H:=Lib.hid h;have HD:=Lib.hid hd;obtain⟨K,hKK⟩: ∃K,K=2^k:=⟨_,rfl⟩;have hK0:0<K:=by rw[hKK];exact Nat.pow_pos (by omega)
 have HK:=Lib.hid hKK;have hK60:K≤1152921504606846976:=by rw[hKK];exact Nat.pow_le_pow_right (by omega) hk
 have hkm:((2:Int)^min k 64)=(K:Int):=by rw[Nat.min_eq_left (by omega),hKK];simp
 have hbig: ∀r,rsBig D nd k r=decide (K≤pre D nd r):=fun r=>by rw[rsBig,hKK]
 obtain⟨R0,hR0⟩: ∃R,R=rsR D nd k:=⟨_,rfl⟩;obtain⟨P,hP⟩: ∃P:Nat→Nat,P=pre D nd:=⟨_,rfl⟩;have hPs: ∀r,P (r+1)=P r*10+dgt D nd r:=fun r=>by rw[hP];rfl
 have hP0:P 0=0:=by rw[hP];rfl
 have hsm: ∀r,P r<K→r≤20∧P r<1152921504606846976:=fun r hr=>by rw[hP]at hr ⊢;exact pre_small hd hn hk (by rw[←hKK];exact hr)
 have hpos: ∀r,0<r→P r≠0:=fun r hr=>by
  obtain⟨q,rfl⟩: ∃q,r=q+1:=⟨r-1,by omega⟩;have:=pre_pos hd hn q;rw[hP];have h1:0<10^q:=Nat.pow_pos (by omega);omega
 have HPS:=Lib.hid hPs;have HP0:=Lib.hid hP0;have HSM:=Lib.hid hsm;have HPOS:=Lib.hid hpos;have HBIG:=Lib.hid hbig;have HR0:=Lib.hid hR0;have HP:=Lib.hid hP;clear h hd hKK hR0 hP hPs hP0 hsm hpos hbig;go_enter Tryz.func332,Tryz.ntmps332;go_upto_block 0 with fail
 go_cut [4,6,7]from 12 to 48 (fun t4 t6 t7 wx=>t4= .int .i64 (R0:Int)∧t6= .int .u64 (P R0:Int)∧Hid (K≤P R0∧P R0<10*K∧1≤R0∧R0≤21)∧wx=w)
 case first=>
  go_wp2_with fail;go_loopw [4,6,7] (fun t4 t6 t7 wr=> ∃r:Nat,Hid (srch (rsBig D nd k) (1000-r) r=R0∧r≤21∧P r<10*K∧(r=0→True))∧t4= .int .i64 (r:Int)∧t6= .int .u64 (P r:Int)∧wr=w) (fun t4 _ _ _=>1000-(intOf t4).toNat)
  case atStart=>exact⟨0,Lib.hid ⟨by rw[HR0.out];rfl,by omega,by rw[HP0.out];omega,fun _=>trivial⟩,rfl,by rw[HP0.out];rfl,rfl⟩
  case round=>
   obtain⟨r,hI,rfl,rfl,rfl⟩:=hrel;have hz:=shr_zero (n:=P r) HK.out hK0;have d0:=H.out.nd;by_cases hge:K≤P r
   ·rw[decide_eq_true hge]at hz;have HZ:=Lib.hid (show R0=r by
     rw[←hI.out.1];exact srch_hit (by have:=hI.out.2.1;omega) (by rw[HBIG.out,←HP.out];exact decide_eq_true hge))
    go_wp2_with fail;go_meet;rw[HZ.out];exact⟨rfl,rfl,Lib.hid ⟨hge,hI.out.2.2.1,by
     rcases Nat.eq_zero_or_pos r with h|h
     ·rw[h,HP0.out]at hge;omega
     ·exact h,hI.out.2.1⟩,rfl⟩
   ·rw[decide_eq_false hge]at hz;have hsm:=HSM.out r (by omega);have HSR:=Lib.hid (show srch (rsBig D nd k) (1000-(r+1)) (r+1)=R0 by
     rw[←hI.out.1];exact(srch_miss (by omega) (by rw[HBIG.out,←HP.out];exact decide_eq_false hge)).symm)
    have hd9:=dgt_le HD.out r;have hps:=HPS.out r;by_cases hrn:r<nd
    ·have p1:((nd:Int)≤(r:Int))=False:=eq_false (by omega);have p2:((r:Int)<800)=True:=eq_true (by omega);have dr:=H.out.dig r (by omega);have hdr:=HD.out.1 r hrn;have hdg:dgt D nd r=D r-48:=by rw[dgt,if_pos hrn]
     have HX:=Lib.hid (And.intro hps (And.intro hdg (And.intro hdr hsm)));clear hps hdg hdr hsm hd9;go_wp2_with fail;go_roundw
     case rel=>
      refine⟨r+1,Lib.hid ⟨HSR.out,by have:=HX.out.2.2.2.1;omega,?_,fun _=>trivial⟩,rfl,?_,by first|rfl|trivial⟩
      ·rw[HX.out.1,HX.out.2.1];have:=HX.out.2.2.1;omega
      ·rw[HX.out.1,HX.out.2.1];exact vint (acc_val HX.out.2.2.2.2 HX.out.2.2.1.1 HX.out.2.2.1.2)
     case measure=>exact meas_i64 (by omega)
    ·have p1:((nd:Int)≤(r:Int))=True:=eq_true (by omega);have hne:(((P r:Nat):Int)==0)=false:=beq_eq_false_iff_ne.2 (by have:=HPOS.out r (by omega);omega);have HX:=Lib.hid hsm;clear hps hd9 hsm;go_wp2_with fail;go_loopw [4,6] (fun t4 t6 wr2=> ∃r:Nat,Hid (srch (rsBig D nd k) (1000-r) r=R0∧r≤21∧P r<10*K∧nd≤r)∧t4= .int .i64 (r:Int)∧t6= .int .u64 (P r:Int)∧wr2=wr) (fun t4 _ _=>1000-(intOf t4).toNat)
     case atStart=>exact⟨r,Lib.hid ⟨hI.out.1,hI.out.2.1,hI.out.2.2.1,by omega⟩,rfl,rfl,rfl⟩
     case round=>
      obtain⟨r2,hI2,rfl,rfl,rfl⟩:=hrel;have hz2:=shr_zero (n:=P r2) HK.out hK0;by_cases hge2:K≤P r2
      ·rw[decide_eq_true hge2]at hz2;have HZ:=Lib.hid (show R0=r2 by
        rw[←hI2.out.1];exact srch_hit (by have:=hI2.out.2.1;omega) (by rw[HBIG.out,←HP.out];exact decide_eq_true hge2))
       go_wp2_with fail;go_meet;rw[HZ.out];exact⟨rfl,rfl,Lib.hid ⟨hge2,hI2.out.2.2.1,by have:=hI2.out.2.2.2;omega,hI2.out.2.1⟩,rfl⟩
      ·rw[decide_eq_false hge2]at hz2;have hsm:=HSM.out r2 (by omega);have HSR2:=Lib.hid (show srch (rsBig D nd k) (1000-(r2+1)) (r2+1)=R0 by
        rw[←hI2.out.1];exact(srch_miss (by omega) (by rw[HBIG.out,←HP.out];exact decide_eq_false hge2)).symm)
       have hps:=HPS.out r2;have hdg:dgt D nd r2=0:=by rw[dgt,if_neg (by have:=hI2.out.2.2.2;omega)]
       have HX2:=Lib.hid (And.intro hps (And.intro hdg hsm));have hr20:=hsm.1;clear hps hdg hsm;go_wp2_with fail;go_roundw
       case rel=>
        refine⟨r2+1,Lib.hid ⟨HSR2.out,by have:=HX2.out.2.2.1;omega,?_,by have:=hI2.out.2.2.2;omega⟩,rfl,?_,by first|rfl|trivial⟩
        ·rw[HX2.out.1,HX2.out.2.1];omega
        ·rw[HX2.out.1,HX2.out.2.1,Nat.add_zero]
         first|exact vint (mul10_val HX2.out.2.2.2)|exact vint (by omega)
       case measure=>exact meas_i64 (F:=1000) (by omega)
 case rest=>
  obtain⟨rfl,rfl,hX,rfl⟩:=hcut;have d1:=H.out.dp;have f1:=H.out.free 801;have hmask:IntKind.u64.wrap (IntKind.u64.wrap (2^k)-1)=((K-1:Nat):Int):=by
   rw[show ((2:Int)^k)=(K:Int)by rw[HK.out];simp];exact mask_val hK0 hK60
  obtain⟨N,hN⟩: ∃N:Nat→Nat,N=fun j=>P (R0+j)%(10*K):=⟨_,rfl⟩
  have hNd: ∀j,N j/K=rsDig D nd k R0 j∧N j%K*10+dgt D nd (R0+j)=N (j+1)∧N j<10*K:=fun j=>by
   have h1:=rs_step (X:=P (R0+j)) hK0 (dgt_le HD.out (R0+j));rw[hN];refine⟨?_,?_,Nat.mod_lt _ (by omega)⟩
   ·rw[h1.1,rsDig,←HP.out,←HK.out]
   ·show P (R0+j)%(10*K)%K*10+dgt D nd (R0+j)=P (R0+(j+1))%(10*K);rw[h1.2,←Nat.add_assoc,HPS.out]
  have hN0:N 0=P R0:=by rw[hN];exact Nat.mod_eq_of_lt hX.out.2.1
  have hNe: ∀j,nd+(k+1)≤R0+j→N j=0:=fun j hj=>by
   rw[hN];show P (R0+j)%(10*K)=0;obtain⟨m,hm⟩: ∃m,R0+j=nd+(k+1+m):=⟨R0+j-nd-(k+1),by omega⟩;rw[hm,HP.out,pre_behind,HK.out];have e:(10:Nat)^(k+1+m)=(10*2^k)*(5^k*10^m):=by
    rw[Nat.pow_add,Nat.pow_succ,show (10:Nat)^k=2^k*5^k by rw[←Nat.mul_pow]];simp only[Nat.mul_assoc,Nat.mul_comm,Nat.mul_left_comm]
   rw[e,←Nat.mul_assoc,Nat.mul_comm (pre D nd nd),Nat.mul_assoc];exact Nat.mul_mod_right _ _
  have hNE: ∀j,rsEnd D nd k R0 j=decide (N j=0):=fun j=>by rw[rsEnd,hN,←HP.out,←HK.out]
  have H1:=Lib.hid (H.out.setDp (dp-((R0:Int)-1)));have HN:=Lib.hid (And.intro hNd (And.intro hN0 (And.intro hNe hNE)));have hR21:=hX.out.2.2.2;have hR1:=hX.out.2.2.1;have hN0':=hN0;rw[←hN0];clear hN hNd hN0 hNe hNE hN0';have HB1:=Lib.hid ((Below.refl B wc).setCell (p:=⟨g,801,none⟩) hB (.int .i64 (dp-((R0:Int)-1))));go_upto_block 4 with fail
  go_wp2_with fail;go_loopw [4,5,6,9,10] (fun t4 t5 t6 _ _ wr=> ∃j:Nat,Hid ((R0+j≤nd∨j=0)∧DecAt wr g (rsD D nd k R0 j) nd (dp-((R0:Int)-1)) neg tr∧Below B wc wr)∧t4= .int .i64 ((R0+j:Nat):Int)∧t5= .int .i64 (j:Int)∧t6= .int .u64 (N j:Int)) (fun t4 _ _ _ _ _=>nd-(intOf t4).toNat)
  case atStart=>exact⟨0,Lib.hid ⟨.inr rfl,by rw[rsD_zero];exact H1.out,HB1.out⟩,rfl,rfl,rfl⟩
  case round=>
   obtain⟨j,hI,rfl,rfl,rfl⟩:=hrel;have d0:=hI.out.2.1.nd;obtain⟨r,hr⟩: ∃r,r=R0+j:=⟨_,rfl⟩;rw[←hr];have hst:=HN.out.1 j;rw[←hr]at hst;have hjr:j+1≤r:=by omega
   have HRR:=Lib.hid hr;clear hr;by_cases hrn:r<nd
   ·have p1:((r:Int)<(nd:Int))=True:=eq_true (by omega);have hj8:j<800:=by omega
    have p2:((r:Int)<800)=True:=eq_true (by omega);have p3:((j:Int)<800)=True:=eq_true (by omega);have dr:=hI.out.2.1.dig r (by omega);rw[rsD_keep (by omega)]at dr;have fj:=hI.out.2.1.free j;have dj:=hI.out.2.1.dig j hj8;have hdr:=HD.out.1 r hrn;have hdg:dgt D nd r=D r-48:=by rw[dgt,if_pos hrn]
    have g1:((N j:Int)/2^k)=((rsDig D nd k R0 j:Nat):Int):=by
     rw[←hst.1,HK.out];simp
    have g2:bits .and .u64 (N j:Int) ((K-1:Nat):Int)=((N j%K:Nat):Int):=by
     rw[u64_and_nat _ _ (by have:=hst.2.2;omega) (by omega),HK.out,Nat.and_two_pow_sub_one_eq_mod]
    have h9:rsDig D nd k R0 j≤9:=by rw[rsDig];omega
    have HX:=Lib.hid (And.intro hst (And.intro hdg (And.intro hdr h9)));obtain⟨v0,hv0⟩: ∃v0,v0=Value.int .u8 (rsD D nd k R0 j j:Int):=⟨_,rfl⟩;rw[←hv0]at dj;clear hst hdg hdr h9 hv0;go_wp2_with fail;go_roundw
    case rel=>
     refine⟨j+1,Lib.hid ⟨.inl (by have:=HRR.out;omega),?_,hI.out.2.2.setCell (p:=⟨g,j,none⟩) hB _⟩,?_,rfl,?_⟩
     ·rw[←rsD_succ hj8];exact hI.out.2.1.setDig hj8 (byte_val HX.out.2.2.2)
     ·exact vint (by have:=HRR.out;omega)
     ·rw[←HX.out.1.2.1,HX.out.2.1];exact vint (acc_val2 (by have:=Nat.mod_lt (N j) hK0;omega) HX.out.2.2.1.1 HX.out.2.2.1.2)
    case measure=>exact meas_i64 hrn
   ·have p1:((r:Int)<(nd:Int))=False:=eq_false (by omega);have hjn:j=nd-R0:=by
     have h1:=hI.out.1;have h2:=HRR.out;omega
    have hrn2:nd≤R0+j:=by have h2:=HRR.out;omega
    obtain⟨WW,hWW⟩: ∃WW,WW=rsW D nd k R0:=⟨_,rfl⟩;have hW0:srch (rsEnd D nd k R0) (2000-j) j=WW:=by rw[hWW,rsW,hjn]
    have hj8:j≤800:=by omega
    have HW:=Lib.hid hWW;have HI:=Lib.hid (And.intro hI.out.2.1 (And.intro hI.out.2.2 (And.intro hW0 hrn2)));have hT0:(tr||rsT D nd k R0 j)=tr:=by rw[rsT_small hj8,Bool.or_false]
    have HT0:=Lib.hid hT0;have HST:=Lib.hid hst;clear hst hWW hW0 hrn2 hT0 hI hjn;go_wp2_with fail;go_loopg [5,6,11] (1000-j) (fun gg t5 t6 _ wr=> ∃j q:Nat,Hid (gg=1000-j∧q=min j 800∧srch (rsEnd D nd k R0) (2000-j) j=WW∧nd≤R0+j∧DecAt wr g (rsD D nd k R0 j) nd (dp-((R0:Int)-1)) neg (tr||rsT D nd k R0 j)∧Below B wc wr∧j≤900)∧t5= .int .i64 (q:Int)∧t6= .int .u64 (N j:Int))
    case atStart=>exact⟨j,j,Lib.hid ⟨rfl,(Nat.min_eq_left hj8).symm,HI.out.2.2.1,HI.out.2.2.2,by rw[HT0.out];exact HI.out.1,HI.out.2.1,by omega⟩,rfl,rfl⟩
    case round=>
     obtain⟨j,q,hI2,rfl,rfl⟩:=hrel;have hst:=HN.out.1 j;have hNE:=HN.out.2.2.2 j;have hdec:=hI2.out.2.2.2.2.1;cases hz:decide (N j=0)
     ·rw[hz]at hNE;have hne:N j≠0:=of_decide_eq_false hz;have hjb:R0+j<nd+(k+1):=by
       rcases Nat.lt_or_ge (R0+j) (nd+(k+1))with h|h
       ·exact h
       ·exact absurd (HN.out.2.2.1 j h) hne
      have hj9:j<900:=by omega
      have hms:=srch_miss (F:=2000) (r:=j) (by omega) hNE;have hdg:dgt D nd (R0+j)=0:=by rw[dgt,if_neg (by have:=hI2.out.2.2.2.1;omega)]
      have p1:((0:Int)<(N j:Int))=True:=eq_true (by omega);have p1n:0<N j:=by omega
      have g1:((N j:Int)/2^k)=((rsDig D nd k R0 j:Nat):Int):=by
       rw[←hst.1,HK.out];simp
      have g2:bits .and .u64 (N j:Int) ((K-1:Nat):Int)=((N j%K:Nat):Int):=by
       rw[u64_and_nat _ _ (by have:=hst.2.2;omega) (by omega),HK.out,Nat.and_two_pow_sub_one_eq_mod]
      have h9:rsDig D nd k R0 j≤9:=by rw[rsDig];omega
      have hNs:N (j+1)=N j%K*10:=by have:=hst.2.1;rw[hdg]at this;omega
      have hmk:N j%K<1152921504606846976:=by have:=Nat.mod_lt (N j) hK0;omega
      have hsr:srch (rsEnd D nd k R0) (2000-(j+1)) (j+1)=WW:=by rw[←hms];exact hI2.out.2.2.1
      have HX:=Lib.hid (And.intro hNs (And.intro hmk (And.intro hsr h9)));have HD2:=Lib.hid hdec;have f0:=hdec.free 803;have t0:=hdec.tr;by_cases hj8:j<800
      ·have hq:q=j:=by have:=hI2.out.2.1;omega
       subst hq;have fj:=hdec.free q;have dj:=hdec.dig q hj8;obtain⟨v0,hv0⟩: ∃v0,v0=Value.int .u8 (rsD D nd k R0 q q:Int):=⟨_,rfl⟩;rw[←hv0]at dj;clear hv0;have p3:((q:Int)<800)=True:=eq_true (by omega);clear hst hdg hms h9 hNE hz hne hNs hmk hsr hdec;go_wp2_with fail;go_roundg (1000-(q+1))
       case measure=>have:=hI2.out.1;omega
       case rel=>
        refine⟨q+1,q+1,Lib.hid ⟨rfl,by omega,HX.out.2.2.1,by have:=hI2.out.2.2.2.1;omega,?_,hI2.out.2.2.2.2.2.1.setCell (p:=⟨g,q,none⟩) hB _,by omega⟩,rfl,?_⟩
        ·rw[←rsD_succ hj8,rsT_succ,decide_eq_false (by omega: ¬800≤q),Bool.false_and,Bool.or_false];exact HD2.out.setDig hj8 (byte_val HX.out.2.2.2)
        ·rw[HX.out.1];exact vint (mul10_val2 HX.out.2.1)
      ·have hq:q=800:=by have:=hI2.out.2.1;omega
       have p3:((q:Int)<800)=False:=eq_false (by omega);have HQ:=Lib.hid hq;clear hq;have hjj:800≤j:=by omega
       cases hdz:decide (0<rsDig D nd k R0 j)
       ·have p4:((0:Int)<(rsDig D nd k R0 j:Int))=False:=eq_false (by have:=of_decide_eq_false hdz;omega);have p4n: ¬0<rsDig D nd k R0 j:=of_decide_eq_false hdz;have HDZ:=Lib.hid hdz;clear hst hdg hms h9 hNE hz hne hNs hmk hsr hdec hdz;go_wp2_with fail;go_roundg (1000-(j+1))
        case measure=>have:=hI2.out.1;omega
        case rel=>
         refine⟨j+1,q,Lib.hid ⟨rfl,by have:=HQ.out;omega,HX.out.2.2.1,by have:=hI2.out.2.2.2.1;omega,?_,hI2.out.2.2.2.2.2.1,by omega⟩,rfl,?_⟩
         ·rw[rsD_far hjj,rsT_succ,HDZ.out,Bool.and_false,Bool.or_false];exact HD2.out
         ·rw[HX.out.1];exact vint (mul10_val2 HX.out.2.1)
       ·have p4:((0:Int)<(rsDig D nd k R0 j:Int))=True:=eq_true (by have:=of_decide_eq_true hdz;omega);have p4n:0<rsDig D nd k R0 j:=of_decide_eq_true hdz;have HDZ:=Lib.hid hdz;clear hst hdg hms h9 hNE hz hne hNs hmk hsr hdec hdz;go_wp2_with fail;go_roundg (1000-(j+1))
        case measure=>have:=hI2.out.1;omega
        case rel=>
         refine⟨j+1,q,Lib.hid ⟨rfl,by have:=HQ.out;omega,HX.out.2.2.1,by have:=hI2.out.2.2.2.1;omega,?_,hI2.out.2.2.2.2.2.1.setCell (p:=⟨g,803,none⟩) hB _,by omega⟩,rfl,?_⟩
         ·rw[rsD_far hjj,rsT_succ,HDZ.out,decide_eq_true hjj,Bool.and_true,Bool.or_true,Bool.or_true];exact HD2.out.setTr true
         ·rw[HX.out.1];exact vint (mul10_val2 HX.out.2.1)
     ·rw[hz]at hNE;have hn0:N j=0:=of_decide_eq_true hz;have hWj:WW=j:=by rw[←hI2.out.2.2.1];exact srch_hit (by have:=hI2.out.2.2.2.2.2.2;omega) hNE
      have p1:((0:Int)<(N j:Int))=False:=eq_false (by omega);have p1n: ¬0<N j:=by omega
      have f0:=hdec.free 800;have d1:=hdec.nd;have HD2:=Lib.hid (hdec.setNd (n:=q) (z:=(q:Int)) rfl);have HWJ:=Lib.hid hWj;clear hst hNE hz hn0 hdec hWj;go_wp2_with fail;refine(dec_trim _ B g _ q _ neg _ HD2.out (by have:=hI2.out.2.1;omega) hB).mono ?_;rintro e w9 ⟨rfl,hdf,hb9⟩;have HB9:=Lib.hid ((hI2.out.2.2.2.2.2.1.setCell (p:=⟨g,800,none⟩) hB (.int .i64 (q:Int))).trans hb9);have HDF:=Lib.hid hdf;clear hdf hb9;go_wp2_with fail;go_end0;have e1:rsDF D nd k=rsD D nd k R0 j:=by rw[rsDF,←HR0.out,←HW.out,HWJ.out]
      have e2:rsNd0 D nd k=q:=by rw[rsNd0,←HR0.out,←HW.out,HWJ.out];exact hI2.out.2.1.symm
      have e3:rsTr D nd k tr=(tr||rsT D nd k R0 j):=by rw[rsTr,←HR0.out,←HW.out,HWJ.out]
      have e4:rsDp D nd k dp=trimDp (rsD D nd k R0 j) q (dp-((R0:Int)-1)):=by rw[rsDp,e1,e2,←HR0.out]
      rw[rsNd,e1,e2,e3,e4];exact⟨rfl,HDF.out,HB9.out⟩
theorem DecAt.drewN {w:World} {g:Nat} {D:Nat→Nat} {nd:Nat} {dp:Int} {neg tr:Bool} (h:DecAt w g D nd dp neg tr) (n:Nat):DecAt (w.drewN n) g D nd dp neg tr:=h.drew n
theorem plessL_end {D:Nat→Nat} {nd i:Nat} {l:List UInt8} (h:l.length≤i):plessL D nd (l.drop i) i=false:=by rw[List.drop_eq_nil_of_le h];rfl
theorem plessL_at {D:Nat→Nat} {nd i:Nat} {l:List UInt8} (h:i<l.length):plessL D nd (l.drop i) i=if nd≤i then true else if D i=(atB l i).toNat then plessL D nd (l.drop (i+1)) (i+1)else decide (D i<(atB l i).toNat):=by
 have e:l[i]=atB l i:=by rw[atB,List.getD_eq_getElem?_getD,List.getElem?_eq_getElem h];rfl
 rw[List.drop_eq_getElem_cons h,plessL,e]
theorem dec_pless (w:World) (g:Nat) (D:Nat→Nat) (nd:Nat) (dp:Int) (neg tr:Bool) (s:ByteArray) (h:DecAt w g D nd dp neg tr) (hnd:nd≤800) (hs:s.size≤1000):
  Calls Tryz.prog 338 #[.slice (some ⟨g,0,none⟩) nd 800,.string s] w fun e w'=>e= .returned (.bool (plessL D nd s.data.toList 0))∧ ∃m,w'=w.drewN m:=by
 obtain⟨T,hT⟩: ∃T,T=plessL D nd s.data.toList 0:=⟨_,rfl⟩;rw[←hT];have HT:=Lib.hid hT;have H:=Lib.hid h;clear hT h;go_enter Tryz.func338,Tryz.ntmps338;go_wp2_with fail;go_loopw [5] (fun t5 wr=> ∃i:Nat,Hid (plessL D nd (s.data.toList.drop i) i=T∧i≤s.size∧ ∃m,wr=w.drewN m)∧t5= .int .i64 (i:Int)) (fun t5 _=>s.size-(intOf t5).toNat)
 case atStart=>exact⟨0,Lib.hid ⟨HT.out.symm,Nat.zero_le _,0,rfl⟩,rfl⟩
 case round=>
  obtain⟨i,hI,rfl⟩:=hrel;by_cases hi:i<s.size
  ·have p1:((i:Int)<(s.size:Int))=True:=eq_true (by omega);have hst:=plessL_at (D:=D) (nd:=nd) (l:=s.data.toList) (i:=i) (by rw[len_data];exact hi);rw[atB_lt hi]at hst;have hD:DecAt wr g D nd dp neg tr:=by obtain⟨m,hm⟩:=hI.out.2.2;rw[hm];exact H.out.drewN m
   have HD:=Lib.hid hD;have HST:=Lib.hid hst;clear hst hD;by_cases hn:nd≤i
   ·have p2:((nd:Int)≤(i:Int))=True:=eq_true (by omega);have hTT:T=true:=by rw[←hI.out.1,HST.out,if_pos hn]
    have HTT:=Lib.hid hTT;clear hTT;go_wp2_with fail;go_ret;exact⟨by rw[HTT.out];rfl,hI.out.2.2⟩
   ·have p2:((nd:Int)≤(i:Int))=False:=eq_false (by omega);have p3:((i:Int)<(nd:Int))=True:=eq_true (by omega);have c0:=HD.out.dig i (by omega);by_cases he:D i=s[i].toNat
    ·have e1:((D i:Int) != (s[i].toNat:Int))=false:=by rw[he];simp
     have hTT:plessL D nd (s.data.toList.drop (i+1)) (i+1)=T:=by rw[←hI.out.1,HST.out,if_neg hn,if_pos he]
     have HTT:=Lib.hid hTT;clear hTT;go_wp2_with fail;go_quiet (fail);have hm2: ∃m,wr.drewN nq=w.drewN m:=by obtain⟨m,hm⟩:=hI.out.2.2;exact⟨_,by rw[hm,World.drewN_drewN]⟩
     clear c0;generalize wr.drewN nq=w2 at hm2 ⊢
     have HM2:=Lib.hid hm2;clear hm2 he;go_wp2_with fail;go_roundw
     case rel=>exact⟨i+1,Lib.hid ⟨HTT.out,hi,HM2.out⟩,rfl⟩
     case measure=>exact meas_i64 hi
    ·have e1:((D i:Int) != (s[i].toNat:Int))=true:=by rw[bne_iff_ne];omega
     have hTT:T=decide (D i<s[i].toNat):=by rw[←hI.out.1,HST.out,if_neg hn,if_neg he]
     have HTT:=Lib.hid hTT;clear hTT;clear he;go_wp2_with fail;go_quiet (fail);have hm2: ∃m,wr.drewN nq=w.drewN m:=by obtain⟨m,hm⟩:=hI.out.2.2;exact⟨_,by rw[hm,World.drewN_drewN]⟩
     have c1:(wr.drewN nq).cell? ⟨g,i,none⟩=some (.int .u8 (D i:Int)):=c0;clear c0;generalize wr.drewN nq=w2 at hm2 c1 ⊢
     have HM2:=Lib.hid hm2;clear hm2;go_wp2_with fail;go_quiet (fail);have hm3: ∃m,w2.drewN nq=w.drewN m:=by obtain⟨m,hm⟩:=HM2.out;exact⟨_,by rw[hm,World.drewN_drewN]⟩
     clear c1;generalize w2.drewN nq=w3 at hm3 ⊢
     have HM3:=Lib.hid hm3;clear hm3;go_wp2_with fail;go_ret;exact⟨by rw[HTT.out];rfl,HM3.out⟩
  ·have p1:((i:Int)<(s.size:Int))=False:=eq_false (by omega);have hTT:T=false:=by rw[←hI.out.1];exact plessL_end (by rw[len_data];omega)
   have HTT:=Lib.hid hTT;clear hTT;go_wp2_with fail;go_ret;exact⟨by rw[HTT.out];rfl,hI.out.2.2⟩
structure CheatAt (w:World) (C:Nat):Prop where
 tab: ∃o,w.cell? ⟨12,0,none⟩=some (.slice (some ⟨C,o,none⟩) 61 61)∧ ∀k,k<61→w.cell? ⟨C,o+k*2,none⟩=some (.int .i64 (chD k:Int))∧w.cell? ⟨C,o+k*2+1,none⟩=some (.string ⟨(chS k).toArray⟩)
 lt0:12<w.heap.size
 lt:C<w.heap.size
theorem CheatAt.below {w w':World} {C B:Nat} (h:CheatAt w C) (hb:Below B w w') (h0:12<B) (h1:C<B):CheatAt w' C:=by
 obtain⟨o,t1,t2⟩:=h.tab;exact⟨⟨o,(hb.cell (p:=⟨_,0,none⟩) h0).trans t1,fun k hk=>⟨(hb.cell (p:=⟨C,_,none⟩) h1).trans (t2 k hk).1,(hb.cell (p:=⟨C,_,none⟩) h1).trans (t2 k hk).2⟩⟩,Nat.lt_of_lt_of_le h.lt0 hb.size,Nat.lt_of_lt_of_le h.lt hb.size⟩
theorem ls_acc {n d k K:Nat} (hK:K=2^k) (h60:K≤1152921504606846976) (hn:n<K) (h1:48≤d) (h2:d≤57):IntKind.u64.wrap ((n:Int)+IntKind.u64.wrap (IntKind.u64.wrap (IntKind.u64.wrap (d:Int)-48)*2^k))=((n+(d-48)*K:Nat):Int):=by
 have e:((2:Int)^k)=(K:Int):=by rw[hK];simp
 rw[e];have e2:IntKind.u64.wrap (IntKind.u64.wrap (d:Int)-48)=((d-48:Nat):Int):=by simp only[IntKind.wrap_u64];omega
 rw[e2];have h9:(d-48)*K≤9*K:=Nat.mul_le_mul_right _ (by omega);have e3:(((d-48:Nat):Int)*(K:Int))=(((d-48)*K:Nat):Int):=by simp
 rw[e3];generalize (d-48)*K=x at h9 ⊢
 simp only[IntKind.wrap_u64];omega
theorem ls_rem {n:Nat} (hn:n<18446744073709551616):IntKind.u64.wrap ((n:Int)-IntKind.u64.wrap (10*((n/10:Nat):Int)))=((n%10:Nat):Int):=by
 simp only[IntKind.wrap_u64];omega
theorem dec_leftShift (w:World) (B g C:Nat) (D:Nat→Nat) (nd k:Nat) (dp:Int) (neg tr:Bool) (h:DecAt w g D nd dp neg tr) (hc:CheatAt w C) (hd:DigOk D nd) (hn:0<nd) (hnd:nd≤800) (hk1:1≤k) (hk:k≤60) (hdp: -1000000000000≤dp∧dp≤1000000000000) (hB:B≤g):
  Calls Tryz.prog 331 #[.pointer (some ⟨g,0,none⟩),.int .u64 (k:Int)] w fun e w'=>e= .returned (.tuple #[])∧DecAt w' g (lsDF D nd k) (lsNd D nd k) (lsDp D nd k dp) neg (lsTr D nd k tr)∧Below B w w':=by
 have H:=Lib.hid h;have HD:=Lib.hid hd;have hok:=cheat_ok hk1 hk;obtain⟨o,h0,hrow⟩:=hc.tab;have hr:=hrow k (by omega);clear hrow;obtain⟨δ,hδ⟩: ∃δ,δ=chD k:=⟨_,rfl⟩;obtain⟨s,hs⟩: ∃s:ByteArray,s=⟨(chS k).toArray⟩:=⟨_,rfl⟩;rw[←hδ,←hs]at hr;have hsl:s.data.toList=chS k:=by rw[hs]
 have hss:s.size≤60:=by rw[←len_data,hsl];exact hok.short
 have hδ1:1≤δ∧δ≤20:=by rw[hδ];exact⟨hok.pos,hok.small⟩
 obtain⟨r1,r2⟩:=hr;have hb:=ls_bounds hd hn hk1 hk;obtain⟨L,hL⟩: ∃L,L=lsL D nd k:=⟨_,rfl⟩;obtain⟨M,hM⟩: ∃M,M=lsM D nd k:=⟨_,rfl⟩;rw[←hL,←hM]at hb;have HB:=Lib.hid hb;have HL:=Lib.hid hL;have HM:=Lib.hid hM;have HDL:=Lib.hid (And.intro hδ hsl);have hLn:nd≤L∧L≤nd+20:=⟨hb.2.2.1,hb.2.2.2⟩;clear h hd hok hs hδ hsl hb hL hM hc;have d0:=H.out.nd;have hq0:((0:Int)≤(nd:Int))=True:=eq_true (by omega);have hq1:((nd:Int)≤800)=True:=eq_true (by omega);have hq2:((k:Int)<61)=True:=eq_true (by omega);go_enter Tryz.func331,Tryz.ntmps331;obtain⟨b,hl⟩: ∃b,lsLess D nd k=b:=⟨_,rfl⟩;have hp:plessL D nd s.data.toList 0=b:=by rw[HDL.out.2];exact hl
 have HP:=Lib.hid hp;have HLB:=Lib.hid hl;clear hp hl;go_wp2_with fail;go_quiet ((go_at_call 338;exact Calls.quiet_of ((dec_pless _ g D nd dp neg tr s (H.out.drewN _) hnd (by omega)).mono fun _ _ ⟨h1,h2⟩=>⟨by rw[h1,HP.out],h2⟩)));obtain⟨m,hm⟩: ∃m,m=nq:=⟨_,rfl⟩;rw[←hm];clear hm;have hH:DecAt (w.drewN m) g D nd dp neg tr:=H.out.drewN m;have hb2:Below B w (w.drewN m):=Go.below_drewN (Below.refl B w) m;clear d0 h0 r1 r2;generalize w.drewN m=w2 at hH hb2 ⊢
 have d0:=hH.nd;have H2:=Lib.hid hH;have HB2:=Lib.hid hb2;obtain⟨K,hKK⟩: ∃K,K=2^k:=⟨_,rfl⟩;have hK60:K≤1152921504606846976:=by rw[hKK];exact Nat.pow_le_pow_right (n:=2) (by omega) hk
 have hK0:0<K:=by rw[hKK];exact Nat.pow_pos (by omega)
 obtain⟨N,hN⟩: ∃N:Nat→Nat,N=lsN (pre D nd nd) k:=⟨_,rfl⟩;have hMM:M=pre D nd nd*K:=by rw[HM.out,lsM,hKK]
 have hstep: ∀j,j<nd→(N j+(D (nd-1-j)-48)*K)%10=M/10^j%10∧(N j+(D (nd-1-j)-48)*K)/10=N (j+1)∧N j<K:=fun j hj=>by
  have:=lsN_step (k:=k) (pre_dig HD.out hj);rw[hN,hMM,hKK];exact this
 have hbeh: ∀j,nd≤j→N j=M/10^j:=fun j hj=>by
  rw[hN,hMM,hKK];exact lsN_behind (pre_lt HD.out nd) hj
 have hN0:N 0=0:=by rw[hN,lsN];simp[Nat.mod_one]
 have hNK: ∀j,N j<K:=fun j=>by rw[hN,hKK];exact(lsN_step rfl).2.2
 have HN:=Lib.hid (And.intro hstep (And.intro hbeh (And.intro hN0 hNK)));have HKK:=Lib.hid hKK;clear hH hb2 hKK hN hMM hstep hbeh hN0 hNK;go_upto_if 30 with fail
 go_cut [4]from 12 to 32 (fun t4 wx=>t4= .int .i64 ((L:Int)-nd)∧wx=w2)
 case first=>
  cases b
  ·have hLL:(L:Int)-nd=δ:=by
    have:=HL.out;rw[lsL,HLB.out,if_neg (by simp),←HDL.out.1]at this;omega
   go_wp2_with fail;go_meet;exact⟨vint (by omega),rfl⟩
  ·have hLL:(L:Int)-nd=δ-1:=by
    have:=HL.out;rw[lsL,HLB.out,if_pos rfl,←HDL.out.1]at this;omega
   go_wp2_with fail;go_meet;exact⟨vint (by omega),rfl⟩
 case rest=>
  obtain⟨rfl,rfl⟩:=hcut;go_wp2_with fail;go_loopg [5,6,7,8,9] nd (fun gg t5 t6 t7 _ _ wr=> ∃(j q:Nat) (z:Int),Hid (gg=nd-j∧j≤nd∧z=(nd:Int)-1-j∧q=L-j∧DecAt wr g (lsD D M L j) nd dp neg (tr||lsT M L j)∧Below B w wr)∧t5= .int .i64 z∧t6= .int .i64 (q:Int)∧t7= .int .u64 (N j:Int))
  case atStart=>
   refine⟨0,L,(nd:Int)-1,Lib.hid ⟨rfl,Nat.zero_le _,by simp,rfl,?_,HB2.out⟩,?_,?_,by rw[HN.out.2.2.1];rfl⟩
   ·rw[lsD_zero];have e:lsT M L 0=false:=rfl;rw[e,Bool.or_false];exact H2.out
   ·first|rfl|exact vint (by omega)
   ·first|rfl|exact vint (by omega)
  case round=>
   obtain⟨j,q,z,hI,rfl,rfl,rfl⟩:=hrel;by_cases hj:j<nd
   ·obtain⟨r,hr⟩: ∃r:Nat,r=nd-1-j:=⟨_,rfl⟩;have hz:z=(r:Int):=by have:=hI.out.2.2.1;omega
    subst hz;obtain⟨q1,hq1⟩: ∃q1,q=q1+1:=⟨q-1,by have:=hI.out.2.2.2.1;omega⟩;subst hq1;have hq:q1=L-(j+1):=by have:=hI.out.2.2.2.1;omega
    have hr8:r<800:=by omega
    have p0:((r:Int)<800)=True:=eq_true (by omega);have hdec:=hI.out.2.2.2.2.1;have c0:=hdec.dig r hr8;rw[lsD_keep (by omega)]at c0;have hst:=HN.out.1 j hj;rw[←hr]at hst;have hdr:=HD.out.1 r (by omega);have HX:=Lib.hid (And.intro hst (And.intro hdr (And.intro hr hq)));have HDE:=Lib.hid hdec;have hqb:q1<821:=by omega
    clear hst hdr hr hq hdec;obtain⟨nn,hnn⟩: ∃nn,nn=N j+(D r-48)*K:=⟨_,rfl⟩;have f1:IntKind.u64.wrap ((N j:Int)+IntKind.u64.wrap (IntKind.u64.wrap (IntKind.u64.wrap (D r:Int)-48)*2^k))=(nn:Int):=by
     rw[hnn];exact ls_acc HKK.out hK60 HX.out.1.2.2 HX.out.2.1.1 HX.out.2.1.2
    have hnb:nn<18446744073709551616:=by
     have h9:(D r-48)*K≤9*K:=Nat.mul_le_mul_right _ (by have:=HX.out.2.1.2;omega);have:=HX.out.1.2.2;omega
    obtain⟨Q,hQ⟩: ∃Q,Q=nn/10:=⟨_,rfl⟩;obtain⟨R,hR⟩: ∃R,R=nn%10:=⟨_,rfl⟩;have g1:(nn:Int)/10=(Q:Int):=by rw[hQ];simp
    have g2:IntKind.u64.wrap ((nn:Int)-IntKind.u64.wrap (10*(Q:Int)))=(R:Int):=by rw[hQ,hR];exact ls_rem hnb
    have f2:IntKind.u64.wrap (Q:Int)=(Q:Int):=by rw[hQ];simp only[IntKind.wrap_u64];omega
    have hQ2:Q=N (j+1):=by rw[hQ,hnn];exact HX.out.1.2.1
    have hR2:R=M/10^j%10:=by rw[hR,hnn];exact HX.out.1.1
    have hR9:R≤9:=by omega
    have HQR:=Lib.hid (And.intro hQ2 (And.intro hR2 hR9));have f0:=HDE.out.free 803;have t0:=HDE.out.tr;clear hnn hnb hQ hR hQ2 hR2 hR9;by_cases h8:q1<800
    ·have p3:((q1:Int)<800)=True:=eq_true (by omega);have fq:=HDE.out.free q1;have dq:=HDE.out.dig q1 h8;obtain⟨v0,hv0⟩: ∃v0,v0=Value.int .u8 (lsD D M L j q1:Int):=⟨_,rfl⟩;rw[←hv0]at dq;clear hv0;go_wp2_with fail;go_roundg (nd-(j+1))
     case measure=>have:=hI.out.1;omega
     case rel=>
      refine⟨j+1,q1,(r:Int)-1,Lib.hid ⟨rfl,by omega,by have:=HX.out.2.2.1;omega,HX.out.2.2.2,?_,hI.out.2.2.2.2.2.setCell (p:=⟨g,q1,none⟩) hB _⟩,rfl,rfl,by rw[←HQR.out.1]⟩;have hq:=HX.out.2.2.2;have e1:=lsD_succ (D:=D) (M:=M) (L:=L) (j:=j) (by omega) (by omega);rw[←hq,←HQR.out.2.1]at e1;rw[←e1,lsT_succ,decide_eq_false (by omega: ¬800≤L-1-j),Bool.false_and,Bool.or_false];exact HDE.out.setDig h8 (byte_val HQR.out.2.2)
    ·have p3:((q1:Int)<800)=False:=eq_false (by omega);cases hz:decide (R=0)
     ·have hne:R≠0:=of_decide_eq_false hz;have e0:((R:Int) != 0)=true:=by rw[bne_iff_ne];omega
      have HNE:=Lib.hid hne;clear hz hne;go_wp2_with fail;go_roundg (nd-(j+1))
      case measure=>have:=hI.out.1;omega
      case rel=>
       refine⟨j+1,q1,(r:Int)-1,Lib.hid ⟨rfl,by omega,by have:=HX.out.2.2.1;omega,HX.out.2.2.2,?_,hI.out.2.2.2.2.2.setCell (p:=⟨g,803,none⟩) hB _⟩,rfl,rfl,by rw[←HQR.out.1]⟩;have hq:=HX.out.2.2.2;rw[lsD_far (by omega),lsT_succ,←HQR.out.2.1,decide_eq_true (by omega:800≤L-1-j),decide_eq_true HNE.out,Bool.and_true,Bool.or_true,Bool.or_true];exact HDE.out.setTr true
     ·have he:R=0:=of_decide_eq_true hz;have e0:((R:Int) != 0)=false:=by rw[he];rfl
      have HEQ:=Lib.hid he;clear hz he;go_wp2_with fail;go_roundg (nd-(j+1))
      case measure=>have:=hI.out.1;omega
      case rel=>
       refine⟨j+1,q1,(r:Int)-1,Lib.hid ⟨rfl,by omega,by have:=HX.out.2.2.1;omega,HX.out.2.2.2,?_,hI.out.2.2.2.2.2⟩,rfl,rfl,by rw[←HQR.out.1]⟩;have hq:=HX.out.2.2.2;rw[lsD_far (by omega),lsT_succ,←HQR.out.2.1,decide_eq_false (by rw[HEQ.out];simp: ¬R≠0),Bool.and_false,Bool.or_false];exact HDE.out
   ·have hjn:j=nd:=by have:=hI.out.2.1;omega
    have hz:z= -1:=by have:=hI.out.2.2.1;omega
    subst hz;have HJ:=Lib.hid hjn;clear hjn;have HI1:=Lib.hid hI.out;clear hI;go_wp2_with fail;go_loopg [6,7,10,11] (L-j) (fun gg t6 t7 _ _ wr=> ∃j q:Nat,Hid (gg=L-j∧nd≤j∧j≤L∧q=L-j∧DecAt wr g (lsD D M L j) nd dp neg (tr||lsT M L j)∧Below B w wr)∧t6= .int .i64 (q:Int)∧t7= .int .u64 (N j:Int))
    case atStart=>exact⟨j,q,Lib.hid ⟨rfl,by have:=HJ.out;omega,by have:=HJ.out;omega,HI1.out.2.2.2.1,HI1.out.2.2.2.2.1,HI1.out.2.2.2.2.2⟩,rfl,rfl⟩
    case round=>
     obtain⟨j,q,hI,rfl,rfl⟩:=hrel;have hbe:=HN.out.2.1 j hI.out.2.1;have hdec:=hI.out.2.2.2.2.1;by_cases hjL:j<L
     ·have hpos:0<N j:=by
       rw[hbe];exact Nat.div_pos (Nat.le_trans (Nat.pow_le_pow_right (by omega) (by omega)) HB.out.1) (Nat.pow_pos (by omega))
      have p1:((0:Int)<(N j:Int))=True:=eq_true (by omega);obtain⟨q1,hq1⟩: ∃q1,q=q1+1:=⟨q-1,by have:=hI.out.2.2.2.1;omega⟩;subst hq1;have hq:q1=L-(j+1):=by have:=hI.out.2.2.2.1;omega
      have hnb:N j<18446744073709551616:=by have:=HN.out.2.2.2 j;omega
      obtain⟨Q,hQ⟩: ∃Q,Q=N j/10:=⟨_,rfl⟩;obtain⟨R,hR⟩: ∃R,R=N j%10:=⟨_,rfl⟩;have g1:(N j:Int)/10=(Q:Int):=by rw[hQ];simp
      have g2:IntKind.u64.wrap ((N j:Int)-IntKind.u64.wrap (10*(Q:Int)))=(R:Int):=by rw[hQ,hR];exact ls_rem hnb
      have f2:IntKind.u64.wrap (Q:Int)=(Q:Int):=by rw[hQ];simp only[IntKind.wrap_u64];omega
      have hQ2:Q=N (j+1):=by rw[hQ,hbe,HN.out.2.1 (j+1) (by have:=hI.out.2.1;omega),Nat.div_div_eq_div_mul,←Nat.pow_succ]
      have hR2:R=M/10^j%10:=by rw[hR,hbe]
      have hR9:R≤9:=by omega
      have HQR:=Lib.hid (And.intro hQ2 (And.intro hR2 (And.intro hR9 hq)));have HDE:=Lib.hid hdec;have f0:=hdec.free 803;have t0:=hdec.tr;have hqb:q1<821:=by omega
      clear hnb hQ hR hQ2 hR2 hR9 hq hbe hdec;by_cases h8:q1<800
      ·have p3:((q1:Int)<800)=True:=eq_true (by omega);have fq:=HDE.out.free q1;have dq:=HDE.out.dig q1 h8;obtain⟨v0,hv0⟩: ∃v0,v0=Value.int .u8 (lsD D M L j q1:Int):=⟨_,rfl⟩;rw[←hv0]at dq;clear hv0;go_wp2_with fail;go_roundg (L-(j+1))
       case measure=>have:=hI.out.1;omega
       case rel=>
        refine⟨j+1,q1,Lib.hid ⟨rfl,by have:=hI.out.2.1;omega,by omega,HQR.out.2.2.2,?_,hI.out.2.2.2.2.2.setCell (p:=⟨g,q1,none⟩) hB _⟩,rfl,by rw[←HQR.out.1]⟩;have hq:=HQR.out.2.2.2;have e1:=lsD_succ (D:=D) (M:=M) (L:=L) (j:=j) (by omega) (by omega);rw[←hq,←HQR.out.2.1]at e1;rw[←e1,lsT_succ,decide_eq_false (by omega: ¬800≤L-1-j),Bool.false_and,Bool.or_false];exact HDE.out.setDig h8 (byte_val HQR.out.2.2.1)
      ·have p3:((q1:Int)<800)=False:=eq_false (by omega);cases hz:decide (R=0)
       ·have hne:R≠0:=of_decide_eq_false hz;have e0:((R:Int) != 0)=true:=by rw[bne_iff_ne];omega
        have HNE:=Lib.hid hne;clear hz hne;go_wp2_with fail;go_roundg (L-(j+1))
        case measure=>have:=hI.out.1;omega
        case rel=>
         refine⟨j+1,q1,Lib.hid ⟨rfl,by have:=hI.out.2.1;omega,by omega,HQR.out.2.2.2,?_,hI.out.2.2.2.2.2.setCell (p:=⟨g,803,none⟩) hB _⟩,rfl,by rw[←HQR.out.1]⟩;have hq:=HQR.out.2.2.2;rw[lsD_far (by omega),lsT_succ,←HQR.out.2.1,decide_eq_true (by omega:800≤L-1-j),decide_eq_true HNE.out,Bool.and_true,Bool.or_true,Bool.or_true];exact HDE.out.setTr true
       ·have he:R=0:=of_decide_eq_true hz;have e0:((R:Int) != 0)=false:=by rw[he];rfl
        have HEQ:=Lib.hid he;clear hz he;go_wp2_with fail;go_roundg (L-(j+1))
        case measure=>have:=hI.out.1;omega
        case rel=>
         refine⟨j+1,q1,Lib.hid ⟨rfl,by have:=hI.out.2.1;omega,by omega,HQR.out.2.2.2,?_,hI.out.2.2.2.2.2⟩,rfl,by rw[←HQR.out.1]⟩;have hq:=HQR.out.2.2.2;rw[lsD_far (by omega),lsT_succ,←HQR.out.2.1,decide_eq_false (by rw[HEQ.out];simp: ¬R≠0),Bool.and_false,Bool.or_false];exact HDE.out
     ·have hjLe:j=L:=by have:=hI.out.2.2.1;omega
      have hz0:N j=0:=by rw[hbe,hjLe];exact Nat.div_eq_of_lt HB.out.2.1
      have p1:((0:Int)<(N j:Int))=False:=eq_false (by omega);have p1n: ¬0<N j:=by omega
      rw[hjLe]at hdec;have HDE:=Lib.hid hdec;have HBE:=Lib.hid hI.out.2.2.2.2.2;have d1:=hdec.nd;have d2:=hdec.dp;have f1:=hdec.free 800;have f2:=hdec.free 801;have eF:lsDF D nd k=lsD D M L L:=by rw[lsDF,←HL.out,←HM.out]
      have eT:lsTr D nd k tr=(tr||lsT M L L):=by rw[lsTr,←HL.out,←HM.out]
      have eN:lsNd D nd k=trimN (lsD D M L L) (min L 800):=by rw[lsNd,eF,←HL.out]
      have eP:lsDp D nd k dp=trimDp (lsD D M L L) (min L 800) (dp+((L:Int)-nd)):=by rw[lsDp,eF,←HL.out]
      have HE:=Lib.hid (And.intro eF (And.intro eT (And.intro eN eP)));clear eF eT eN eP hdec hbe hz0 hjLe hI;by_cases h8:800≤L
      ·have p8:((800:Int)≤(L:Int))=True:=eq_true (by omega);go_wp2_with fail;refine(dec_trim _ B g (lsD D M L L) 800 (dp+((L:Int)-nd)) neg (tr||lsT M L L) (((HDE.out.setNd (n:=L) (by omega)).setNd (n:=800) rfl).setDp _) (by omega) hB).mono ?_;rintro e w9 ⟨rfl,hdf,hb9⟩;have HB9:=Lib.hid ((((HBE.out.setCell (p:=⟨g,800,none⟩) hB _).setCell (p:=⟨g,800,none⟩) hB _).setCell (p:=⟨g,801,none⟩) hB _).trans hb9);have HDF:=Lib.hid hdf;clear hdf hb9;go_wp2_with fail;go_end0;have hmm:min L 800=800:=Nat.min_eq_right h8;rw[HE.out.1,HE.out.2.1,HE.out.2.2.1,HE.out.2.2.2,hmm];exact⟨rfl,HDF.out,HB9.out⟩
      ·have p8:((800:Int)≤(L:Int))=False:=eq_false (by omega);go_wp2_with fail;refine(dec_trim _ B g (lsD D M L L) L (dp+((L:Int)-nd)) neg (tr||lsT M L L) ((HDE.out.setNd (n:=L) (by omega)).setDp _) (by omega) hB).mono ?_;rintro e w9 ⟨rfl,hdf,hb9⟩;have HB9:=Lib.hid (((HBE.out.setCell (p:=⟨g,800,none⟩) hB _).setCell (p:=⟨g,801,none⟩) hB _).trans hb9);have HDF:=Lib.hid hdf;clear hdf hb9;go_wp2_with fail;go_end0;have hmm:min L 800=L:=Nat.min_eq_left (by omega);rw[HE.out.1,HE.out.2.1,HE.out.2.2.1,HE.out.2.2.2,hmm];exact⟨rfl,HDF.out,HB9.out⟩
def DecSt (w:World) (g:Nat) (S:Dec) (neg:Bool):Prop:=DecAt w g S.D S.nd S.dp neg S.tr
theorem dec_ls (w:World) (B g C:Nat) (S:Dec) (neg:Bool) (k:Nat) (h:DecSt w g S neg) (hc:CheatAt w C) (hok:S.Ok) (hk1:1≤k) (hk:k≤60) (hdp: -1000000000000≤S.dp∧S.dp≤1000000000000) (hB:B≤g):
  Calls Tryz.prog 331 #[.pointer (some ⟨g,0,none⟩),.int .u64 (k:Int)] w fun e w'=>e= .returned (.tuple #[])∧DecSt w' g (S.ls k) neg∧Below B w w':=
 dec_leftShift w B g C S.D S.nd k S.dp neg S.tr h hc hok.dig hok.pos hok.le hk1 hk hdp hB
theorem dec_rs (w:World) (B g:Nat) (S:Dec) (neg:Bool) (k:Nat) (h:DecSt w g S neg) (hok:S.Ok) (hk1:1≤k) (hk:k≤60) (hdp: -1000000000000≤S.dp∧S.dp≤1000000000000) (hB:B≤g):
  Calls Tryz.prog 332 #[.pointer (some ⟨g,0,none⟩),.int .u64 (k:Int)] w fun e w'=>e= .returned (.tuple #[])∧DecSt w' g (S.rs k) neg∧Below B w w':=
 dec_rightShift w B g S.D S.nd k S.dp neg S.tr h hok.dig hok.pos hok.le hk1 hk hdp hB
theorem ls_dp {S:Dec} (h:S.Ok) {k:Nat} (h1:1≤k) (h2:k≤60):S.dp≤(S.ls k).dp∧(S.ls k).dp≤S.dp+20:=by
 rw[(Dec.ls_ok h h1 h2).2.1];have:=ls_bounds h.dig h.pos h1 h2;omega
theorem rs_dp {S:Dec} (h:S.Ok) {k:Nat} (h1:1≤k) (h2:k≤60):S.dp-20≤(S.rs k).dp∧(S.rs k).dp≤S.dp:=by
 rw[(Dec.rs_ok h h1 h2).2.1];have:=rs_first h.dig h.pos h2;omega
theorem dec_ShiftL (w:World) (B g C:Nat) (S:Dec) (neg:Bool) (k:Nat) (h:DecSt w g S neg) (hc:CheatAt w C) (hok:S.Ok) (hk1:1≤k) (hk:k≤100000000) (hdp: -10000000000≤S.dp∧S.dp≤10000000000) (hB:B≤g) (hC:C<B) (hG:12<B):
  Calls Tryz.prog 326 #[.pointer (some ⟨g,0,none⟩),.int .i64 (k:Int)] w fun e w'=>e= .returned (.tuple #[])∧DecSt w' g (Dec.shL k S) neg∧Below B w w':=by
 have hp:=hok.pos;obtain⟨n1,hn1⟩: ∃n1,S.nd=n1+1:=⟨S.nd-1,by omega⟩;have d0:w.cell? ⟨g,800,none⟩=some (.int .i64 ((n1:Int)+1)):=by rw[h.nd,hn1];rfl
 have q0:((n1:Int)+1=0)=False:=eq_false (by omega);have q1:((0:Int)<(k:Int))=True:=eq_true (by omega);have q1n:0<k:=hk1;obtain⟨T,hT⟩: ∃T,T=Dec.shL k S:=⟨_,rfl⟩;rw[←hT];have H:=Lib.hid h;have HC:=Lib.hid hc;have HOK:=Lib.hid hok;have HDP:=Lib.hid hdp;have HT:=Lib.hid hT;clear h hc hok hdp hT hn1 hp;go_enter Tryz.func326,Tryz.ntmps326;go_wp2_with fail;go_loopg [1] k (fun gg t1 wr=> ∃(kk:Nat) (S2:Dec),Hid (gg=kk∧1≤kk∧kk≤k∧S2.Ok∧DecSt wr g S2 neg∧Below B w wr∧Dec.shL kk S2=T∧ -20000000000+20*(kk:Int)≤S2.dp∧S2.dp+20*(kk:Int)≤20000000000)∧t1= .int .i64 (kk:Int))
 case atStart=>exact⟨k,S,Lib.hid ⟨rfl,hk1,Nat.le_refl _,HOK.out,H.out,Below.refl _ _,HT.out.symm,by have:=HDP.out;omega,by have:=HDP.out;omega⟩,rfl⟩
 case round=>
  obtain⟨kk,S2,hI,rfl⟩:=hrel;by_cases hb:60<kk
  ·have p1:((60:Int)<(kk:Int))=True:=eq_true (by omega);go_wp2_with fail;refine(dec_ls _ B g C S2 neg 60 hI.out.2.2.2.2.1 (HC.out.below hI.out.2.2.2.2.2.1 hG hC) hI.out.2.2.2.1 (by omega) (by omega) (by have:=hI.out.2.2.2.2.2.2.2;omega) hB).mono ?_;rintro e w3 ⟨rfl,hs3,hb3⟩;have h3:=ls_dp hI.out.2.2.2.1 (k:=60) (by omega) (by omega);have HX:=Lib.hid (And.intro hs3 (And.intro (hI.out.2.2.2.2.2.1.trans hb3) h3));obtain⟨k2,hk2⟩: ∃k2,k2=kk-60:=⟨_,rfl⟩;have hsub:wrap64 ((kk:Int)-60)=(k2:Int):=by simp only[wrap64];have:=hI.out.2.2.1;omega
   have HK2:=Lib.hid hk2;clear hs3 hb3 h3 hk2;go_wp2_with fail;go_roundg k2
   case measure=>have:=hI.out.1;have:=HK2.out;omega
   case rel=>
    have hk2:=HK2.out;have hdp:=hI.out.2.2.2.2.2.2.2;have h3:=HX.out.2.2;refine⟨k2,S2.ls 60,Lib.hid ⟨rfl,by omega,by have:=hI.out.2.2.1;omega,(Dec.ls_ok hI.out.2.2.2.1 (by omega) (by omega)).1,HX.out.1,HX.out.2.1,?_,by omega,by omega⟩,?_⟩
    ·rw[hk2,←Dec.shL_more hb];exact hI.out.2.2.2.2.2.2.1
    ·first|rfl|exact vint (by omega)
  ·have p1:((60:Int)<(kk:Int))=False:=eq_false (by omega);go_wp2_with fail;refine(dec_ls _ B g C S2 neg kk hI.out.2.2.2.2.1 (HC.out.below hI.out.2.2.2.2.2.1 hG hC) hI.out.2.2.2.1 hI.out.2.1 (by omega) (by have:=hI.out.2.2.2.2.2.2.2;omega) hB).mono ?_;rintro e w3 ⟨rfl,hs3,hb3⟩;have hT2:T=S2.ls kk:=by rw[←hI.out.2.2.2.2.2.2.1,Dec.shL_last (by omega)]
   have HX:=Lib.hid (And.intro hs3 (And.intro (hI.out.2.2.2.2.2.1.trans hb3) hT2));clear hs3 hb3 hT2;go_wp2_with fail;go_end0;rw[HX.out.2.2];exact⟨rfl,HX.out.1,HX.out.2.1⟩
theorem conv_neg {k:Nat} (h:k≤100000000):IntKind.u64.wrap (wrap64 (- -(k:Int)))=(k:Int):=by
 simp only[IntKind.wrap_u64,wrap64];omega
theorem dec_ShiftR (w:World) (B g:Nat) (S:Dec) (neg:Bool) (k:Nat) (z:Int) (hz:z= -(k:Int)) (h:DecSt w g S neg) (hok:S.Ok) (hk1:1≤k) (hk:k≤100000000) (hdp: -10000000000≤S.dp∧S.dp≤10000000000) (hB:B≤g):
  Calls Tryz.prog 326 #[.pointer (some ⟨g,0,none⟩),.int .i64 z] w fun e w'=>e= .returned (.tuple #[])∧DecSt w' g (Dec.shR k S) neg∧Below B w w':=by
 have hp:=hok.pos;obtain⟨n1,hn1⟩: ∃n1,S.nd=n1+1:=⟨S.nd-1,by omega⟩;have d0:w.cell? ⟨g,800,none⟩=some (.int .i64 ((n1:Int)+1)):=by rw[h.nd,hn1];rfl
 have q0:((n1:Int)+1=0)=False:=eq_false (by omega);have q1:((0:Int)<z)=False:=eq_false (by omega);have q2:(z<0)=True:=eq_true (by omega);obtain⟨T,hT⟩: ∃T,T=Dec.shR k S:=⟨_,rfl⟩;rw[←hT];have H:=Lib.hid h;have HOK:=Lib.hid hok;have HDP:=Lib.hid hdp;have HT:=Lib.hid hT;have HZ:=Lib.hid hz;clear h hok hdp hT hn1 hp hz;go_enter Tryz.func326,Tryz.ntmps326;go_wp2_with fail;go_loopg [1] k (fun gg t1 wr=> ∃(kk:Nat) (z:Int) (S2:Dec),Hid (gg=kk∧1≤kk∧kk≤k∧S2.Ok∧DecSt wr g S2 neg∧Below B w wr∧Dec.shR kk S2=T∧ -20000000000+20*(kk:Int)≤S2.dp∧S2.dp+20*(kk:Int)≤20000000000∧z= -(kk:Int))∧t1= .int .i64 z)
 case atStart=>exact⟨k,z,S,Lib.hid ⟨rfl,hk1,Nat.le_refl _,HOK.out,H.out,Below.refl _ _,HT.out.symm,by have:=HDP.out;omega,by have:=HDP.out;omega,HZ.out⟩,rfl⟩
 case round=>
  obtain⟨kk,z,S2,hI,rfl⟩:=hrel;have hz:=hI.out.2.2.2.2.2.2.2.2.2;have hkk:=hI.out.2.2.1;by_cases hb:60<kk
  ·have p1:(z< -60)=True:=eq_true (by omega);have hsub:wrap64 (z+60)= -((kk-60:Nat):Int):=by simp only[wrap64];omega
   have HS:=Lib.hid hsub;have hzb: -100000000≤z∧z<0:=by have:=hI.out.2.1;omega
   have HZZ:=Lib.hid hz;clear hz hsub;go_wp2_with fail;refine(dec_rs _ B g S2 neg 60 hI.out.2.2.2.2.1 hI.out.2.2.2.1 (by omega) (by omega) (by have:=hI.out.2.2.2.2.2.2.2;omega) hB).mono ?_;rintro e w3 ⟨rfl,hs3,hb3⟩;have h3:=rs_dp hI.out.2.2.2.1 (k:=60) (by omega) (by omega);have HX:=Lib.hid (And.intro hs3 (And.intro (hI.out.2.2.2.2.2.1.trans hb3) h3));clear hs3 hb3 h3;go_wp2_with fail;go_roundg (kk-60)
   case measure=>have:=hI.out.1;omega
   case rel=>
    have hdp:=hI.out.2.2.2.2.2.2.2;have h3:=HX.out.2.2;refine⟨kk-60,z+60,S2.rs 60,Lib.hid ⟨rfl,by omega,by omega,(Dec.rs_ok hI.out.2.2.2.1 (by omega) (by omega)).1,HX.out.1,HX.out.2.1,?_,by omega,by omega,by have:=HZZ.out;omega⟩,?_⟩
    ·rw[←Dec.shR_more hb];exact hI.out.2.2.2.2.2.2.1
    ·first|rfl|exact vint (by rw[HS.out];have:=HZZ.out;omega)
  ·have p1:(z< -60)=False:=eq_false (by omega);have hcv:IntKind.u64.wrap (wrap64 (-z))=(kk:Int):=by rw[hz];exact conv_neg (by omega)
   have hcv2:IntKind.u64.wrap (-z)=(kk:Int):=by simp only[IntKind.wrap_u64];omega
   have hzb: -60≤z∧z<0:=by have:=hI.out.2.1;omega
   have HZZ:=Lib.hid hz;clear hz;go_wp2_with fail;refine(dec_rs _ B g S2 neg kk hI.out.2.2.2.2.1 hI.out.2.2.2.1 hI.out.2.1 (by omega) (by have:=hI.out.2.2.2.2.2.2.2;omega) hB).mono ?_;rintro e w3 ⟨rfl,hs3,hb3⟩;have hT2:T=S2.rs kk:=by rw[←hI.out.2.2.2.2.2.2.1,Dec.shR_last (by omega)]
   have HX:=Lib.hid (And.intro hs3 (And.intro (hI.out.2.2.2.2.2.1.trans hb3) hT2));clear hs3 hb3 hT2;go_wp2_with fail;go_end0;rw[HX.out.2.2];exact⟨rfl,HX.out.1,HX.out.2.1⟩
theorem odd_val {d:Nat} (h1:48≤d) (h2:d≤57):(((d:Int)-48)%2 != 0)=decide ((d-48)%2≠0):=by
 rw[Bool.eq_iff_iff,bne_iff_ne,decide_eq_true_iff];omega
theorem dec_ge {d:Nat}:decide ((53:Int)≤(d:Int))=decide (53≤d):=by
 rw[Bool.eq_iff_iff,decide_eq_true_iff,decide_eq_true_iff];omega
theorem dec_sru_out (w:World) (g:Nat) (S:Dec) (neg:Bool) (n:Int) (h:DecSt w g S neg) (hn:n<0∨(S.nd:Int)≤n):
  Calls Tryz.prog 333 #[.pointer (some ⟨g,0,none⟩),.int .i64 n] w fun e w'=>e= .returned (.bool false)∧w'=w:=by
 have d0:=h.nd;have H:=Lib.hid h;clear h;rcases Int.lt_or_le n 0 with h0|h0
 ·have p0:(n<0)=True:=eq_true h0;go_enter Tryz.func333,Tryz.ntmps333;go_wp2_with fail;go_ret;exact⟨rfl,rfl⟩
 ·have p0:(n<0)=False:=eq_false (by omega);have p1:((S.nd:Int)≤n)=True:=eq_true (by omega);go_enter Tryz.func333,Tryz.ntmps333;go_wp2_with fail;go_ret;exact⟨rfl,rfl⟩
theorem dec_sru_in (w:World) (g:Nat) (S:Dec) (neg:Bool) (i:Nat) (h:DecSt w g S neg) (hok:S.Ok) (hi:i<S.nd):
  Calls Tryz.prog 333 #[.pointer (some ⟨g,0,none⟩),.int .i64 (i:Int)] w fun e w'=>e= .returned (.bool (sruAt S i))∧w'=w:=by
 obtain⟨T,hT⟩: ∃T,T=sruAt S i:=⟨_,rfl⟩;rw[←hT];have hle:=hok.le;have d0:=h.nd;have t0:=h.tr;have di:=h.dig i (by omega);have hdi:=hok.dig.1 i hi;have p0:((i:Int)<0)=False:=eq_false (by omega);have p1:((S.nd:Int)≤(i:Int))=False:=eq_false (by omega);have p2:((i:Int)<800)=True:=eq_true (by omega);by_cases h53:S.D i=53
 ·have e53:((S.D i:Int)==53)=true:=by rw[h53];rfl
  by_cases hl:i+1=S.nd
  ·have e1:((i:Int)+1==(S.nd:Int))=true:=by rw[beq_iff_eq];omega
   have hTT:T=(S.tr||oddAt S.D i):=by rw[hT,sruAt,if_pos ⟨h53,hl⟩]
   cases htr:S.tr
   ·rw[htr]at t0 hTT;have hT3:T=oddAt S.D i:=by rw[hTT,Bool.false_or]
    cases i with
    |zero=>
     have HX:=Lib.hid (show T=false by rw[hT3];rfl);have HH:=Lib.hid (And.intro h53 hl);clear hTT hT hT3 h hok h53 hl hdi;go_enter Tryz.func333,Tryz.ntmps333;go_wp2_with fail;go_ret;exact⟨ret_bool HX.out.symm,rfl⟩
    |succ q=>
     have dq:=h.dig q (by omega);have hdq:=hok.dig.1 q (by omega);have ho:=odd_val hdq.1 hdq.2;have HX:=Lib.hid (show T=decide ((S.D q-48)%2≠0)by rw[hT3,oddAt,decide_eq_true (by omega),Bool.true_and,Nat.add_sub_cancel]);have HH:=Lib.hid (And.intro h53 hl);have HO:=Lib.hid ho;clear hTT hT hT3 h hok h53 hl hdi hdq;go_enter Tryz.func333,Tryz.ntmps333;go_wp2_with fail;go_ret;exact⟨ret_bool (by rw[HX.out,Bool.eq_iff_iff,decide_eq_true_iff,decide_eq_true_iff];omega),rfl⟩
   ·rw[htr]at t0 hTT;have HX:=Lib.hid (show T=true by rw[hTT,Bool.true_or]);have HH:=Lib.hid (And.intro h53 hl);clear hTT hT h hok h53 hl hdi;go_enter Tryz.func333,Tryz.ntmps333;go_wp2_with fail;go_ret;exact⟨by rw[HX.out];rfl,rfl⟩
  ·have e1:((i:Int)+1==(S.nd:Int))=false:=by rw[beq_eq_false_iff_ne];omega
   have HX:=Lib.hid (show T=true by rw[hT,sruAt,if_neg (fun h=>hl h.2)];exact decide_eq_true (by omega));have p5:((53:Int)≤(S.D i:Int))=True:=eq_true (by omega);have HH:=Lib.hid (And.intro h53 hl);clear hT h hok h53 hl hdi;go_enter Tryz.func333,Tryz.ntmps333;go_wp2_with fail;go_ret;exact⟨ret_bool HX.out.symm,rfl⟩
 ·have e53:((S.D i:Int)==53)=false:=by rw[beq_eq_false_iff_ne];omega
  have HX:=Lib.hid (show T=decide (53≤S.D i)by rw[hT,sruAt,if_neg (fun h=>h53 h.1)]);have HH:=Lib.hid h53;clear hT h hok h53 hdi;go_enter Tryz.func333,Tryz.ntmps333;go_wp2_with fail;go_ret;exact⟨ret_bool (by rw[HX.out];exact dec_ge),rfl⟩
theorem dec_sru (w:World) (g:Nat) (S:Dec) (neg:Bool) (n:Int) (h:DecSt w g S neg) (hok:S.Ok):
  Calls Tryz.prog 333 #[.pointer (some ⟨g,0,none⟩),.int .i64 n] w fun e w'=>e= .returned (.bool (sru S n))∧w'=w:=by
 by_cases hn:n<0∨(S.nd:Int)≤n
 ·rw[sru,if_pos hn];exact dec_sru_out w g S neg n h hn
 ·rw[sru,if_neg hn];obtain⟨i,rfl⟩: ∃i:Nat,n=(i:Int):=⟨n.toNat,by omega⟩;exact dec_sru_in w g S neg i h hok (by omega)
theorem ri_step {a d M:Nat}:(a%M*10+d)%M=(a*10+d)%M:=by
 rw[Nat.add_mod,Nat.mod_mul_mod,←Nat.add_mod]
theorem ri_val {n d:Nat} (h1:48≤d) (h2:d≤57):IntKind.u64.wrap (IntKind.u64.wrap ((n:Int)*10)+((d:Int)-48))=(((n*10+(d-48))%18446744073709551616:Nat):Int):=by
 simp only[IntKind.wrap_u64];omega
theorem dec_ri (w:World) (g:Nat) (S:Dec) (neg:Bool) (h:DecSt w g S neg) (hok:S.Ok):
  Calls Tryz.prog 327 #[.pointer (some ⟨g,0,none⟩)] w fun e w'=>e= .returned (.int .u64 (riV S:Int))∧w'=w:=by
 obtain⟨T,hT⟩: ∃T,T=riV S:=⟨_,rfl⟩;rw[←hT];have d0:=h.nd;have d1:=h.dp;have H:=Lib.hid h;have HOK:=Lib.hid hok;have hle:=hok.le;by_cases h20:20<S.dp
 ·have p0:((20:Int)<S.dp)=True:=eq_true h20;have HT:=Lib.hid (show T=18446744073709551615 by rw[hT,riV,if_pos h20]);clear hT h hok;go_enter Tryz.func327,Tryz.ntmps327;go_wp2_with fail;go_ret;exact⟨ret_int (by rw[HT.out];rfl),rfl⟩
 ·have p0:((20:Int)<S.dp)=False:=eq_false h20;obtain⟨X,hX⟩: ∃X,X=S.dp.toNat:=⟨_,rfl⟩;have HT:=Lib.hid (show T=if sru S S.dp=true then(riPre S X+1)%18446744073709551616 else riPre S X by rw[hT,riV,if_neg h20,hX]);have hX20:X≤20:=by omega
  have hst: ∀i,(riPre S i*10+dgt S.D S.nd i)%18446744073709551616=riPre S (i+1):=fun i=>by rw[riPre,ri_step];rfl
  have HST:=Lib.hid hst;have HX:=Lib.hid hX;clear hT h hok hst hX;go_enter Tryz.func327,Tryz.ntmps327;go_upto_block 0 with fail
  go_cut [3,4]from 10 to 36 (fun t3 t4 wx=> ∃i:Nat,Hid (i≤X∧(i=X∨S.nd≤i))∧t3= .int .i64 (i:Int)∧t4= .int .u64 (riPre S i:Int)∧wx=w)
  case first=>
   go_wp2_with fail;go_loopg [3,4] 30 (fun gg t3 t4 wr=> ∃i:Nat,Hid (gg=30-i∧i≤X∧wr=w)∧t3= .int .i64 (i:Int)∧t4= .int .u64 (riPre S i:Int))
   case atStart=>exact⟨0,Lib.hid ⟨rfl,Nat.zero_le _,rfl⟩,rfl,rfl⟩
   case round=>
    obtain⟨i,hI,rfl,rfl⟩:=hrel;obtain rfl:wr=w:=hI.out.2.2;have hs:=HST.out i;by_cases h1:(i:Int)<S.dp
    ·have p1:((i:Int)<S.dp)=True:=eq_true h1;by_cases h2:i<S.nd
     ·have p2:((i:Int)<(S.nd:Int))=True:=eq_true (by omega);have p3:((i:Int)<800)=True:=eq_true (by omega);have di:=H.out.dig i (by omega);have hdi:=HOK.out.dig.1 i h2;rw[dgt,if_pos h2]at hs;have HS:=Lib.hid hs;have HDI:=Lib.hid hdi;have hiX:i+1≤X:=by have:=HX.out;omega
      clear hs;go_wp2_with fail;go_roundg (30-(i+1))
      case measure=>have:=hI.out.1;omega
      case rel=>exact⟨i+1,Lib.hid ⟨rfl,hiX,rfl⟩,rfl,by rw[←HS.out];exact vint (ri_val HDI.out.1 HDI.out.2)⟩
     ·have p2:((i:Int)<(S.nd:Int))=False:=eq_false (by omega);go_wp2_with fail;go_meet;exact⟨i,Lib.hid ⟨hI.out.2.1,.inr (by omega)⟩,rfl,rfl,rfl⟩
    ·have p1:((i:Int)<S.dp)=False:=eq_false h1;go_wp2_with fail;go_meet;exact⟨i,Lib.hid ⟨hI.out.2.1,.inl (by have:=HX.out;have:=hI.out.2.1;omega)⟩,rfl,rfl,rfl⟩
  case rest=>
   obtain⟨i0,hi0,rfl,rfl,rfl⟩:=hcut;go_wp2_with fail;go_loopg [3,4] (30-i0) (fun gg t3 t4 wr=> ∃i:Nat,Hid (gg=30-i∧i≤X∧(i=X∨S.nd≤i)∧wr=wc)∧t3= .int .i64 (i:Int)∧t4= .int .u64 (riPre S i:Int))
   case atStart=>exact⟨i0,Lib.hid ⟨rfl,hi0.out.1,hi0.out.2,rfl⟩,rfl,rfl⟩
   case round=>
    obtain⟨i,hI,rfl,rfl⟩:=hrel;obtain rfl:wr=wc:=hI.out.2.2.2;have hs:=HST.out i;by_cases h1:(i:Int)<S.dp
    ·have p1:((i:Int)<S.dp)=True:=eq_true h1;have hiX:i+1≤X:=by have:=HX.out;omega
     have hnd:S.nd≤i:=by have:=hI.out.2.2.1;omega
     rw[dgt,if_neg (by omega)]at hs;have HS:=Lib.hid hs;clear hs;go_wp2_with fail;go_roundg (30-(i+1))
     case measure=>have:=hI.out.1;omega
     case rel=>exact⟨i+1,Lib.hid ⟨rfl,hiX,.inr (by omega),rfl⟩,rfl,by rw[←HS.out];exact vint (by simp only[IntKind.wrap_u64];omega)⟩
    ·have p1:((i:Int)<S.dp)=False:=eq_false h1;have hiX:i=X:=by have:=HX.out;have:=hI.out.2.1;omega
     subst hiX;go_wp2_with fail;refine(dec_sru _ g S neg S.dp H.out HOK.out).mono ?_;rintro e w2 ⟨rfl,rfl⟩;cases hb:sru S S.dp
     ·have HB:=Lib.hid (show T=riPre S i by rw[HT.out,hb,if_neg (by simp)]);go_wp2_with fail;go_ret;exact⟨ret_int (by rw[HB.out]),rfl⟩
     ·have HB:=Lib.hid (show T=(riPre S i+1)%18446744073709551616 by rw[HT.out,hb,if_pos rfl]);go_wp2_with fail;go_ret;exact⟨ret_int (by rw[HB.out];simp only[IntKind.wrap_u64];omega),rfl⟩
end Go.Proofs.YtibcjfjacielbaaGreatDoor
