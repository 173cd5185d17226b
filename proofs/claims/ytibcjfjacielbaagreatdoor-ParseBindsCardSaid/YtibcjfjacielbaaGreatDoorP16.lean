import Derived.Test.YtibcjfjacielbaaGreatDoorP11
import Derived.Test.YtibcjfjacielbaaGreatDoorP13
import Derived.WalkMore
import Derived.ScopeJumps
import Derived.StillTailTactics
/- Part of the proof of YtibcjfjacielbaaGreatDoorCardP: DecG. -/
set_option maxRecDepth 100000
set_option maxHeartbeats 4000000
set_option linter.unusedVariables false
set_option linter.unusedSimpArgs false
namespace Go.Proofs.YtibcjfjacielbaaGreatDoor
open Go.RowKit
theorem DecAt.setDp' {w:World} {g:Nat} {D:Nat→Nat} {nd:Nat} {dp:Int} {neg tr:Bool} (h:DecAt w g D nd dp neg tr) {z z':Int} (hz:z=z'):DecAt (w.setCell ⟨g,801,none⟩ (.int .i64 z)) g D nd z' neg tr:=by
 subst hz;exact h.setDp z
theorem dec_set (s:ByteArray) (w:World) (B g mm i0:Nat) (E:Int) (hs:s.size≤600) (hm:MantOk s.data.toList mm) (hi0:i0<mm) (hd:digit (atB s.data.toList i0)=true)
  (h:DecAt w g (fun _=>0) 0 0 false false) (hB:B≤g)
  (hex:(mm=s.size∧E=0)∨ ∃j neg,ExpOk s.data.toList mm j neg∧E=if neg then-(eAt s.data.toList j s.size:Int)else(eAt s.data.toList j s.size:Int)):
  Calls Tryz.prog 306 #[.pointer (some ⟨g,0,none⟩),.string s] w fun e w'=>e= .returned (.bool true)∧DecSt w' g (dsV s.data.toList mm E) false∧Below B w w':=by
 have hml:mm≤s.size:=by have:=hm.1;rwa [len_data]at this
 have q0:((s.size:Int)≤0)=False:=eq_false (by omega);have h0s:0<s.size:=by omega
 have hs1:s≠ByteArray.empty:=by intro h;rw[h]at h0s;simp at h0s
 have hc0:=hm.2 0 (by omega);have hn0:(s[0].toNat:Int)≠43∧(s[0].toNat:Int)≠45:=by
  rw[atB_lt h0s]at hc0;rcases hc0 with h|h
  ·have:=digit_fits h;omega
  ·omega
 have e43:((s[0].toNat:Int)==43)=false:=beq_eq_false_iff_ne.2 hn0.1;have e45:((s[0].toNat:Int)==45)=false:=beq_eq_false_iff_ne.2 hn0.2;have d2:=h.neg;have d3:=h.tr;have f2:=h.free 802;have f3:=h.free 803;have HM:=Lib.hid hm;have HD:=Lib.hid hd;have HEX:=Lib.hid hex;have H1:=Lib.hid ((h.setNeg false).setTr false);have HB1:=Lib.hid (((Below.refl B w).setCell (p:=⟨g,802,none⟩) hB (.bool false)).setCell (p:=⟨g,803,none⟩) hB (.bool false));clear hm hd hex h hc0 hn0;go_enter Tryz.func306,Tryz.ntmps306;go_upto_region 11 with fail
 generalize hw1:(w.setCell _ _).setCell _ _=w1;rw[hw1]at H1 HB1;obtain⟨DD,NN,PP,dt,hR⟩: ∃DD NN PP dt,dsAt s.data.toList mm=⟨DD,NN,PP,dt⟩:=⟨_,_,_,_,rfl⟩;have HR:=Lib.hid hR;clear d2 d3 f2 f3 hw1 hR;go_upto_block 1 with fail
 go_cut [5,6,7]from 34 to 116 (fun t5 t6 t7 wx=>t5= .int .i64 (mm:Int)∧t6= .bool dt∧t7= .bool true∧Hid (DecAt wx g DD NN PP false false∧Below B w wx))
 case first=>
  go_wp2_with fail;go_loopw [5,6,7] (fun t5 t6 t7 wr=> ∃(k N:Nat) (D:Nat→Nat) (P:Int) (dt dg:Bool),Hid (dsAt s.data.toList k=⟨D,N,P,dt⟩∧k≤mm∧DecAt wr g D N P false false∧Below B w wr∧(i0<k→dg=true))∧t5= .int .i64 (k:Int)∧t6= .bool dt∧t7= .bool dg) (fun t5 _ _ _=>s.size-(intOf t5).toNat)
  case atStart=>exact⟨0,0,fun _=>0,0,false,false,Lib.hid ⟨dsAt_zero _,Nat.zero_le _,H1.out,HB1.out,fun h=>absurd h (Nat.not_lt_zero _)⟩,rfl,rfl,rfl⟩
  case round=>
   obtain⟨k,N,D,P,dt1,dg,hI,rfl,rfl,rfl⟩:=hrel;have hkm:=hI.out.2.1;have hok:=dsAt_ok HM.out k hkm;rw[hI.out.1]at hok;have n1:=hok.nd;have n2:=hok.dp;simp only at n1 n2;have d0:=hI.out.2.2.1.nd;have d1:=hI.out.2.2.1.dp;have f0:=hI.out.2.2.1.free 800;have f1:=hI.out.2.2.1.free 801;by_cases hlt:k<mm
   ·have hks:k<s.size:=by omega
    have hat:atB s.data.toList k=s[k]:=atB_lt hks;have q1:((k:Int)<(s.size:Int))=True:=eq_true (by omega);have hcl:=HM.out.2 k hlt;rw[hat]at hcl;have hkl:k<s.data.toList.length:=by rw[len_data];exact hks
    rcases hcl with hdg|⟨h46,hno⟩
    ·have hdf:=digit_fits hdg;have e95:((s[k].toNat:Int)==95)=false:=beq_eq_false_iff_ne.2 (by omega);have e46:((s[k].toNat:Int)==46)=false:=beq_eq_false_iff_ne.2 (by omega);have g1:((48:Int)≤(s[k].toNat:Int))=True:=eq_true (by omega);have g2:((s[k].toNat:Int)≤57)=True:=eq_true (by omega);by_cases hz:s[k].toNat=48∧N=0
     ·obtain⟨h48,rfl⟩:=hz;have e48:((s[k].toNat:Int)==48)=true:=by rw[h48];rfl
      have HN:=Lib.hid (ds_zero hI.out.1 hkl (by rw[hat];exact h48));clear hat hdg hok h48;go_wp2_with fail;go_roundw
      case rel=>exact⟨k+1,0,D,P-1,dt1,true,Lib.hid ⟨HN.out,hlt,DecAt.setDp' hI.out.2.2.1 (by first|rfl|(simp only[wrap64];omega)),hI.out.2.2.2.1.setCell (p:=⟨g,801,none⟩) hB _,fun _=>rfl⟩,rfl,rfl,rfl⟩
      case measure=>exact meas_i64 hks
     ·have HN:=Lib.hid (ds_in hI.out.1 hkl (by rw[hat];omega) (by rw[hat];exact hz));have p8:((N:Int)<800)=True:=eq_true (by omega);have p8n:N<800:=by omega
      have hc:((s[k].toNat:Int)==48)=false∨((s[k].toNat:Int)==48)=true∧((N:Int)==0)=false:=by
       by_cases h:s[k].toNat=48
       ·exact .inr ⟨by rw[h];rfl,beq_eq_false_iff_ne.2 (by omega)⟩
       ·exact .inl (beq_eq_false_iff_ne.2 (by omega))
      have HAT:=Lib.hid hat;clear hat hdg hok hz hdf;rcases hc with e48|⟨e48,eN⟩
      all_goals
       go_wp2_with fail;go_still_tail 11,(by kernel_rfl);change wpList _ _ _ _ _ (wr.drewN 1);have hI2:DecAt (wr.drewN 1) g D N P false false:=hI.out.2.2.1.drew 1;have hb2:=Go.below_drewN hI.out.2.2.2.1 1;clear d0 d1 f0 f1;generalize wr.drewN 1=w2 at hI2 hb2 ⊢
       have d0:=hI2.nd;have f0:=hI2.free 800;have dj:=hI2.dig N p8n;have fj:=hI2.free N;obtain⟨v0,hv0⟩: ∃v0,v0=Value.int .u8 (D N:Int):=⟨_,rfl⟩;rw[←hv0]at dj;have H2:=Lib.hid hI2;have HB2:=Lib.hid hb2;clear hI2 hb2 hv0;go_wp2_with fail;go_roundw
       case rel=>
        have hn:=HN.out;rw[HAT.out]at hn;exact⟨k+1,N+1,_,P,dt1,true,Lib.hid ⟨hn,hlt,(H2.out.setDig p8n rfl).setNd (by first|rfl|(simp only[wrap64];omega)),(HB2.out.setCell (p:=⟨g,N,none⟩) hB _).setCell (p:=⟨g,800,none⟩) hB _,fun _=>rfl⟩,rfl,rfl,rfl⟩
       case measure=>exact meas_i64 hks
    ·have e95:((s[k].toNat:Int)==95)=false:=beq_eq_false_iff_ne.2 (by omega);have e46:((s[k].toNat:Int)==46)=true:=by rw[h46];rfl
     have hdt:dt1=false:=by
      have:=dsAt_dot k (by omega) hno;rw[hI.out.1]at this;exact this
     subst hdt;have HN:=Lib.hid (ds_pt hI.out.1 hkl (by rw[hat];exact h46));have hik:i0<k+1→i0<k:=by
      intro h;rcases Nat.lt_or_ge i0 k with h1|h1
      ·exact h1
      ·have:i0=k:=by omega
       subst this;have:=digit_fits HD.out;rw[hat]at this;omega
     have HIK:=Lib.hid hik;clear hat hok h46 hno hik;go_wp2_with fail;go_roundw
     case rel=>exact⟨k+1,N,D,N,true,dg,Lib.hid ⟨HN.out,hlt,hI.out.2.2.1.setDp _,hI.out.2.2.2.1.setCell (p:=⟨g,801,none⟩) hB _,fun h=>hI.out.2.2.2.2 (HIK.out h)⟩,rfl,rfl,rfl⟩
     case measure=>exact meas_i64 hks
   ·have hkeq:k=mm:=by omega
    subst hkeq;have he:=hI.out.1;rw[HR.out]at he;injection he with j1 j2 j3 j4
    subst j1 j2 j3 j4;have hdg:dg=true:=hI.out.2.2.2.2 hi0;subst hdg;clear hok hlt;rcases Nat.lt_or_ge k s.size with hks|hks
    ·have q1:((k:Int)<(s.size:Int))=True:=eq_true (by omega);have hE:s[k].toNat=101∨s[k].toNat=69:=by
      rcases HEX.out with h|⟨j,neg,hex,_⟩
      ·omega
      ·have:=hex.isE;rw[atB_lt hks]at this;simp[isE]at this;exact this
     have e95:((s[k].toNat:Int)==95)=false:=beq_eq_false_iff_ne.2 (by omega);have e46:((s[k].toNat:Int)==46)=false:=beq_eq_false_iff_ne.2 (by omega);have g1:((48:Int)≤(s[k].toNat:Int))=True:=eq_true (by omega);have g2:((s[k].toNat:Int)≤57)=False:=eq_false (by omega);clear hE;go_wp2_with fail;go_meet;exact⟨rfl,rfl,rfl,Lib.hid ⟨hI.out.2.2.1,hI.out.2.2.2.1⟩⟩
    ·have q1:((k:Int)<(s.size:Int))=False:=eq_false (by omega);go_wp2_with fail;go_meet;exact⟨rfl,rfl,rfl,Lib.hid ⟨hI.out.2.2.1,hI.out.2.2.2.1⟩⟩
 case rest=>
  obtain⟨rfl,rfl,rfl,hX⟩:=hcut;obtain⟨P2,hP2⟩: ∃P2,P2=(if dt=true then PP else(NN:Int)):=⟨_,rfl⟩;have hok:=dsAt_ok HM.out mm (Nat.le_refl _);have hV:dsV s.data.toList mm E=⟨DD,NN,P2+E,false⟩:=by rw[dsV,HR.out,hP2]
  have HV:=Lib.hid hV;rw[HR.out]at hok;have hb2: -1000≤P2∧P2≤1000:=by
   have n1:=hok.nd;have n2:=hok.dp;simp only at n1 n2;rw[hP2];split<;>omega
  have HP2:=Lib.hid hP2;clear hok hV hP2;go_upto_if 120 with fail
  go_cut []from 121 to 127 (fun wx=>Hid (DecAt wx g DD NN P2 false false∧Below B w wx))
  case first=>
   have d0:=hX.out.1.nd;have d1:=hX.out.1.dp;have f1:=hX.out.1.free 801;cases dt
   ·go_wp2_with fail;go_meet;exact Lib.hid ⟨hX.out.1.setDp' (by rw[HP2.out];rfl),hX.out.2.setCell (p:=⟨g,801,none⟩) hB _⟩
   ·go_wp2_with fail;go_meet;exact Lib.hid ⟨by have:=hX.out.1;rw[HP2.out];exact this,hX.out.2⟩
  case rest=>
   clear hX HP2;rcases HEX.out with⟨hmm,hE0⟩|⟨j,neg,hex,hE⟩
   ·have q1:((mm:Int)<(s.size:Int))=False:=eq_false (by omega);have q2:((mm:Int) != (s.size:Int))=false:=by rw[hmm];simp
    have HE0:=Lib.hid hE0;clear hE0;go_wp2_with fail;go_ret;rw[HV.out,HE0.out,Int.add_zero];exact⟨rfl,hcut.out.1,hcut.out.2⟩
   ·have hks:=hex.lt;rw[len_data]at hks;have hjs:=hex.some;rw[len_data]at hjs;have q1:((mm:Int)<(s.size:Int))=True:=eq_true (by omega);have hE1:s[mm].toNat=101∨s[mm].toNat=69:=by
     have:=hex.isE;rw[atB_lt hks]at this;simp[isE]at this;exact this
    have elow:(bits .or .u8 ((s[mm].toNat:Nat):Int) 32==101)=true:=by
     rw[show bits .or .u8 ((s[mm].toNat:Nat):Int) 32=((s[mm].toNat|||32:Nat):Int)from u8_or_nat s[mm].toNat 32 (UInt8.toNat_lt _) (by omega)];rcases hE1 with h|h<;>(rw[h];rfl)
    have hmj:mm+1≤j:=by rcases hex.sign with h|h|h<;>omega
    have hk1:mm+1<s.size:=by omega
    have q2:((s.size:Int)≤(mm:Int)+1)=False:=eq_false (by omega);have hHE:=Lib.hid hE;have HX:=Lib.hid hex;have HEL:=Lib.hid elow;clear hE hex elow;go_wp2_with fail;refine(Tryz.internal_strconv_lower _ _).mono ?_;rintro e w' ⟨rfl,rfl⟩;have elow:=HEL.out;go_upto_block 4 with fail
    obtain⟨en,hen⟩: ∃en,en=eAt s.data.toList j s.size:=⟨_,rfl⟩;obtain⟨sg,hsg⟩: ∃sg:Int,sg=if neg=true then-1 else 1:=⟨_,rfl⟩
    have HS:=Lib.hid hsg;have HEN:=Lib.hid hen;clear hsg hen;go_cut [5,8]from 148 to 155 (fun t5 t8 wx=>t5= .int .i64 (j:Int)∧t8= .int .i64 sg∧wx=w')
    case first=>
     have hat1:=atB_lt (s:=s) hk1;rcases HX.out.sign with⟨h1,h2,h3⟩|⟨h1,h2,h3⟩|⟨h1,h2,h3⟩
     ·subst h1;rw[hat1]at h3;have h4:=digit_fits h3;have e43:((s[mm+1].toNat:Int)==43)=false:=beq_eq_false_iff_ne.2 (by omega);have e45:((s[mm+1].toNat:Int)==45)=false:=beq_eq_false_iff_ne.2 (by omega);have hs1:sg=1:=by rw[HS.out,h2];rfl
      have HS1:=Lib.hid hs1;clear hs1 h3 h4;go_wp2_with fail;go_meet;exact⟨rfl,by rw[HS1.out],rfl⟩
     ·subst h1;rw[hat1]at h3;have e43:((s[mm+1].toNat:Int)==43)=true:=by rw[h3];rfl
      have hs1:sg=1:=by rw[HS.out,h2];rfl
      have HS1:=Lib.hid hs1;clear hs1 h3;go_wp2_with fail;go_meet;exact⟨rfl,by rw[HS1.out],rfl⟩
     ·subst h1;rw[hat1]at h3;have e43:((s[mm+1].toNat:Int)==43)=false:=by rw[h3];rfl
      have e45:((s[mm+1].toNat:Int)==45)=true:=by rw[h3];rfl
      have hs1:sg= -1:=by rw[HS.out,h2];rfl
      have HS1:=Lib.hid hs1;clear hs1 h3;go_wp2_with fail;go_meet;exact⟨rfl,by rw[HS1.out],rfl⟩
    case rest=>
     obtain⟨rfl,rfl,rfl⟩:=hcut;have hdj:=HX.out.digs j (Nat.le_refl _) (by rw[len_data];exact hjs);rw[atB_lt hjs]at hdj;have hjf:=digit_fits hdj;have p0:((s.size:Int)≤(j:Int))=False:=eq_false (by omega);have p1:((s[j].toNat:Int)<48)=False:=eq_false (by omega);have p2:((57:Int)<(s[j].toNat:Int))=False:=eq_false (by omega);clear hdj hjf;go_wp2_with fail;go_loopw [5,9] (fun t5 t9 wr=> ∃(i e:Nat),Hid (eAt s.data.toList j i=e∧j≤i∧i≤s.size∧wr=wc)∧t5= .int .i64 (i:Int)∧t9= .int .i64 (e:Int)) (fun t5 _ _=>s.size-(intOf t5).toNat)
     case atStart=>exact⟨j,0,Lib.hid ⟨eAt_start _ _,Nat.le_refl _,by omega,rfl⟩,rfl,rfl⟩
     case round=>
      obtain⟨i,e,hI,rfl,rfl⟩:=hrel;have hel:e≤100009:=by
       rw[←hI.out.1];exact eAt_le i hI.out.2.1 (by rw[len_data];exact hI.out.2.2.1) fun i' h1 h2=>HX.out.digs i' h1 (by rw[len_data];have:=hI.out.2.2.1;omega)
      by_cases hi:i<s.size
      ·have hdi:=HX.out.digs i hI.out.2.1 (by rw[len_data];exact hi);rw[atB_lt hi]at hdi;have hif:=digit_fits hdi;have hsucc:eAt s.data.toList j (i+1)=eStep e s[i]:=by rw[eAt_succ hI.out.2.1 (by rw[len_data];exact hi),hI.out.1,atB_lt hi]
       have HSC:=Lib.hid hsucc;have p1:((i:Int)<(s.size:Int))=True:=eq_true (by omega);have g2:((48:Int)≤(s[i].toNat:Int))=True:=eq_true (by omega);have g3:((s[i].toNat:Int)≤57)=True:=eq_true (by omega);have g4:((s[i].toNat:Int)==95)=false:=beq_eq_false_iff_ne.2 (by omega);clear hdi hsucc p2;by_cases h4:e<10000
       ·have p5:((e:Int)<10000)=True:=eq_true (by omega);have HST:=Lib.hid (HSC.out.trans (by rw[eStep,if_pos h4]:eStep e s[i]=e*10+(s[i].toNat-48)));go_wp2_with fail;go_roundw
        case rel=>exact⟨i+1,e*10+(s[i].toNat-48),Lib.hid ⟨HST.out,by have:=hI.out.2.1;omega,hi,hI.out.2.2.2⟩,rfl,vint (by first|omega|(simp only[wrap64];omega))⟩
        case measure=>exact meas_i64 hi
       ·have p5:((e:Int)<10000)=False:=eq_false (by omega);have HST:=Lib.hid (HSC.out.trans (by rw[eStep,if_neg h4]:eStep e s[i]=e));go_wp2_with fail;go_roundw
        case rel=>exact⟨i+1,e,Lib.hid ⟨HST.out,by have:=hI.out.2.1;omega,hi,hI.out.2.2.2⟩,rfl,rfl⟩
        case measure=>exact meas_i64 hi
      ·have hie:i=s.size:=by have:=hI.out.2.2.1;omega
       subst hie;have p1:((s.size:Int)<(s.size:Int))=False:=eq_false (by omega);have p3:((s.size:Int) != (s.size:Int))=false:=by simp
       have hw:=hI.out.2.2.2;subst hw;have d1:=hcut.out.1.dp;have f1:=hcut.out.1.free 801;have hE:E=(e:Int)*sg:=by
        rw[hHE.out,←hI.out.1,HS.out];cases neg
        ·simp
        ·simp
       have HEE:=Lib.hid hE;have hsg:sg=1∨sg= -1:=by rw[HS.out];cases neg<;>simp
       clear hE p2 hi;go_wp2_with fail;go_goals;go_ret;rw[HV.out,HEE.out];refine⟨rfl,DecAt.setDp' hcut.out.1 ?_,hcut.out.2.setCell (p:=⟨g,801,none⟩) hB _⟩;rcases hsg with rfl|rfl<;>(simp only[wrap64];omega)
end Go.Proofs.YtibcjfjacielbaaGreatDoor
