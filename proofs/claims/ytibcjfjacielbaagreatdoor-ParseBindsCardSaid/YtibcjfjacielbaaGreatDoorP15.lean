import Derived.Test.YtibcjfjacielbaaGreatDoorP10
import Derived.Test.YtibcjfjacielbaaGreatDoorP14
import Derived.LaidEqlPtr
/- Part of the proof of YtibcjfjacielbaaGreatDoorCardP: FhA. -/
set_option maxRecDepth 100000
set_option maxHeartbeats 4000000
set_option linter.unusedVariables false
set_option linter.unusedSimpArgs false
namespace Go.Proofs.YtibcjfjacielbaaGreatDoor
open Go.RowKit
theorem InfoAt.drew {w:World} (h:InfoAt w) (n:Nat):InfoAt (w.drewN n):=⟨h.mant,h.ebits,h.bias,h.lt⟩
theorem and1_val {m:Nat} (h:m<18446744073709551616):bits .and .u64 (m:Int) 1=(m:Int)%2:=
 (u64_and_nat m 1 h (by omega)).trans (by rw[Nat.and_one_is_mod];rfl)
theorem half_val {m:Nat} (h:m<18446744073709551616):bits .or .u64 ((m:Int)/2) ((m:Int)%2)=((m/2|||m%2:Nat):Int):=by
 have h1:=u64_or_nat (m/2) (m%2) (by omega) (by omega);exact h1
structure PtrAt (w:World):Prop where
 a: ∃ca ta,w.heap[7]? =some (.cells ca ta (0,0))
 b: ∃cb tb,w.heap[5]? =some (.cells cb tb (0,0))
theorem info_size:(Tryz.prog.info? 342).map (·.size)=some 3:=by kernel_rfl
theorem info_ne {w:World} (h:PtrAt w):(binOp .eql 340 (.pointer (some ⟨7,0,none⟩)) (.pointer (some ⟨5,0,none⟩))).run Tryz.prog w= .ok (.bool false) w:=by
 have hs:=info_size;rcases hi:Tryz.prog.info? 342 with _|j
 ·rw[hi]at hs;simp at hs
 ·rw[hi]at hs;obtain⟨ca,ta,ha⟩:=h.a;obtain⟨cb,tb,hb⟩:=h.b;have hj:j.size≠0:=by
   have:j.size=3:=by simpa using hs
   omega
  exact run_eql_ptr_other w Tryz.underlying340 hi hj (by simp) ha hb
theorem PtrAt.drew {w:World} (h:PtrAt w) (n:Nat):PtrAt (w.drewN n):=⟨h.a,h.b⟩
theorem and3_val {m:Nat} (h:m<18446744073709551616):bits .and .u64 (m:Int) 3=((m&&&3:Nat):Int):=u64_and_nat m 3 h (by omega)
theorem and4_val {m:Nat} (h:m<18446744073709551616):bits .and .u64 ((m:Int)/4) 1=(m:Int)/4%2:=by
 have h1:=and1_val (m:=m/4) (by omega);exact h1
theorem or4_val {m:Nat}:bits .or .u64 ((m&&&3:Nat):Int) ((m:Int)/4%2)=(hxR m:Int):=by
 have h1:m&&&3≤3:=Nat.and_le_right;have h2:=u64_or_nat (m&&&3) (m/4%2) (by omega) (by omega);exact h2
theorem fp_hex (s:ByteArray) (m:Nat) (p:Int) (tr:Bool) (w:World) (hm:m<18446744073709551616) (hp: -500≤p∧p≤10000) (hi:InfoAt w) (hpt:PtrAt w):
  Calls Tryz.prog 301 #[.string s,.pointer (some ⟨7,0,none⟩),.int .u64 (m:Int),.int .i64 p,.bool false,.bool tr] w fun e w'=>e= .returned (.tuple #[.float .f64 (hxV m p tr).1,rngV (hxV m p tr).2])∧ ∃k,w'=w.drewN k:=by
 obtain⟨T,hT⟩: ∃T,T=hxV m p tr:=⟨_,rfl⟩;rw[←hT];obtain⟨T1,hT1⟩: ∃T1,T1=hx1 54 m (p+52):=⟨_,rfl⟩;obtain⟨T2,hT2⟩: ∃T2,T2=hx2 9 (hxTr T1.1 tr) T1.2:=⟨_,rfl⟩;have hTT:T=hxRnd T2.1 T2.2:=by rw[hT,hxV,hT2,hT1]
 have s1:=hx1_spec 54 m (p+52) (fun h=>by
  have h1:1≤m:=by omega
  omega) hm
 rw[←hT1]at s1;have i0:=hi.mant;have i1:=hi.ebits;have i2:=hi.bias;have HI:=Lib.hid hi;have HT:=Lib.hid hTT;have HT1:=Lib.hid hT1;have HT2:=Lib.hid hT2;have HS1:=Lib.hid s1;clear hi hTT hT1 hT2 hT s1;go_enter Tryz.func301,Tryz.ntmps301;go_wp2_with fail;go_quiet (fail);obtain⟨n1,hn1⟩: ∃n1,n1=nq:=⟨_,rfl⟩;rw[←hn1];have HI1:=Lib.hid (HI.out.drew n1);have HPT:=Lib.hid (hpt.drew n1);clear i0 i1 i2 HI hn1 hpt;obtain⟨w1,hw1⟩: ∃w1,w1=w.drewN n1:=⟨_,rfl⟩;rw[←hw1];have i0:=HI1.out.mant;have i1:=HI1.out.ebits;have i2:=HI1.out.bias;rw[←hw1]at HI1 HPT i0 i1 i2;have HW:Hid (∃k,w1=w.drewN k):=Lib.hid ⟨_,hw1⟩;clear hw1;go_upto_block 0 with fail
 go_cut [2,3]from 42 to 57 (fun t2 t3 wx=>t2= .int .u64 (T1.1:Int)∧t3= .int .i64 T1.2∧wx=w1)
 case first=>
  go_wp2_with fail;go_loopg [2,3] 54 (fun gg t2 t3 wr=> ∃(mm:Nat) (e:Int),Hid (hx1 gg mm e=T1∧(mm≠0→18014398509481984≤mm*2^gg)∧mm<18446744073709551616∧ -1000+(gg:Int)≤e∧e≤20000∧wr=w1)∧t2= .int .u64 (mm:Int)∧t3= .int .i64 e)
  case atStart=>
   refine⟨m,p+52,Lib.hid ⟨HT1.out.symm,?_,hm,by omega,by omega,rfl⟩,rfl,vint (by first|rfl|(simp only[wrap64];omega))⟩;intro h;have h1:1≤m:=by omega
   omega
  case round=>
   obtain⟨mm,e,hI,rfl,rfl⟩:=hrel;have hw:=hI.out.2.2.2.2.2;subst hw;have he:=hI.out.2.2.2.1;have he2:=hI.out.2.2.2.2.1;by_cases h1:mm≠0∧mm<18014398509481984
   ·have q1:((mm:Int) != 0)=true:=by rw[bne_iff_ne];omega
    have q2:((mm:Int)/18014398509481984==0)=true:=by rw[beq_iff_eq];omega
    have hm2:mm<18014398509481984:=h1.2;obtain⟨g,hg⟩: ∃g,gk=g+1:=by
     rcases Nat.eq_zero_or_pos gk with h0|h0
     ·have:=hI.out.2.1 h1.1;rw[h0]at this;omega
     ·exact⟨gk-1,by omega⟩
    have hst:hx1 g (mm*2) (e-1)=T1:=by rw[←hI.out.1,hg,hx1,if_pos h1]
    have hb:mm*2≠0→18014398509481984≤mm*2*2^g:=fun _=>by
     have:=hI.out.2.1 h1.1;rw[hg,Nat.pow_succ]at this;rw[Nat.mul_assoc,Nat.mul_comm 2];exact this
    have HX:=Lib.hid (And.intro hst (And.intro hb hg));clear hst hb hg;go_wp2_with fail;go_roundg g
    case measure=>have:=HX.out.2.2;omega
    case rel=>
     have hg:=HX.out.2.2;exact⟨mm*2,e-1,Lib.hid ⟨HX.out.1,HX.out.2.1,by omega,by omega,by omega,rfl⟩,rfl,vint (by first|rfl|(simp only[wrap64];omega))⟩
   ·have hT1e:T1=(mm,e):=by rw[←hI.out.1];exact hx1_end h1 _ _
    have HTE:=Lib.hid hT1e;have hc:((mm:Int) != 0)=false∨((mm:Int) != 0)=true∧((mm:Int)/18014398509481984==0)=false:=by
     by_cases h0:mm=0
     ·left;rw[h0];rfl
     ·right;refine⟨by rw[bne_iff_ne];omega,beq_eq_false_iff_ne.2 (by omega)⟩
    clear hT1e;rcases hc with q1|⟨q1,q2⟩
    all_goals
     go_wp2_with fail;go_meet;rw[HTE.out];exact⟨rfl,rfl,rfl⟩
 case rest=>
  obtain⟨rfl,rfl,rfl⟩:=hcut;obtain⟨m1,e1⟩:=T1;have hs1:=HS1.out;simp only at hs1 ⊢
  obtain⟨m2,hm2⟩: ∃m2,m2=hxTr m1 tr:=⟨_,rfl⟩;have hms:=hs1.1;have hm264:m2<18446744073709551616:=by
   rw[hm2,hxTr];split
   ·exact Nat.or_lt_two_pow (n:=64) hms (by omega)
   ·exact hms
  have hor:bits .or .u64 (m1:Int) 1=((m1|||1:Nat):Int):=u64_or_nat m1 1 hms (by omega);have HM2:=Lib.hid hm2;clear hm2;go_upto_if 58 with fail
  go_cut [2]from 59 to 60 (fun t2 wx=>t2= .int .u64 (m2:Int)∧wx=wc)
  case first=>
   cases tr
   ·go_wp2_with fail;go_meet;rw[HM2.out];exact⟨rfl,rfl⟩
   ·go_wp2_with fail;go_meet;rw[HM2.out];exact⟨rfl,rfl⟩
  case rest=>
   obtain⟨rfl,rfl⟩:=hcut;have HMB:=Lib.hid hm264;have hT2e:=HT2.out;simp only at hT2e;rw[←HM2.out]at hT2e;have HTE:=Lib.hid hT2e;clear hT2e hor hms HM2;have s2:=hx2_spec 9 m2 e1 hm264;rw[←HTE.out]at s2;have HS2:=Lib.hid s2;clear s2 hm264;go_wp2_with fail;go_loopg [2,3] 9 (fun gg t2 t3 wr=> ∃(mm:Nat) (e:Int),Hid (hx2 gg mm e=T2∧mm<2^(55+gg)∧mm<18446744073709551616∧ -1000≤e∧e+(gg:Int)≤30000∧wr=wc)∧t2= .int .u64 (mm:Int)∧t3= .int .i64 e)
   case atStart=>exact⟨m2,e1,Lib.hid ⟨HTE.out.symm,HMB.out,HMB.out,by omega,by omega,rfl⟩,rfl,rfl⟩
   case round=>
    obtain⟨mm,e,hI,rfl,rfl⟩:=hrel;have hw:=hI.out.2.2.2.2.2;subst hw;have he:=hI.out.2.2.2.1;have he2:=hI.out.2.2.2.2.1;have hmb:=hI.out.2.2.1;by_cases h1:36028797018963968≤mm
    ·have q1:((mm:Int)/36028797018963968 != 0)=true:=by rw[bne_iff_ne];omega
     obtain⟨g,hg⟩: ∃g,gk=g+1:=by
      rcases Nat.eq_zero_or_pos gk with h0|h0
      ·have:=hI.out.2.1;rw[h0]at this;omega
      ·exact⟨gk-1,by omega⟩
     have a1:=and1_val hmb;have hst:hx2 g (mm/2|||mm%2) (e+1)=T2:=by rw[←hI.out.1,hg,hx2,if_pos h1]
     have hb:mm/2|||mm%2<2^(55+g):=half_or (by have:=hI.out.2.1;rw[hg,show 55+(g+1)=(55+g)+1 by omega,Nat.pow_succ]at this;omega) (by omega);have hb2:mm/2|||mm%2<9223372036854775808:=half_or (n:=63) (by omega) (by omega);have o1:=half_val hmb;have HX:=Lib.hid (And.intro hst (And.intro hb (And.intro hg hb2)));clear hst hb hg hb2;go_wp2_with fail;go_roundg g
     case measure=>have:=HX.out.2.2.1;omega
     case rel=>
      have hg:=HX.out.2.2.1;have hb2:=HX.out.2.2.2;exact⟨mm/2|||mm%2,e+1,Lib.hid ⟨HX.out.1,HX.out.2.1,by omega,by omega,by omega,rfl⟩,rfl,vint (by first|rfl|(simp only[wrap64];omega))⟩
    ·have q1:((mm:Int)/36028797018963968 != 0)=false:=by rw[bne_eq_false_iff_eq];omega
     have hT2e2:T2=(mm,e):=by rw[←hI.out.1];exact hx2_end h1 _ _
     have hs2:=HS2.out;rw[hT2e2]at hs2;have HTT:Hid (T=hxRnd mm e):=Lib.hid (by rw[HT.out,hT2e2]);simp only at hs2;have he3: -600≤e∧e≤20000:=by omega
     have hm55:mm<36028797018963968:=by omega
     clear hI hT2e2 hs2 HT HT1 HT2 HS1 HS2 HMB HTE he he2;go_upto_block 4 with fail
     go_cut [2,3]from 77 to 91 (fun t2 t3 wx=>t2= .int .u64 (mm:Int)∧t3= .int .i64 e∧wx=wr)
     case first=>
      go_wp2_with fail;go_loopw [2,3] (fun t2 t3 w2=>t2= .int .u64 (mm:Int)∧t3= .int .i64 e∧w2=wr) (fun _ _ _=>0)
      case atStart=>exact⟨rfl,rfl,rfl⟩
      case round=>
       obtain⟨rfl,rfl,rfl⟩:=hrel;have q3:(e< -1024)=False:=eq_false (by omega);rcases Nat.lt_or_ge 1 mm with h2|h2
       ·have q4:((1:Int)<(mm:Int))=True:=eq_true (by omega);go_wp2_with fail;go_meet;exact⟨rfl,rfl,rfl⟩
       ·have q4:((1:Int)<(mm:Int))=False:=eq_false (by omega);go_wp2_with fail;go_meet;exact⟨rfl,rfl,rfl⟩
     case rest=>
      obtain⟨rfl,rfl,rfl⟩:=hcut;obtain⟨R,hR⟩: ∃R,R=hxR mm:=⟨_,rfl⟩;have HRR:=Lib.hid hR;have a3:=and3_val (m:=mm) (by omega);have a4:=and4_val (m:=mm) (by omega);have o4:bits .or .u64 ((mm&&&3:Nat):Int) ((mm:Int)/4%2)=(R:Int):=by rw[hR];exact or4_val
      clear hR;go_upto_if 103 with fail
      go_cut [2,3]from 104 to 117 (fun t2 t3 wx=> ∃(m3:Nat) (e3:Int),t2= .int .u64 (m3:Int)∧t3= .int .i64 e3∧Hid (T=hxDen m3 e3∧m3<9007199254740993∧ -600≤e3∧e3≤20003)∧wx=wc)
      case first=>
       by_cases hr3:R=3
       ·have q1:((R:Int)==3)=true:=by rw[hr3];rfl
        by_cases h53:mm/4+1=9007199254740992
        ·have q2:((mm:Int)/4+1==9007199254740992)=true:=by rw[beq_iff_eq];omega
         have HTD:Hid (T=hxDen 4503599627370496 (e+3)):=Lib.hid (by rw[HTT.out,hxRnd,if_pos (HRR.out.symm.trans hr3),if_pos h53]);have h4b:(mm:Int)/4=9007199254740991:=by omega
         have H4B:=Lib.hid h4b;clear hr3 h53 h4b;go_wp2_with fail;go_meet;refine⟨4503599627370496,e+3,?_,?_,Lib.hid ⟨HTD.out,by omega,by omega,by omega⟩,rfl⟩
         ·first|rfl|exact vint (by rw[H4B.out];omega)
         ·first|rfl|exact vint (by first|omega|(simp only[wrap64];omega))
        ·have q2:((mm:Int)/4+1==9007199254740992)=false:=beq_eq_false_iff_ne.2 (by omega);have HTD:Hid (T=hxDen (mm/4+1) (e+2)):=Lib.hid (by rw[HTT.out,hxRnd,if_pos (HRR.out.symm.trans hr3),if_neg h53]);clear hr3 h53;go_wp2_with fail;go_meet;refine⟨mm/4+1,e+2,?_,?_,Lib.hid ⟨HTD.out,by omega,by omega,by omega⟩,rfl⟩
         ·first|rfl|exact vint (by first|omega|(simp only[IntKind.wrap_u64];omega))
         ·first|rfl|exact vint (by first|omega|(simp only[wrap64];omega))
       ·have q1:((R:Int)==3)=false:=beq_eq_false_iff_ne.2 (by omega);have HTD:Hid (T=hxDen (mm/4) (e+2)):=Lib.hid (by rw[HTT.out,hxRnd,if_neg (fun h=>hr3 (HRR.out.trans h))]);clear hr3;go_wp2_with fail;go_meet;refine⟨mm/4,e+2,?_,?_,Lib.hid ⟨HTD.out,by omega,by omega,by omega⟩,rfl⟩
        ·first|rfl|exact vint (by first|omega|(simp only[IntKind.wrap_u64];omega))
        ·first|rfl|exact vint (by first|omega|(simp only[wrap64];omega))
      case rest=>
       clear HTT HRR a3 a4 o4 he3 hm55;obtain⟨m3,e3,rfl,rfl,hY,rfl⟩:=hcut;have hm3:=hY.out.2.1;have he3:=hY.out.2.2;go_upto_if 124 with fail
       go_cut [3]from 125 to 128 (fun t3 wx=> ∃e4:Int,t3= .int .i64 e4∧Hid (T=hxOut m3 e4∧ -1023≤e4∧e4≤20003)∧wx=wc)
       case first=>
        by_cases hd:m3<4503599627370496
        ·have q1:((m3:Int)/4503599627370496==0)=true:=by rw[beq_iff_eq];omega
         have HTD:Hid (T=hxOut m3 (-1023)):=Lib.hid (by rw[hY.out.1,hxDen,if_pos hd]);clear hd;go_wp2_with fail;go_meet;exact⟨-1023,rfl,Lib.hid ⟨HTD.out,by omega,by omega⟩,rfl⟩
        ·have q1:((m3:Int)/4503599627370496==0)=false:=beq_eq_false_iff_ne.2 (by omega);have HTD:Hid (T=hxOut m3 e3):=Lib.hid (by rw[hY.out.1,hxDen,if_neg hd]);clear hd;go_wp2_with fail;go_meet;exact⟨e3,rfl,Lib.hid ⟨HTD.out,by omega,by omega⟩,rfl⟩
       case rest=>
        obtain⟨e4,rfl,hZ,rfl⟩:=hcut;have he4:=hZ.out.2;clear he3;by_cases hbig:1023<e4
        ·have q1:((1023:Int)<e4)=True:=eq_true hbig;have HTD:Hid (T=((fbBits 4503599627370496 2047).toNat,true)):=Lib.hid (by rw[hZ.out.1,hxOut,if_pos hbig]);clear hbig he4 hm3;go_wp2_with fail;go_quiet (fail);go_wp2_with fail;rw[info_ne (HPT.out.drew nq)];simp only[Result.andThen];rw[Oper.upon_value];go_wp2_with fail;rw[run_frombits];rw[Oper.upon_value];go_wp2_with fail;go_ret2;rw[HTD.out];refine⟨rfl,?_⟩;obtain⟨k,hk⟩:=HW.out;exact⟨_,by rw[hk,World.drewN_drewN]⟩
        ·have q1:((1023:Int)<e4)=False:=eq_false hbig;have HTD:Hid (T=((fbBits m3 (e4+1023)).toNat,false)):=Lib.hid (by rw[hZ.out.1,hxOut,if_neg hbig]);clear hbig;go_wp2_with fail;go_quiet (fail);go_wp2_with fail;rw[info_ne (HPT.out.drew nq)];simp only[Result.andThen];rw[Oper.upon_value];go_wp2_with fail;rw[run_frombits];rw[Oper.upon_value];go_wp2_with fail;go_ret2;rw[HTD.out];refine⟨rfl,?_⟩;obtain⟨k,hk⟩:=HW.out;exact⟨_,by rw[hk,World.drewN_drewN]⟩
end Go.Proofs.YtibcjfjacielbaaGreatDoor
