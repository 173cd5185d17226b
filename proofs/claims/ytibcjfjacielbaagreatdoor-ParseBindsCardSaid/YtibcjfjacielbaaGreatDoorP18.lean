import Derived.Test.YtibcjfjacielbaaGreatDoorP04
import Derived.Test.YtibcjfjacielbaaGreatDoorP11
import Derived.Deep.CutRange
import Derived.WalkMore
/- Part of the proof of YtibcjfjacielbaaGreatDoorCardP: FpD FpH. -/
set_option maxRecDepth 100000
set_option maxHeartbeats 4000000
set_option linter.unusedVariables false
set_option linter.unusedSimpArgs false
namespace Go.Proofs.YtibcjfjacielbaaGreatDoor
open Go.RowKit
theorem results_tmp7 {fn:Func} {a b c d e f g:Tmp} (h:fn.results= #[.tmp a,.tmp b,.tmp c,.tmp d,.tmp e,.tmp f,.tmp g]) (tmps:Array Value) (P:Program) (w:World):
  (results fn tmps).run P w= .ok (.tuple #[tmps.getD a undef,tmps.getD b undef,tmps.getD c undef,tmps.getD d undef,tmps.getD e undef,tmps.getD f undef,tmps.getD g undef]) w:=by
 simp[results,h]
theorem vi {k:IntKind} {a b:Int} (h:a=b):Value.int k a=Value.int k b:=by rw[h]
theorem ret7 {M X X' z:Int} {tr:Bool} (h:X=X'):Ending.returned (.tuple #[.int .u64 M,.int .i64 X,.bool false,.bool tr,.bool false,.int .i64 z,.bool true])= .returned (.tuple #[.int .u64 M,.int .i64 X',.bool false,.bool tr,.bool false,.int .i64 z,.bool true]):=by rw[h]
theorem exp_zero {M N D:Nat} {P E:Int} {dt dg tr:Bool} (h:M=0):rfExp ⟨M,N,D,P,dt,dg,tr⟩ E=0:=by rw[rfExp,if_neg (by simpa using h)]
theorem exp_close {M N D e:Nat} {P base sg:Int} {dt dg tr:Bool} (hM:M≠0) (b:N≤19∧D≤1000∧ -1000≤P∧P≤1000) (he:e≤100009) (hb:base=if dt then P else(D:Int)) (hs:sg=(e:Int)∨sg= -(e:Int)):
  wrap64 (wrap64 (base+sg)-(N:Int))=rfExp ⟨M,N,D,P,dt,dg,tr⟩ sg:=by
 have hb2: -1000≤base∧base≤1000:=by
  rw[hb];split<;>omega
 rw[rfExp,if_pos hM];simp only;rw[←hb];unfold wrap64;omega
theorem nb_aux {N D k m z:Nat} {P:Int} (n1:N≤19) (n3:D≤k) (n5: -(k:Int)≤P) (n6:P≤k) (hk:k≤m) (hm:m≤z) (hs:z≤1000):N≤19∧D≤1000∧ -1000≤P∧P≤1000:=by omega
set_option maxHeartbeats 8000000 in
theorem fp_readFloat (s:ByteArray) (w:World) (hs:s.size≤1000) (mm:Nat) (E:Int) (hE:mm=s.size∧E=0∨ ∃j neg,ExpOk s.data.toList mm j neg∧E=if neg then-((eAt s.data.toList j s.size:Nat):Int)else((eAt s.data.toList j s.size:Nat):Int)) (hm:MantOk s.data.toList mm) (h0:0<mm) (i0:Nat) (hi0:i0<mm) (hd:digit (atB s.data.toList i0)=true)
  (hx: ∀h:2<s.size,((s[1].toNat|||32:Nat):Int)≠120) (M N D:Nat) (P:Int) (dt dg tr:Bool) (hr:rfAt s.data.toList mm=⟨M,N,D,P,dt,dg,tr⟩):
  Calls Tryz.prog 300 #[.string s] w fun e w'=>e= .returned (.tuple #[.int .u64 (M:Int),.int .i64 (rfExp ⟨M,N,D,P,dt,dg,tr⟩ E),.bool false,.bool tr,.bool false,.int .i64 (s.size:Int),.bool true])∧w=w':=by
 have hms:=hm.1;rw[len_data]at hms;have hs0:0<s.size:=by omega
 have hc0:((s[0].toNat:Int)==43)=false∧((s[0].toNat:Int)==45)=false:=by
  have h1:=hm.2 0 h0;rw[atB_lt hs0]at h1;rcases h1 with h1|h1
  ·have:=digit_fits h1;constructor<;>(simp;omega)
  ·constructor<;>(simp;omega)
 obtain⟨e43,e45⟩:=hc0;have z1:(s=ByteArray.empty)=False:=by
  apply eq_false;intro h;rw[h]at hs0;simp at hs0
 have HE:=Lib.hid hE;clear hE;have HM:=Lib.hid hm;have HX:=Lib.hid hx;have HR:=Lib.hid hr;have HD:=Lib.hid hd;have HI:=Lib.hid hi0;clear hm hx hr hd hi0;go_enter Tryz.func300,Tryz.ntmps300;go_wp2_with fail;go_step3;go_upto_region 12 with fail
 go_cut [54]from 36 to 54 (fun c wx=>c= .bool false∧wx=w)
 case first=>
  by_cases h2:2<s.size
  ·have q1:((2:Int)<(s.size:Int))=True:=by simp;omega
   cases e48:((s[0].toNat:Int)==48)
   ·go_wp2_with fail;go_meet;exact⟨rfl,rfl⟩
   ·have e120:(bits .or .u8 ((s[1].toNat:Nat):Int) 32==120)=false:=by
     have:=HX.out h2;rw[show bits .or .u8 ((s[1].toNat:Nat):Int) 32=((s[1].toNat|||32:Nat):Int)from u8_or_nat s[1].toNat 32 (UInt8.toNat_lt _) (by omega)];simpa using this
    go_wp2_with fail;refine(Tryz.internal_strconv_lower _ _).mono ?_;rintro e w' ⟨rfl,rfl⟩;go_wp2_with fail;go_meet;exact⟨rfl,rfl⟩
  ·have q1:((2:Int)<(s.size:Int))=False:=by simp;omega
   go_wp2_with fail;go_meet;exact⟨rfl,rfl⟩
 case rest=>
  obtain⟨rfl,rfl⟩:=hcut;go_wp2_with fail;go_step3;go_wp2_with fail;go_loop [2,5,7,9,13,14,15,16,17] (fun t2 t5 t7 t9 t13 t14 t15 t16 t17=> ∃(k M N D:Nat) (P:Int) (dt dg tr:Bool),Hid (rfAt s.data.toList k=⟨M,N,D,P,dt,dg,tr⟩)∧Hid (k≤mm)∧t2= .int .u64 (M:Int)∧t5= .bool tr∧t7= .int .i64 (k:Int)∧t9= .bool false∧t13= .bool dt∧t14= .bool dg∧t15= .int .i64 (D:Int)∧t16= .int .i64 (N:Int)∧t17= .int .i64 P) (fun t2 t5 t7 t9 t13 t14 t15 t16 t17=>s.size-(intOf t7).toNat)
  case atStart=>exact⟨0,0,0,0,0,false,false,false,Lib.hid rfl,Lib.hid (Nat.zero_le _),rfl,rfl,rfl,rfl,rfl,rfl,rfl,rfl,rfl⟩
  case round=>
   obtain⟨k,M1,N1,D1,P1,dt1,dg1,tr1,hst,hkm,rfl,rfl,rfl,rfl,rfl,rfl,rfl,rfl,rfl⟩:=hrel;have hok:=rfAt_ok HM.out k hkm.out;rw[hst.out]at hok;obtain⟨⟨n1,n2,n3⟩,n4,n5,n6⟩:=hok;simp only at n1 n2 n3 n4 n5 n6;have H4:=Lib.hid n4;clear n4;have hkm':=hkm.out;have wk:wrap64 ((k:Int)+1)=((k+1:Nat):Int):=by unfold wrap64;omega
   have wd:wrap64 ((D1:Int)+1)=((D1+1:Nat):Int):=by unfold wrap64;omega
   have wn:wrap64 ((N1:Int)+1)=((N1+1:Nat):Int):=by unfold wrap64;omega
   have wp:wrap64 (P1-1)=P1-1:=by unfold wrap64;omega
   by_cases hlt:k<mm
   ·have hks:k<s.size:=by omega
    have hkl:k<s.data.toList.length:=by rw[len_data];exact hks
    have hat:atB s.data.toList k=s[k]:=atB_lt hks;have q1:((k:Int)<(s.size:Int))=True:=by simp;omega
    have hcl:=HM.out.2 k hlt;rw[hat]at hcl;have p10:N1<19→M1<1000000000000000000:=fun h=>Nat.lt_of_lt_of_le H4.out (Nat.pow_le_pow_right (n:=10) (by omega) (show N1≤18 by omega))
    have hd57:(s[k].toNat=46∨48≤s[k].toNat∧s[k].toNat≤57):=by
     rcases hcl with h|h
     ·exact .inr (digit_fits h)
     ·exact .inl h.1
    have HB:=Lib.hid (show N1≤19∧N1≤D1∧D1≤k∧(N1<19→M1<1000000000000000000)∧ -(k:Int)≤P1∧P1≤k∧(s[k].toNat=46∨48≤s[k].toNat∧s[k].toNat≤57)∧k<1000 from⟨n1,n2,n3,p10,n5,n6,hd57,by omega⟩);clear p10 hd57;by_cases h46:s[k].toNat=46
    ·have e95:((s[k].toNat:Int)==95)=false:=by rw[h46];rfl
     have e46:((s[k].toNat:Int)==46)=true:=by rw[h46];rfl
     have hdt:dt1=false:=by
      have h1:=rfAt_dot k (by omega) (hcl.resolve_left (by intro h;have:=digit_fits h;omega)).2;rw[hst.out]at h1;exact h1
     subst hdt;have HN:=Lib.hid (rf_pt hst.out hkl (by rw[hat];exact h46));have HK:=Lib.hid (show k+1≤mm by omega);have HA:=Lib.hid hat;clear hcl hat n1 n2 n3 n5 n6;go_wp2_with fail
     all_goals first
      |(exfalso;first|(have:=eqT e48;omega)|(have:=neT e48;omega)|(have:=eqT ne;omega)|(have:=neT ne;omega)|omega)
      |(go_round;(case rel=>exact⟨k+1,M1,N1,D1,D1,true,dg1,tr1,HN,HK,(vi (by first|rfl|omega|(obtain⟨b1,b2,b3,b4,b5,b6,b7,b8⟩:=HB.out;simp only[wrap64,IntKind.wrap_u64,IntKind.wrap_u8];omega))),rfl,(vi (by first|rfl|omega|(obtain⟨b1,b2,b3,b4,b5,b6,b7,b8⟩:=HB.out;simp only[wrap64,IntKind.wrap_u64,IntKind.wrap_u8];omega))),rfl,rfl,rfl,(vi (by first|rfl|omega|(obtain⟨b1,b2,b3,b4,b5,b6,b7,b8⟩:=HB.out;simp only[wrap64,IntKind.wrap_u64,IntKind.wrap_u8];omega))),(vi (by first|rfl|omega|(obtain⟨b1,b2,b3,b4,b5,b6,b7,b8⟩:=HB.out;simp only[wrap64,IntKind.wrap_u64,IntKind.wrap_u8];omega))),(vi (by first|rfl|omega|(obtain⟨b1,b2,b3,b4,b5,b6,b7,b8⟩:=HB.out;simp only[wrap64,IntKind.wrap_u64,IntKind.wrap_u8];omega)))⟩);(case measure=>simp[intOf];omega))
    ·have hdig:digit s[k]=true:=hcl.resolve_right (fun h=>h46 h.1);have hdf:=digit_fits hdig;have e95:((s[k].toNat:Int)==95)=false:=by simp;omega
     have e46:((s[k].toNat:Int)==46)=false:=by simp;omega
     have g1:((48:Int)≤(s[k].toNat:Int))=True:=by simp;omega
     have g2:((s[k].toNat:Int)≤57)=True:=by simp;omega
     have HA:=Lib.hid hat;have HK:=Lib.hid (show k+1≤mm by omega);have HDG:=Lib.hid hdig;have HDF:=Lib.hid hdf;by_cases hz:s[k].toNat=48∧D1=0
     ·have e48:((s[k].toNat:Int)==48)=true:=by rw[hz.1];rfl
      obtain⟨hz1,rfl⟩:=hz;have HN:=Lib.hid (rf_zero hst.out hkl (by rw[hat];exact hz1) rfl);clear hcl hat n1 n2 n3 n5 n6 hdf;go_wp2_with fail
      all_goals first
       |(exfalso;first|(have:=eqT e48;omega)|(have:=neT e48;omega)|(have:=eqT ne;omega)|(have:=neT ne;omega)|omega)
       |(go_round;(case rel=>exact⟨k+1,M1,N1,0,P1-1,dt1,true,tr1,HN,HK,(vi (by first|rfl|omega|(obtain⟨b1,b2,b3,b4,b5,b6,b7,b8⟩:=HB.out;simp only[wrap64,IntKind.wrap_u64,IntKind.wrap_u8];omega))),rfl,(vi (by first|rfl|omega|(obtain⟨b1,b2,b3,b4,b5,b6,b7,b8⟩:=HB.out;simp only[wrap64,IntKind.wrap_u64,IntKind.wrap_u8];omega))),rfl,rfl,rfl,(vi (by first|rfl|omega|(obtain⟨b1,b2,b3,b4,b5,b6,b7,b8⟩:=HB.out;simp only[wrap64,IntKind.wrap_u64,IntKind.wrap_u8];omega))),(vi (by first|rfl|omega|(obtain⟨b1,b2,b3,b4,b5,b6,b7,b8⟩:=HB.out;simp only[wrap64,IntKind.wrap_u64,IntKind.wrap_u8];omega))),(vi (by first|rfl|omega|(obtain⟨b1,b2,b3,b4,b5,b6,b7,b8⟩:=HB.out;simp only[wrap64,IntKind.wrap_u64,IntKind.wrap_u8];omega)))⟩);(case measure=>simp[intOf];omega))
     ·have hz2:((s[k].toNat:Int)==48)=false∨((s[k].toNat:Int)==48)=true∧((D1:Int)==0)=false:=by
       by_cases h1:s[k].toNat=48
       ·right;have hD1:D1≠0:=fun h=>hz ⟨h1,h⟩
        refine⟨by rw[h1];rfl,?_⟩;simp;omega
       ·left;simp;omega
      by_cases hn:N1<19
      ·have e19:((N1:Int)<19)=True:=by simp;omega
       have hN:=rf_in hst.out hkl (by rw[hat];exact hdig) (by rw[hat];exact hz) hn;rw[hat]at hN;have HN:=Lib.hid hN;clear hcl hat n1 n2 n3 n5 n6 hz hdf hN;rcases hz2 with e48|⟨e48,ed⟩
       all_goals
        go_wp2_with fail
        all_goals first
         |(exfalso;first|(have:=eqT e48;omega)|(have:=neT e48;omega)|(have:=eqT ne;omega)|(have:=neT ne;omega)|omega)
         |(go_round;(case rel=>exact⟨k+1,M1*10+(s[k].toNat-48),N1+1,D1+1,P1,dt1,true,tr1,HN,HK,(vi (by first|rfl|omega|(obtain⟨b1,b2,b3,b4,b5,b6,b7,b8⟩:=HB.out;simp only[wrap64,IntKind.wrap_u64,IntKind.wrap_u8];omega))),rfl,(vi (by first|rfl|omega|(obtain⟨b1,b2,b3,b4,b5,b6,b7,b8⟩:=HB.out;simp only[wrap64,IntKind.wrap_u64,IntKind.wrap_u8];omega))),rfl,rfl,rfl,(vi (by first|rfl|omega|(obtain⟨b1,b2,b3,b4,b5,b6,b7,b8⟩:=HB.out;simp only[wrap64,IntKind.wrap_u64,IntKind.wrap_u8];omega))),(vi (by first|rfl|omega|(obtain⟨b1,b2,b3,b4,b5,b6,b7,b8⟩:=HB.out;simp only[wrap64,IntKind.wrap_u64,IntKind.wrap_u8];omega))),(vi (by first|rfl|omega|(obtain⟨b1,b2,b3,b4,b5,b6,b7,b8⟩:=HB.out;simp only[wrap64,IntKind.wrap_u64,IntKind.wrap_u8];omega)))⟩);(case measure=>simp[intOf];omega))
      ·have e19:((N1:Int)<19)=False:=by simp;omega
       cases ne:((s[k].toNat:Int) != 48)
       ·have h48:s[k].toNat=48:=by
         have:(s[k].toNat:Int)=48:=by simpa using ne
         omega
        have hN:=rf_out0 hst.out hkl (by rw[hat];exact h48) (by rw[hat];exact hz) hn;have HN:=Lib.hid hN;clear hcl hat n1 n2 n3 n5 n6 hz hdf hN;rcases hz2 with e48|⟨e48,ed⟩
        all_goals
         go_wp2_with fail
         all_goals first
          |(exfalso;first|(have:=eqT e48;omega)|(have:=neT e48;omega)|(have:=eqT ne;omega)|(have:=neT ne;omega)|omega)
          |(go_round;(case rel=>exact⟨k+1,M1,N1,D1+1,P1,dt1,true,tr1,HN,HK,(vi (by first|rfl|omega|(obtain⟨b1,b2,b3,b4,b5,b6,b7,b8⟩:=HB.out;simp only[wrap64,IntKind.wrap_u64,IntKind.wrap_u8];omega))),rfl,(vi (by first|rfl|omega|(obtain⟨b1,b2,b3,b4,b5,b6,b7,b8⟩:=HB.out;simp only[wrap64,IntKind.wrap_u64,IntKind.wrap_u8];omega))),rfl,rfl,rfl,(vi (by first|rfl|omega|(obtain⟨b1,b2,b3,b4,b5,b6,b7,b8⟩:=HB.out;simp only[wrap64,IntKind.wrap_u64,IntKind.wrap_u8];omega))),(vi (by first|rfl|omega|(obtain⟨b1,b2,b3,b4,b5,b6,b7,b8⟩:=HB.out;simp only[wrap64,IntKind.wrap_u64,IntKind.wrap_u8];omega))),(vi (by first|rfl|omega|(obtain⟨b1,b2,b3,b4,b5,b6,b7,b8⟩:=HB.out;simp only[wrap64,IntKind.wrap_u64,IntKind.wrap_u8];omega)))⟩);(case measure=>simp[intOf];omega))
       ·have h48:s[k].toNat≠48:=by
         have: ¬(s[k].toNat:Int)=48:=by simpa using ne
         omega
        have hN:=rf_out1 hst.out hkl (by rw[hat];exact hdig) (by rw[hat];exact h48) hn;have HN:=Lib.hid hN;clear hcl hat n1 n2 n3 n5 n6 hz hdf hN;rcases hz2 with e48|⟨e48,ed⟩
        all_goals
         go_wp2_with fail
         all_goals first
          |(exfalso;first|(have:=eqT e48;omega)|(have:=neT e48;omega)|(have:=eqT ne;omega)|(have:=neT ne;omega)|omega)
          |(go_round;(case rel=>exact⟨k+1,M1,N1,D1+1,P1,dt1,true,true,HN,HK,(vi (by first|rfl|omega|(obtain⟨b1,b2,b3,b4,b5,b6,b7,b8⟩:=HB.out;simp only[wrap64,IntKind.wrap_u64,IntKind.wrap_u8];omega))),rfl,(vi (by first|rfl|omega|(obtain⟨b1,b2,b3,b4,b5,b6,b7,b8⟩:=HB.out;simp only[wrap64,IntKind.wrap_u64,IntKind.wrap_u8];omega))),rfl,rfl,rfl,(vi (by first|rfl|omega|(obtain⟨b1,b2,b3,b4,b5,b6,b7,b8⟩:=HB.out;simp only[wrap64,IntKind.wrap_u64,IntKind.wrap_u8];omega))),(vi (by first|rfl|omega|(obtain⟨b1,b2,b3,b4,b5,b6,b7,b8⟩:=HB.out;simp only[wrap64,IntKind.wrap_u64,IntKind.wrap_u8];omega))),(vi (by first|rfl|omega|(obtain⟨b1,b2,b3,b4,b5,b6,b7,b8⟩:=HB.out;simp only[wrap64,IntKind.wrap_u64,IntKind.wrap_u8];omega)))⟩);(case measure=>simp[intOf];omega))
   ·have hkeq:k=mm:=by omega
    have hfin:=hst.out;have hdg:=rfAt_dig HM.out HD.out k hkm.out (by have:=HI.out;omega);rw[hkeq,HR.out]at hfin;rw[hst.out]at hdg;simp only at hdg;injection hfin with i1 i2 i3 i4 i5 i6 i7
    subst i1 i2 i3 i4 i5 i6 i7 hdg;clear hlt;rcases HE.out with⟨hmz,rfl⟩|⟨j,neg,hex,hEE⟩
    ·rw[hmz]at hkeq;clear HE;have q1:((k:Int)<(s.size:Int))=False:=by simp;omega
     have hke:(k:Int)=(s.size:Int):=by omega
     have wx:wrap64 ((D:Int)-(N:Int))=(D:Int)-(N:Int):=by unfold wrap64;omega
     have wy:wrap64 (P-(N:Int))=P-(N:Int):=by unfold wrap64;omega
     have HX1:=Lib.hid (show rfExp ⟨M,N,D,P,dt,true,tr⟩ 0=if M≠0 then(if dt then P else(D:Int))-(N:Int)else 0 by simp[rfExp]);clear n1 n2 n3 n5 n6 hkm';cases dt
     all_goals
      cases em:((M:Int) != 0)
      all_goals
       go_wp2_with fail
       try rw[Exit.noGoto_ret]
       refine bodyPost_ret (results_tmp7 rfl _ _ _) rfl ?_;refine⟨?_,rfl⟩;rw[HX1.out]
       first
        |(have hM:=bneF em;subst hM;simp[hke];done)
        |(have hM:=bneT em;rw[if_pos hM];simp[hke];done)
    ·subst hkeq;clear HE;have hks:=hex.lt;rw[len_data]at hks;have hat:=atB_lt (s:=s) hks;have q1:((k:Int)<(s.size:Int))=True:=by simp;omega
     have hE:s[k].toNat=101∨s[k].toNat=69:=by
      have:=hex.isE;rw[hat]at this;simp[isE]at this;exact this
     have e95:((s[k].toNat:Int)==95)=false:=by simp;omega
     have e46:((s[k].toNat:Int)==46)=false:=by simp;omega
     have g1:((48:Int)≤(s[k].toNat:Int))=True:=by simp;omega
     have g2:((s[k].toNat:Int)≤57)=False:=by simp;omega
     have elow:(bits .or .u8 ((s[k].toNat:Nat):Int) 32==101)=true:=by
      rw[show bits .or .u8 ((s[k].toNat:Nat):Int) 32=((s[k].toNat|||32:Nat):Int)from u8_or_nat s[k].toNat 32 (UInt8.toNat_lt _) (by omega)];rcases hE with h|h<;>(rw[h];rfl)
     have hjl:=hex.some;rw[len_data]at hjl;have hkj:k+1≤j:=by rcases hex.sign with h|h|h<;>omega
     have hkj1:k+1<s.size:=by omega
     have wk2:wrap64 ((k:Int)+1+1)=(k:Int)+2:=by unfold wrap64;omega
     have hNB:=Lib.hid (nb_aux n1 n3 n5 n6 hkm' hms hs);have hsg:(j=k+1∧neg=false∧((s[k+1].toNat:Int)==43)=false∧((s[k+1].toNat:Int)==45)=false)∨(j=k+2∧neg=false∧((s[k+1].toNat:Int)==43)=true)∨(j=k+2∧neg=true∧((s[k+1].toNat:Int)==43)=false∧((s[k+1].toNat:Int)==45)=true):=by
      have hat1:=atB_lt (s:=s) hkj1;rcases hex.sign with⟨h1,h2,h3⟩|⟨h1,h2,h3⟩|⟨h1,h2,h3⟩
      ·left;subst h1;rw[hat1]at h3;have:=digit_fits h3;refine⟨rfl,h2,?_,?_⟩<;>(simp;omega)
      ·right;left;rw[hat1]at h3;exact⟨h1,h2,by rw[h3];rfl⟩
      ·right;right;rw[hat1]at h3;exact⟨h1,h2,by rw[h3];rfl,by rw[h3];rfl⟩
     have hdg0:=hex.digs j (Nat.le_refl _) (by rw[len_data];exact hjl);rw[atB_lt hjl]at hdg0;have hjf:=digit_fits hdg0;have r2n: ∀[inst:Decidable ((s[j].toNat:Int)<48)],@decide _ inst=false:=fun {inst}=>decide_eq_false (by omega)
     have r3n: ∀[inst:Decidable ((57:Int)<(s[j].toNat:Int))],@decide _ inst=false:=fun {inst}=>decide_eq_false (by omega)
     obtain⟨J,hJ⟩: ∃J,j=J:=⟨_,rfl⟩;have HDG:Hid (∀i,J≤i→i<s.data.toList.length→digit (atB s.data.toList i)=true):=Lib.hid (by rw[←hJ];exact hex.digs);have HJL:Hid (J<s.size):=Lib.hid (by rw[←hJ];exact hjl);have HEE:Hid (E=if neg then-((eAt s.data.toList J s.size:Nat):Int)else((eAt s.data.toList J s.size:Nat):Int)):=Lib.hid (by rw[←hJ];exact hEE);have HL1:=Lib.hid elow;have HL5:=Lib.hid wk2;clear elow wk2 hdg0 hEE;clear hat hE hex n1 n2 n3 n5 n6;rcases hsg with⟨rfl,rfl,x43,x45⟩|⟨rfl,rfl,x43⟩|⟨rfl,rfl,x43,x45⟩
     all_goals
      have HJ:=Lib.hid hJ;clear hJ
      try have r4:((s.size:Int)≤(k:Int)+2)=False:=by have:=HJL.out;have:=HJ.out;simp;omega
      cases dt
      all_goals
       go_wp2_with fail;refine(Tryz.internal_strconv_lower _ _).mono ?_;rintro e w' ⟨rfl,rfl⟩;have elow:=HL1.out;have q2:((s.size:Int)≤(k:Int)+1)=False:=by have:=HJL.out;have:=HJ.out;simp;omega
       clear wk;go_upto_region 67 with fail
       go_upto_region 68 with fail
       go_wp2_with fail;go_loop [7,9,20] (fun t7 t9 t20=> ∃(i e:Nat),Hid (eAt s.data.toList J i=e)∧Hid (J≤i∧i≤s.size)∧t7= .int .i64 (i:Int)∧t9= .bool false∧t20= .int .i64 (e:Int)) (fun t7 t9 t20=>s.size-(intOf t7).toNat)
       case atStart=>exact⟨J,0,Lib.hid (eAt_start _ _),Lib.hid ⟨Nat.le_refl _,Nat.le_of_lt HJL.out⟩,(vi (by have:=HJ.out;omega)),rfl,rfl⟩
       case round=>
        obtain⟨i,e,hei,hib,rfl,rfl,rfl⟩:=hrel;have hib':=hib.out;have hel:e≤100009:=by
         rw[←hei.out];exact eAt_le i hib'.1 (by rw[len_data];exact hib'.2) fun i' h1 h2=>HDG.out i' h1 (by rw[len_data];omega)
        by_cases hi:i<s.size
        ·have hdi:=HDG.out i hib'.1 (by rw[len_data];exact hi);rw[atB_lt hi]at hdi;have hif:=digit_fits hdi;have hsucc:eAt s.data.toList J (i+1)=eStep e s[i]:=by rw[eAt_succ hib'.1 (by rw[len_data];exact hi),hei.out,atB_lt hi]
         have HSC:=Lib.hid hsucc;have HIF:=Lib.hid hif;have p1:((i:Int)<(s.size:Int))=True:=by simp;omega
         have p2: ∀[inst:Decidable ((48:Int)≤(s[i].toNat:Int))],@decide _ inst=true:=fun {inst}=>decide_eq_true (by omega)
         have p3: ∀[inst:Decidable ((s[i].toNat:Int)≤57)],@decide _ inst=true:=fun {inst}=>decide_eq_true (by omega)
         have p4:((s[i].toNat:Int)==95)=false:=by simp;omega
         have HIB:=Lib.hid (show J≤i+1∧i+1≤s.size by omega);clear hdi hsucc q2 hib';by_cases h4:e<10000
         ·have p5:((e:Int)<10000)=True:=by simp;omega
          have hst:eStep e s[i]=e*10+(s[i].toNat-48):=by rw[eStep,if_pos h4]
          have HST:=Lib.hid (HSC.out.trans hst);clear hst;go_wp2_with fail
          all_goals first
           |(exfalso;omega)
           |(go_round;(case rel=>exact⟨i+1,e*10+(s[i].toNat-48),HST,HIB,(vi (by first|rfl|omega|(simp only[wrap64];omega))),rfl,(vi (by first|rfl|omega|(simp only[wrap64];omega)))⟩);(case measure=>simp[intOf];omega))
         ·have p5:((e:Int)<10000)=False:=by simp;omega
          have hst:eStep e s[i]=e:=by rw[eStep,if_neg h4]
          have HST:=Lib.hid (HSC.out.trans hst);clear hst;go_wp2_with fail
          all_goals first
           |(exfalso;omega)
           |(go_round;(case rel=>exact⟨i+1,e,HST,HIB,(vi (by first|rfl|omega|(simp only[wrap64];omega))),rfl,rfl⟩);(case measure=>simp[intOf];omega))
        ·have hie:i=s.size:=by omega
         subst hie;clear q2;cases em:((M:Int) != 0)
         all_goals
          go_wp2_with fail
          try rw[Exit.noGoto_ret]
          refine bodyPost_ret (results_tmp7 rfl _ _ _) rfl ?_;refine⟨ret7 ?_,rfl⟩;rw[HEE.out,hei.out]
          first
           |exact(exp_zero (bneF em)).symm
           |exact exp_close (bneT em) hNB.out hel rfl (.inl rfl)
           |exact exp_close (bneT em) hNB.out hel rfl (.inr rfl)
theorem ret7x {M X X' z z':Int} {tr:Bool} (h:X=X') (hz:z=z'):Ending.returned (.tuple #[.int .u64 M,.int .i64 X,.bool false,.bool tr,.bool true,.int .i64 z,.bool true])= .returned (.tuple #[.int .u64 M,.int .i64 X',.bool false,.bool tr,.bool true,.int .i64 z',.bool true]):=by rw[h,hz]
def HexRel (m k:Nat) (P:Int) (dg:Bool):Prop:=2≤k∧k≤m∧ -(k:Int)≤P∧P≤0∧(2<k→dg=true)
def hexExp (M N D:Nat):Int:=if M≠0 then 4*(D:Int)-4*(N:Int)else 0
theorem hex_zero {M N D:Nat} (h:M=0):hexExp M N D=0:=by rw[hexExp,if_neg (by simpa using h)]
theorem hex_close {M N D:Nat} (hM:M≠0) (h:N≤16∧D≤1000):wrap64 (wrap64 (wrap64 ((D:Int)*4))-wrap64 ((N:Int)*4))=hexExp M N D:=by
 rw[hexExp,if_pos hM];unfold wrap64;omega
theorem mulx {M v:Nat} (h:M<1152921504606846976) (hv:v<16):IntKind.u64.wrap ((M:Int)*16)=((M*16:Nat):Int)∧IntKind.u64.wrap (((M*16:Nat):Int)+(v:Int))=((M*16+v:Nat):Int):=by
 constructor<;>(rw[IntKind.wrap_u64];omega)
set_option maxHeartbeats 8000000 in
theorem fp_readFloat_hex (s:ByteArray) (w:World) (m:Nat) (hs:s.size≤1000) (hm3:3≤m) (hmz:m+1<s.size) (hx0:s[0].toNat=48) (hx1:(s[1].toNat|||32)=120) (hm:HexOk s.data.toList m) (hp1:s[m].toNat=112) (hp2:s[m+1].toNat=48) (hsz:s.size=m+2)
  (M N D:Nat) (tr:Bool) (hr:rxAt s.data.toList m=⟨M,N,D,tr⟩):
  Calls Tryz.prog 300 #[.string s] w fun e w'=>e= .returned (.tuple #[.int .u64 (M:Int),.int .i64 (hexExp M N D),.bool false,.bool tr,.bool true,.int .i64 (s.size:Int),.bool true])∧w=w':=by
 have HSZ:=Lib.hid hsz;clear hsz;have h2s:2<s.size:=by omega
 have e43:((s[0].toNat:Int)==43)=false:=by rw[hx0];rfl
 have e45:((s[0].toNat:Int)==45)=false:=by rw[hx0];rfl
 have z1:(s=ByteArray.empty)=False:=by
  apply eq_false;intro h;rw[h]at h2s;simp at h2s
 have HM:=Lib.hid hm;have HR:=Lib.hid hr;have HP1:=Lib.hid hp1;have HP2:=Lib.hid hp2;have HX1:=Lib.hid hx1;have HX0:=Lib.hid hx0;clear hm hr hp1 hp2 hx1 hx0;go_enter Tryz.func300,Tryz.ntmps300;go_wp2_with fail;go_step3;go_upto_region 12 with fail
 go_cut [54]from 36 to 54 (fun c wx=>c= .bool true∧wx=w)
 case first=>
  have q1:((2:Int)<(s.size:Int))=True:=by simp;omega
  have e48:((s[0].toNat:Int)==48)=true:=by rw[HX0.out];rfl
  have e120:(bits .or .u8 ((s[1].toNat:Nat):Int) 32==120)=true:=by
   rw[show bits .or .u8 ((s[1].toNat:Nat):Int) 32=((s[1].toNat|||32:Nat):Int)from u8_or_nat s[1].toNat 32 (UInt8.toNat_lt _) (by omega),HX1.out];rfl
  go_wp2_with fail;refine(Tryz.internal_strconv_lower _ _).mono ?_;rintro e w' ⟨rfl,rfl⟩;go_wp2_with fail;go_meet;exact⟨rfl,rfl⟩
 case rest=>
  obtain⟨rfl,rfl⟩:=hcut;go_wp2_with fail;go_step3;go_wp2_with fail;go_loop [2,5,7,9,13,14,15,16,17] (fun t2 t5 t7 t9 t13 t14 t15 t16 t17=> ∃(k M N D:Nat) (P:Int) (dg tr:Bool),Hid (rxAt s.data.toList k=⟨M,N,D,tr⟩)∧Hid (HexRel m k P dg)∧t2= .int .u64 (M:Int)∧t5= .bool tr∧t7= .int .i64 (k:Int)∧t9= .bool false∧t13= .bool false∧t14= .bool dg∧t15= .int .i64 (D:Int)∧t16= .int .i64 (N:Int)∧t17= .int .i64 P) (fun t2 t5 t7 t9 t13 t14 t15 t16 t17=>s.size-(intOf t7).toNat)
  case atStart=>exact⟨2,0,0,0,0,false,false,Lib.hid (rxAt_two _),Lib.hid ⟨Nat.le_refl _,by omega,by omega,by omega,by omega⟩,rfl,rfl,rfl,rfl,rfl,rfl,rfl,rfl,rfl⟩
  case round=>
   obtain⟨k,M1,N1,D1,P1,dg1,tr1,hst,hkb,rfl,rfl,rfl,rfl,rfl,rfl,rfl,rfl,rfl⟩:=hrel;obtain⟨k2,hkm,p1b,p2b,hdg⟩:=hkb.out;have hok:=rxAt_ok HM.out k k2 hkm;rw[hst.out]at hok;have n123:=hok.ndm;have n4:=hok.mant;simp only at n123 n4;have H4:=Lib.hid n4;clear n4 hok;by_cases hlt:k<m
   ·have hks:k<s.size:=by omega
    have hat:atB s.data.toList k=s[k]:=atB_lt hks;have q1:((k:Int)<(s.size:Int))=True:=by simp;omega
    have hcl:=HM.out.2 k k2 hlt;rw[hat]at hcl;have p10:N1<16→M1<1152921504606846976:=fun h=>Nat.lt_of_lt_of_le H4.out (Nat.pow_le_pow_right (n:=16) (by omega) (show N1≤15 by omega))
    have HP10:=Lib.hid p10;have HAT:=Lib.hid hat;have HHX:=Lib.hid hcl;have HKL:=Lib.hid (show ¬(s.data.toList.length≤k)by rw[len_data];omega);have HN3:=Lib.hid n123;have HK2:=Lib.hid k2;have HK:Hid (HexRel m (k+1) P1 true):=Lib.hid ⟨by omega,by omega,by omega,by omega,fun _=>rfl⟩;have HK0:Hid (HexRel m (k+1) (P1-1) true):=Lib.hid ⟨by omega,by omega,by omega,by omega,fun _=>rfl⟩;have hP1: -1000≤P1∧P1≤0:=by omega
    have hK1:k<1000:=by omega
    have hlt16:=hexV_lt _ hcl;have hD1:N1≤16∧D1≤1000:=by omega
    clear p10 hat n123 k2 p1b p2b hdg;cases hd:digit s[k]
    ·
     have hlow:=hexd_low _ HHX.out hd;obtain⟨L,hL⟩: ∃L,L=(s[k].toNat|||32):=⟨_,rfl⟩;have hv:hexV s[k]=L-87:=by
      rw[hL];have h1:hexV s[k]=(s[k].toNat|||32)-87:=by unfold hexV;rw[hd,if_neg (by simp)]
      exact h1
     have hlow:97≤L∧L≤102:=by rw[hL];exact hlow
     have o1:bits .or .u8 (s[k].toNat:Int) 32=(L:Int):=by rw[hL];exact u8_or_nat s[k].toNat 32 (UInt8.toNat_lt _) (by omega)
     have hd2:digit (atB s.data.toList k)=false:=by rw[HAT.out];exact hd
     have hx2:hexd (atB s.data.toList k)=true:=by rw[HAT.out];exact HHX.out
     have hln:(atB s.data.toList k).toNat=s[k].toNat:=congrArg UInt8.toNat HAT.out;have hrng:(97≤(atB s.data.toList k).toNat∧(atB s.data.toList k).toNat≤102)∨(65≤(atB s.data.toList k).toNat∧(atB s.data.toList k).toNat≤70):=by
      simpa [hexd,hd2]using hx2
     have hc65:65≤s[k].toNat:=by omega
     have e95:((s[k].toNat:Int)==95)=false:=by simp;omega
     have e46:((s[k].toNat:Int)==46)=false:=by simp;omega
     have g1: ∀[inst:Decidable ((48:Int)≤(s[k].toNat:Int))],@decide _ inst=true:=fun {inst}=>decide_eq_true (by omega)
     have g2: ∀[inst:Decidable ((s[k].toNat:Int)≤57)],@decide _ inst=false:=fun {inst}=>decide_eq_false (by omega)
     have g3: ∀[inst:Decidable ((97:Int)≤(L:Int))],@decide _ inst=true:=fun {inst}=>decide_eq_true (by omega)
     have g4: ∀[inst:Decidable ((L:Int)≤102)],@decide _ inst=true:=fun {inst}=>decide_eq_true (by omega)
     have HV:=Lib.hid hv;have HLW:=Lib.hid hlow;have hc48:s[k].toNat≠48:=by omega
     by_cases hn:N1<16
     ·have e16:((N1:Int)<16)=True:=by simp;omega
      have hvv:hexV (atB s.data.toList k)=L-87:=by rw[HAT.out];exact hv
      have hN:=rx_in hst.out HK2.out (Nat.lt_of_not_le HKL.out) (by omega) hn;rw[hvv]at hN;have HN:=Lib.hid hN;obtain⟨mx1,mx2⟩:=mulx (HP10.out hn) (show L-87<16 by omega);have u1:IntKind.u8.wrap (IntKind.u8.wrap ((L:Int)-97)+10)=((L-87:Nat):Int):=by rw[IntKind.wrap_u8,IntKind.wrap_u8];omega
      clear hN hvv hd2 hx2 hln hrng hv hlow hc65 hcl hlt16 hc48 hL;go_wp2_with fail
      all_goals first
       |(exfalso;omega)
       |(refine(Tryz.internal_strconv_lower _ _).mono ?_;rintro e w' ⟨rfl,rfl⟩;rw[o1];go_wp2_with fail)
      all_goals first
       |(exfalso;omega)
       |(refine(Tryz.internal_strconv_lower _ _).mono ?_;rintro e w' ⟨rfl,rfl⟩;rw[o1];go_wp2_with fail)
      all_goals first
       |(exfalso;omega)
       |(refine(Tryz.internal_strconv_lower _ _).mono ?_;rintro e w' ⟨rfl,rfl⟩;rw[o1];go_wp2_with fail)
      all_goals first
       |(exfalso;omega)
       |(go_round;(case rel=>exact⟨k+1,M1*16+(L-87),N1+1,D1+1,P1,true,tr1,HN,HK,(vi (by first|rfl|omega|(have hbb:=HP10.out hn;have hll:=HLW.out;simp only[IntKind.wrap_u64,IntKind.wrap_u8];omega))),rfl,(vi (by first|rfl|omega)),rfl,rfl,rfl,(vi (by first|rfl|omega|(simp only[wrap64];omega))),(vi (by first|rfl|omega|(simp only[wrap64];omega))),rfl⟩);(case measure=>simp[intOf];omega))
     ·have e16:((N1:Int)<16)=False:=by simp;omega
      have hN:=rx_out1 hst.out HK2.out (Nat.lt_of_not_le HKL.out) (by omega) hn;have HN:=Lib.hid hN;clear hN hd2 hx2 hln hrng hv hlow hc65 hcl hlt16 hc48 hL;go_wp2_with fail
      all_goals first
       |(exfalso;omega)
       |(refine(Tryz.internal_strconv_lower _ _).mono ?_;rintro e w' ⟨rfl,rfl⟩;rw[o1];go_wp2_with fail)
      all_goals first
       |(exfalso;omega)
       |(refine(Tryz.internal_strconv_lower _ _).mono ?_;rintro e w' ⟨rfl,rfl⟩;rw[o1];go_wp2_with fail)
      all_goals first
       |(exfalso;omega)
       |(go_round;(case rel=>exact⟨k+1,M1,N1,D1+1,P1,true,true,HN,HK,(vi (by first|rfl|omega|(have hbb:=HP10.out hn;have hll:=HLW.out;simp only[IntKind.wrap_u64,IntKind.wrap_u8];omega))),rfl,(vi (by first|rfl|omega)),rfl,rfl,rfl,(vi (by first|rfl|omega|(simp only[wrap64];omega))),(vi (by first|rfl|omega|(simp only[wrap64];omega))),rfl⟩);(case measure=>simp[intOf];omega))
    ·
     have hdf:=digit_fits hd;have hd2:digit (atB s.data.toList k)=true:=by rw[HAT.out];exact hd
     have hln:(atB s.data.toList k).toNat=s[k].toNat:=congrArg UInt8.toNat HAT.out;have hvv:hexV (atB s.data.toList k)=s[k].toNat-48:=by unfold hexV;rw[if_pos hd2,hln]
     have e95:((s[k].toNat:Int)==95)=false:=by simp;omega
     have e46:((s[k].toNat:Int)==46)=false:=by simp;omega
     have g1: ∀[inst:Decidable ((48:Int)≤(s[k].toNat:Int))],@decide _ inst=true:=fun {inst}=>decide_eq_true (by omega)
     have g2: ∀[inst:Decidable ((s[k].toNat:Int)≤57)],@decide _ inst=true:=fun {inst}=>decide_eq_true (by omega)
     by_cases hz:s[k].toNat=48∧D1=0
     ·obtain⟨hz1,rfl⟩:=hz;have e48:((s[k].toNat:Int)==48)=true:=by rw[hz1];rfl
      have HN:=Lib.hid (rx_same hst.out HK2.out (Nat.lt_of_not_le HKL.out) (by omega) rfl);clear hvv hd2 hln hcl hlt16;go_wp2_with fail
      all_goals first
       |(exfalso;first|omega|(have:=eqT e48;omega)|(have:=neT e48;omega))
       |(go_round;(case rel=>exact⟨k+1,M1,N1,0,P1-1,true,tr1,HN,HK0,(vi (by first|rfl|omega)),rfl,(vi (by first|rfl|omega)),rfl,rfl,rfl,(vi (by first|rfl|omega|(simp only[wrap64];omega))),(vi (by first|rfl|omega|(simp only[wrap64];omega))),(vi (by first|rfl|omega|(simp only[wrap64];omega)))⟩);(case measure=>simp[intOf];omega))
     ·by_cases hn:N1<16
      ·have e16:((N1:Int)<16)=True:=by simp;omega
       have hN:=rx_in hst.out HK2.out (Nat.lt_of_not_le HKL.out) (by omega) hn;rw[hvv]at hN;have HN:=Lib.hid hN;clear hN hvv hd2 hln hcl hlt16;cases e48:((s[k].toNat:Int)==48)
       all_goals
        go_wp2_with fail
        all_goals first
         |(exfalso;first|omega|(have:=eqT e48;omega)|(have:=neT e48;omega))
         |(go_round;(case rel=>exact⟨k+1,M1*16+(s[k].toNat-48),N1+1,D1+1,P1,true,tr1,HN,HK,(vi (by first|rfl|omega|(have hbb:=HP10.out hn;simp only[IntKind.wrap_u64,IntKind.wrap_u8];omega))),rfl,(vi (by first|rfl|omega)),rfl,rfl,rfl,(vi (by first|rfl|omega|(simp only[wrap64];omega))),(vi (by first|rfl|omega|(simp only[wrap64];omega))),(vi (by first|rfl|omega|(simp only[wrap64];omega)))⟩);(case measure=>simp[intOf];omega))
      ·have e16:((N1:Int)<16)=False:=by simp;omega
       by_cases h48:s[k].toNat=48
       ·have HN:=Lib.hid (rx_out0 hst.out HK2.out (Nat.lt_of_not_le HKL.out) (by omega) (by omega) hn);have e48:((s[k].toNat:Int)==48)=true:=by rw[h48];rfl
        clear hvv hd2 hln hcl hlt16;go_wp2_with fail
        all_goals first
         |(exfalso;first|omega|(have:=eqT e48;omega)|(have:=neT e48;omega))
         |(go_round;(case rel=>exact⟨k+1,M1,N1,D1+1,P1,true,tr1,HN,HK,(vi (by first|rfl|omega)),rfl,(vi (by first|rfl|omega)),rfl,rfl,rfl,(vi (by first|rfl|omega|(simp only[wrap64];omega))),(vi (by first|rfl|omega|(simp only[wrap64];omega))),(vi (by first|rfl|omega|(simp only[wrap64];omega)))⟩);(case measure=>simp[intOf];omega))
       ·have HN:=Lib.hid (rx_out1 hst.out HK2.out (Nat.lt_of_not_le HKL.out) (by omega) hn);have e48:((s[k].toNat:Int)==48)=false:=by simp;exact fun h=>h48 (by omega)
        clear hvv hd2 hln hcl hlt16;go_wp2_with fail
        all_goals first
         |(exfalso;first|omega|(have:=eqT e48;omega)|(have:=neT e48;omega))
         |(go_round;(case rel=>exact⟨k+1,M1,N1,D1+1,P1,true,true,HN,HK,(vi (by first|rfl|omega)),rfl,(vi (by first|rfl|omega)),rfl,rfl,rfl,(vi (by first|rfl|omega|(simp only[wrap64];omega))),(vi (by first|rfl|omega|(simp only[wrap64];omega))),(vi (by first|rfl|omega|(simp only[wrap64];omega)))⟩);(case measure=>simp[intOf];omega))
   ·have hkeq:k=m:=by omega
    subst hkeq;have hfin:=hst.out;rw[HR.out]at hfin;injection hfin with i1 i2 i3 i4
    subst i1 i2 i3 i4;have hdt:dg1=true:=hdg (by omega);subst hdt;have hks:k<s.size:=by omega
    have q1:((k:Int)<(s.size:Int))=True:=by simp;omega
    have hc:=HP1.out;have e95:((s[k].toNat:Int)==95)=false:=by rw[hc];rfl
    have e46:((s[k].toNat:Int)==46)=false:=by rw[hc];rfl
    have g1: ∀[inst:Decidable ((48:Int)≤(s[k].toNat:Int))],@decide _ inst=true:=fun {inst}=>decide_eq_true (by omega)
    have g2: ∀[inst:Decidable ((s[k].toNat:Int)≤57)],@decide _ inst=false:=fun {inst}=>decide_eq_false (by omega)
    have o1:bits .or .u8 (s[k].toNat:Int) 32=112:=by
     rw[show bits .or .u8 (s[k].toNat:Int) 32=((s[k].toNat|||32:Nat):Int)from u8_or_nat s[k].toNat 32 (UInt8.toNat_lt _) (by omega),hc];rfl
    have HNB:=Lib.hid (show N≤16∧D≤1000 from⟨n123.1,by omega⟩);clear n123 k2 hkm p1b p2b hdg hc hlt;go_wp2_with fail
    all_goals first
     |(exfalso;omega)
     |(refine(Tryz.internal_strconv_lower _ _).mono ?_;rintro e w' ⟨rfl,rfl⟩;rw[o1];go_wp2_with fail)
    all_goals first
     |(exfalso;omega)
     |(refine(Tryz.internal_strconv_lower _ _).mono ?_;rintro e w'' ⟨rfl,rfl⟩;rw[o1];go_wp2_with fail)
    refine(Tryz.internal_strconv_lower _ _).mono ?_;rintro e w3 ⟨rfl,rfl⟩;rw[o1];have hc2:=HP2.out;have q2:((s.size:Int)≤(k:Int)+1)=False:=by simp;omega
    have x43:((s[k+1].toNat:Int)==43)=false:=by rw[hc2];rfl
    have x45:((s[k+1].toNat:Int)==45)=false:=by rw[hc2];rfl
    have r2n: ∀[inst:Decidable ((s[k+1].toNat:Int)<48)],@decide _ inst=false:=fun {inst}=>decide_eq_false (by omega)
    have r3n: ∀[inst:Decidable ((57:Int)<(s[k+1].toNat:Int))],@decide _ inst=false:=fun {inst}=>decide_eq_false (by omega)
    go_upto_region 67 with fail
    go_upto_region 68 with fail
    go_wp2_with fail;go_loop [7,9,20] (fun t7 t9 t20=> ∃(i:Nat),Hid (k+1≤i∧i≤k+2)∧t7= .int .i64 (i:Int)∧t9= .bool false∧t20= .int .i64 0) (fun t7 t9 t20=>s.size-(intOf t7).toNat)
    case atStart=>exact⟨k+1,Lib.hid ⟨Nat.le_refl _,by omega⟩,(vi (by first|rfl|omega)),rfl,rfl⟩
    case round=>
     obtain⟨i,hib,rfl,rfl,rfl⟩:=hrel;have hib':=hib.out;have hsz:=HSZ.out;by_cases hi:i<s.size
     ·obtain rfl:i=k+1:=by omega
      have hif:48≤s[k+1].toNat∧s[k+1].toNat≤57:=by omega
      have p1:(((k+1:Nat):Int)<(s.size:Int))=True:=by simp;omega
      have p1':((k:Int)+1<(s.size:Int))=True:=by simp;omega
      have p2: ∀[inst:Decidable ((48:Int)≤(s[k+1].toNat:Int))],@decide _ inst=true:=fun {inst}=>decide_eq_true (by omega)
      have p3: ∀[inst:Decidable ((s[k+1].toNat:Int)≤57)],@decide _ inst=true:=fun {inst}=>decide_eq_true (by omega)
      have p4:((s[k+1].toNat:Int)==95)=false:=by rw[hc2];rfl
      clear hib' q2 hsz;go_wp2_with fail
      all_goals first
       |(exfalso;omega)
       |(go_round;(case rel=>exact⟨k+2,Lib.hid ⟨by omega,Nat.le_refl _⟩,(vi (by first|rfl|omega|(simp only[wrap64];omega))),rfl,(vi (by first|rfl|omega|(simp only[wrap64];omega)))⟩);(case measure=>simp[intOf];omega))
     ·have hie:i=s.size:=by omega
      subst hie;clear q2 hib' hsz;cases em:((M:Int) != 0)
      all_goals
       go_wp2_with fail
       try rw[Exit.noGoto_ret]
       refine bodyPost_ret (results_tmp7 rfl _ _ _) rfl ?_;refine⟨ret7x ?_ rfl,rfl⟩
       first
        |exact(hex_zero (bneF em)).symm
        |exact hex_close (bneT em) HNB.out
end Go.Proofs.YtibcjfjacielbaaGreatDoor
