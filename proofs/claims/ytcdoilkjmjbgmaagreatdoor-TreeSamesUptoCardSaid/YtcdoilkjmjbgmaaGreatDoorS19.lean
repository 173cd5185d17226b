import Derived.Test.YtcdoilkjmjbgmaaGreatDoorS05
import Derived.Test.YtcdoilkjmjbgmaaGreatDoorS18
import Derived.WalkMore
/- Part of the proof of YtcdoilkjmjbgmaaGreatDoorCardY: FpD. -/
set_option maxRecDepth 100000
set_option maxHeartbeats 4000000
set_option linter.unusedVariables false
set_option linter.unusedSimpArgs false
namespace Go.Proofs.YtcdoilkjmjbgmaaGreatDoor
open Go.RowKit
open Go.Proofs.Tryz
variable {a b X X' z P E base sg:Int} {M N D e k m:Nat} {tr dt dg:Bool}
theorem qb {fn:Func} {a b c d e f g:Tmp} (h:fn.results= #[.tmp a,.tmp b,.tmp c,.tmp d,.tmp e,.tmp f,.tmp g]) (tmps:Array Value) (P:Program) (w:World):
  (results fn tmps).run P w= .ok (.tuple #[tmps.getD a undef,tmps.getD b undef,tmps.getD c undef,tmps.getD d undef,tmps.getD e undef,tmps.getD f undef,tmps.getD g undef]) w:=by
 simp[results,h]
theorem vi {k:IntKind} (h:a=b):Value.int k a=Value.int k b:=by rw[h]
theorem akg {M:Int} (h:X=X'):Ending.returned (.tuple #[.int .u64 M,.int .i64 X,.bool false,.bool tr,.bool false,.int .i64 z,.bool true])= .returned (.tuple #[.int .u64 M,.int .i64 X',.bool false,.bool tr,.bool false,.int .i64 z,.bool true]):=by rw[h]
theorem Vn (h:M=0):oz ⟨M,N,D,P,dt,dg,tr⟩ E=0:=by rw[oz,ah (by simpa using h)]
theorem Fc (hM:M≠0) (b:N≤19∧D≤1000∧ -1000≤P∧P≤1000) (he:e≤100009) (hb:base=if dt then P else(D:Int)) (hs:sg=(e:Int)∨sg= -(e:Int)):
  wrap64 (wrap64 (base+sg)-(N:Int))=oz ⟨M,N,D,P,dt,dg,tr⟩ sg:=by
 have aQ: -1000≤base∧base≤1000:=by
  rw[hb];split<;>omega
 rw[oz,az hM];simp only;rw[←hb];unfold wrap64;omega
theorem acd {z:Nat} (n1:N≤19) (n3:D≤k) (n5: -(k:Int)≤P) (n6:P≤k) (hk:k≤m) (hm:m≤z) (hs:z≤1000):N≤19∧D≤1000∧ -1000≤P∧P≤1000:=by omega
set_option maxHeartbeats 8000000 in
theorem wU (s:ByteArray) (w:World) (hs:s.size≤1000) (mm:Nat) (E:Int) (hE:mm=s.size∧E=0∨ ∃j neg,IQ s.data.toList mm j neg∧E=if neg then-((zC s.data.toList j s.size:Nat):Int)else((zC s.data.toList j s.size:Nat):Int)) (hm:lu s.data.toList mm) (h0:0<mm) (i0:Nat) (s9:i0<mm) (hd:digit (au s.data.toList i0)=true)
  (hx: ∀h:2<s.size,((s[1].toNat|||32:Nat):Int)≠120) (M N D:Nat) (P:Int) (dt dg tr:Bool) (hr:fl s.data.toList mm=⟨M,N,D,P,dt,dg,tr⟩):
  Calls prog 206 #[.string s] w fun e w'=>e= .returned (.tuple #[.int .u64 (M:Int),.int .i64 (oz ⟨M,N,D,P,dt,dg,tr⟩ E),.bool false,.bool tr,.bool false,.int .i64 (s.size:Int),.bool true])∧w=w':=by
 have AK:=hm.1;rw[af]at AK;have sT:0<s.size:=by omega
 have Sf:((s[0].toNat:Int)==43)=false∧((s[0].toNat:Int)==45)=false:=by
  have h1:=hm.2 0 h0;rw[ay sT]at h1;rcases h1 with h1|h1
  ·have:=aJ h1;constructor<;>(simp;omega)
  ·constructor<;>(simp;omega)
 obtain⟨e43,e45⟩:=Sf;have z1:(s=ByteArray.empty)=False:=by
  apply bT;intro h;rw[h]at sT;simp at sT
 have HE:=ae hE;clear hE;have HM:=ae hm;have HX:=ae hx;have HR:=ae hr;have HD:=ae hd;have HI:=ae s9;clear hm hx hr hd s9;go_enter func206,ntmps206;go_wp2_with fail;go_step3;go_upto_region 12 with fail
 go_cut [54]from 36 to 54 (fun c wx=>c= .bool false∧wx=w)
 case first=>
  by_cases h2:2<s.size
  ·have q1:((2:Int)<(s.size:Int))=True:=by simp;omega
   cases qz:((s[0].toNat:Int)==48)
   ·go_wp2_with fail;go_meet;exact⟨rfl,rfl⟩
   ·have akh:(bits .or .u8 ((s[1].toNat:Nat):Int) 32==120)=false:=by
     have:=HX.out h2;rw[show bits .or .u8 ((s[1].toNat:Nat):Int) 32=((s[1].toNat|||32:Nat):Int)from vC s[1].toNat 32 (uc _) (by omega)];simpa using this
    go_wp2_with fail;refine(Tryz.internal_strconv_lower _ _).mono ?_;rintro e w' ⟨rfl,rfl⟩;go_wp2_with fail;go_meet;exact⟨rfl,rfl⟩
  ·have q1:((2:Int)<(s.size:Int))=False:=by simp;omega
   go_wp2_with fail;go_meet;exact⟨rfl,rfl⟩
 case rest=>
  obtain⟨rfl,rfl⟩:=hcut;go_wp2_with fail;go_step3;go_wp2_with fail;go_loop [2,5,7,9,13,14,15,16,17] (fun t2 t5 t7 t9 t13 t14 t15 t16 t17=> ∃(k M N D:Nat) (P:Int) (dt dg tr:Bool),Hid (fl s.data.toList k=⟨M,N,D,P,dt,dg,tr⟩)∧Hid (k≤mm)∧t2= .int .u64 (M:Int)∧t5= .bool tr∧t7= .int .i64 (k:Int)∧t9= .bool false∧t13= .bool dt∧t14= .bool dg∧t15= .int .i64 (D:Int)∧t16= .int .i64 (N:Int)∧t17= .int .i64 P) (fun t2 t5 t7 t9 t13 t14 t15 t16 t17=>s.size-(intOf t7).toNat)
  case atStart=>exact⟨0,0,0,0,0,false,false,false,ae rfl,ae (aV _),rfl,rfl,rfl,rfl,rfl,rfl,rfl,rfl,rfl⟩
  case round=>
   obtain⟨k,M1,N1,D1,P1,Xw,dg1,Xx,dy,Ph,rfl,rfl,rfl,rfl,rfl,rfl,rfl,rfl,rfl⟩:=hrel;have cH:=At HM.out k Ph.out;rw[dy.out]at cH;obtain⟨⟨n1,n2,n3⟩,n4,n5,n6⟩:=cH;simp only at n1 n2 n3 n4 n5 n6;have H4:=ae n4;clear n4;have af0:=Ph.out;have wk:wrap64 ((k:Int)+1)=((k+1:Nat):Int):=by unfold wrap64;omega
   have wd:wrap64 ((D1:Int)+1)=((D1+1:Nat):Int):=by unfold wrap64;omega
   have wn:wrap64 ((N1:Int)+1)=((N1+1:Nat):Int):=by unfold wrap64;omega
   have wp:wrap64 (P1-1)=P1-1:=by unfold wrap64;omega
   by_cases aA:k<mm
   ·have nZ:k<s.size:=by omega
    have qJ:k<s.data.toList.length:=by rw[af];exact nZ
    have cI:au s.data.toList k=s[k]:=ay nZ;have q1:((k:Int)<(s.size:Int))=True:=by simp;omega
    have mX:=HM.out.2 k aA;rw[cI]at mX;have p10:N1<19→M1<1000000000000000000:=fun h=>iv H4.out (dZ (n:=10) (by omega) (show N1≤18 by omega))
    have af1:(s[k].toNat=46∨48≤s[k].toNat∧s[k].toNat≤57):=by
     rcases mX with h|h
     ·exact .inr (aJ h)
     ·exact .inl h.1
    have HB:=ae (show N1≤19∧N1≤D1∧D1≤k∧(N1<19→M1<1000000000000000000)∧ -(k:Int)≤P1∧P1≤k∧(s[k].toNat=46∨48≤s[k].toNat∧s[k].toNat≤57)∧k<1000 from⟨n1,n2,n3,p10,n5,n6,af1,by omega⟩);clear p10 af1;by_cases od:s[k].toNat=46
    ·have ZO:((s[k].toNat:Int)==95)=false:=by rw[od];rfl
     have se:((s[k].toNat:Int)==46)=true:=by rw[od];rfl
     have hdt:Xw=false:=by
      have h1:=Jh k (by omega) (mX.resolve_left (by intro h;have:=aJ h;omega)).2;rw[dy.out]at h1;exact h1
     subst hdt;have HN:=ae (afP dy.out qJ (by rw[cI];exact od));have HK:=ae (show k+1≤mm by omega);have HA:=ae cI;clear mX cI n1 n2 n3 n5 n6;go_wp2_with fail
     all_goals first
      |(exfalso;first|(have:=jn qz;omega)|(have:=kE qz;omega)|(have:=jn ne;omega)|(have:=kE ne;omega)|omega)
      |(go_round;(case rel=>exact⟨k+1,M1,N1,D1,D1,true,dg1,Xx,HN,HK,(vi (by first|rfl|omega|(obtain⟨b1,b2,b3,b4,b5,b6,b7,b8⟩:=HB.out;simp only[wrap64,cZ,iN];omega))),rfl,(vi (by first|rfl|omega|(obtain⟨b1,b2,b3,b4,b5,b6,b7,b8⟩:=HB.out;simp only[wrap64,cZ,iN];omega))),rfl,rfl,rfl,(vi (by first|rfl|omega|(obtain⟨b1,b2,b3,b4,b5,b6,b7,b8⟩:=HB.out;simp only[wrap64,cZ,iN];omega))),(vi (by first|rfl|omega|(obtain⟨b1,b2,b3,b4,b5,b6,b7,b8⟩:=HB.out;simp only[wrap64,cZ,iN];omega))),(vi (by first|rfl|omega|(obtain⟨b1,b2,b3,b4,b5,b6,b7,b8⟩:=HB.out;simp only[wrap64,cZ,iN];omega)))⟩);(case measure=>simp[intOf];omega))
    ·have oo:digit s[k]=true:=mX.resolve_right (fun h=>od h.1);have FJ:=aJ oo;have ZO:((s[k].toNat:Int)==95)=false:=by simp;omega
     have se:((s[k].toNat:Int)==46)=false:=by simp;omega
     have g1:((48:Int)≤(s[k].toNat:Int))=True:=by simp;omega
     have g2:((s[k].toNat:Int)≤57)=True:=by simp;omega
     have HA:=ae cI;have HK:=ae (show k+1≤mm by omega);have HDG:=ae oo;have HDF:=ae FJ;by_cases hz:s[k].toNat=48∧D1=0
     ·have qz:((s[k].toNat:Int)==48)=true:=by rw[hz.1];rfl
      obtain⟨de,rfl⟩:=hz;have HN:=ae (Yp dy.out qJ (by rw[cI];exact de) rfl);clear mX cI n1 n2 n3 n5 n6 FJ;go_wp2_with fail
      all_goals first
       |(exfalso;first|(have:=jn qz;omega)|(have:=kE qz;omega)|(have:=jn ne;omega)|(have:=kE ne;omega)|omega)
       |(go_round;(case rel=>exact⟨k+1,M1,N1,0,P1-1,Xw,true,Xx,HN,HK,(vi (by first|rfl|omega|(obtain⟨b1,b2,b3,b4,b5,b6,b7,b8⟩:=HB.out;simp only[wrap64,cZ,iN];omega))),rfl,(vi (by first|rfl|omega|(obtain⟨b1,b2,b3,b4,b5,b6,b7,b8⟩:=HB.out;simp only[wrap64,cZ,iN];omega))),rfl,rfl,rfl,(vi (by first|rfl|omega|(obtain⟨b1,b2,b3,b4,b5,b6,b7,b8⟩:=HB.out;simp only[wrap64,cZ,iN];omega))),(vi (by first|rfl|omega|(obtain⟨b1,b2,b3,b4,b5,b6,b7,b8⟩:=HB.out;simp only[wrap64,cZ,iN];omega))),(vi (by first|rfl|omega|(obtain⟨b1,b2,b3,b4,b5,b6,b7,b8⟩:=HB.out;simp only[wrap64,cZ,iN];omega)))⟩);(case measure=>simp[intOf];omega))
     ·have ej:((s[k].toNat:Int)==48)=false∨((s[k].toNat:Int)==48)=true∧((D1:Int)==0)=false:=by
       by_cases h1:s[k].toNat=48
       ·right;have hD1:D1≠0:=fun h=>hz ⟨h1,h⟩
        refine⟨by rw[h1];rfl,?_⟩;simp;omega
       ·left;simp;omega
      by_cases hn:N1<19
      ·have e19:((N1:Int)<19)=True:=by simp;omega
       have hN:=afQ dy.out qJ (by rw[cI];exact oo) (by rw[cI];exact hz) hn;rw[cI]at hN;have HN:=ae hN;clear mX cI n1 n2 n3 n5 n6 hz FJ hN;rcases ej with qz|⟨qz,ed⟩
       all_goals
        go_wp2_with fail
        all_goals first
         |(exfalso;first|(have:=jn qz;omega)|(have:=kE qz;omega)|(have:=jn ne;omega)|(have:=kE ne;omega)|omega)
         |(go_round;(case rel=>exact⟨k+1,M1*10+(s[k].toNat-48),N1+1,D1+1,P1,Xw,true,Xx,HN,HK,(vi (by first|rfl|omega|(obtain⟨b1,b2,b3,b4,b5,b6,b7,b8⟩:=HB.out;simp only[wrap64,cZ,iN];omega))),rfl,(vi (by first|rfl|omega|(obtain⟨b1,b2,b3,b4,b5,b6,b7,b8⟩:=HB.out;simp only[wrap64,cZ,iN];omega))),rfl,rfl,rfl,(vi (by first|rfl|omega|(obtain⟨b1,b2,b3,b4,b5,b6,b7,b8⟩:=HB.out;simp only[wrap64,cZ,iN];omega))),(vi (by first|rfl|omega|(obtain⟨b1,b2,b3,b4,b5,b6,b7,b8⟩:=HB.out;simp only[wrap64,cZ,iN];omega))),(vi (by first|rfl|omega|(obtain⟨b1,b2,b3,b4,b5,b6,b7,b8⟩:=HB.out;simp only[wrap64,cZ,iN];omega)))⟩);(case measure=>simp[intOf];omega))
      ·have e19:((N1:Int)<19)=False:=by simp;omega
       cases ne:((s[k].toNat:Int) != 48)
       ·have RT:s[k].toNat=48:=by
         have:(s[k].toNat:Int)=48:=by simpa using ne
         omega
        have hN:=Yq dy.out qJ (by rw[cI];exact RT) (by rw[cI];exact hz) hn;have HN:=ae hN;clear mX cI n1 n2 n3 n5 n6 hz FJ hN;rcases ej with qz|⟨qz,ed⟩
        all_goals
         go_wp2_with fail
         all_goals first
          |(exfalso;first|(have:=jn qz;omega)|(have:=kE qz;omega)|(have:=jn ne;omega)|(have:=kE ne;omega)|omega)
          |(go_round;(case rel=>exact⟨k+1,M1,N1,D1+1,P1,Xw,true,Xx,HN,HK,(vi (by first|rfl|omega|(obtain⟨b1,b2,b3,b4,b5,b6,b7,b8⟩:=HB.out;simp only[wrap64,cZ,iN];omega))),rfl,(vi (by first|rfl|omega|(obtain⟨b1,b2,b3,b4,b5,b6,b7,b8⟩:=HB.out;simp only[wrap64,cZ,iN];omega))),rfl,rfl,rfl,(vi (by first|rfl|omega|(obtain⟨b1,b2,b3,b4,b5,b6,b7,b8⟩:=HB.out;simp only[wrap64,cZ,iN];omega))),(vi (by first|rfl|omega|(obtain⟨b1,b2,b3,b4,b5,b6,b7,b8⟩:=HB.out;simp only[wrap64,cZ,iN];omega))),(vi (by first|rfl|omega|(obtain⟨b1,b2,b3,b4,b5,b6,b7,b8⟩:=HB.out;simp only[wrap64,cZ,iN];omega)))⟩);(case measure=>simp[intOf];omega))
       ·have RT:s[k].toNat≠48:=by
         have: ¬(s[k].toNat:Int)=48:=by simpa using ne
         omega
        have hN:=Yr dy.out qJ (by rw[cI];exact oo) (by rw[cI];exact RT) hn;have HN:=ae hN;clear mX cI n1 n2 n3 n5 n6 hz FJ hN;rcases ej with qz|⟨qz,ed⟩
        all_goals
         go_wp2_with fail
         all_goals first
          |(exfalso;first|(have:=jn qz;omega)|(have:=kE qz;omega)|(have:=jn ne;omega)|(have:=kE ne;omega)|omega)
          |(go_round;(case rel=>exact⟨k+1,M1,N1,D1+1,P1,Xw,true,true,HN,HK,(vi (by first|rfl|omega|(obtain⟨b1,b2,b3,b4,b5,b6,b7,b8⟩:=HB.out;simp only[wrap64,cZ,iN];omega))),rfl,(vi (by first|rfl|omega|(obtain⟨b1,b2,b3,b4,b5,b6,b7,b8⟩:=HB.out;simp only[wrap64,cZ,iN];omega))),rfl,rfl,rfl,(vi (by first|rfl|omega|(obtain⟨b1,b2,b3,b4,b5,b6,b7,b8⟩:=HB.out;simp only[wrap64,cZ,iN];omega))),(vi (by first|rfl|omega|(obtain⟨b1,b2,b3,b4,b5,b6,b7,b8⟩:=HB.out;simp only[wrap64,cZ,iN];omega))),(vi (by first|rfl|omega|(obtain⟨b1,b2,b3,b4,b5,b6,b7,b8⟩:=HB.out;simp only[wrap64,cZ,iN];omega)))⟩);(case measure=>simp[intOf];omega))
   ·have LK:k=mm:=by omega
    have mu:=dy.out;have qw:=Ji HM.out HD.out k Ph.out (by have:=HI.out;omega);rw[LK,HR.out]at mu;rw[dy.out]at qw;simp only at qw;injection mu with i1 i2 i3 i4 i5 i6 i7
    subst i1 i2 i3 i4 i5 i6 i7 qw;clear aA;rcases HE.out with⟨hmz,rfl⟩|⟨j,neg,hex,hEE⟩
    ·rw[hmz]at LK;clear HE;have q1:((k:Int)<(s.size:Int))=False:=by simp;omega
     have uT:(k:Int)=(s.size:Int):=by omega
     have wx:wrap64 ((D:Int)-(N:Int))=(D:Int)-(N:Int):=by unfold wrap64;omega
     have wy:wrap64 (P-(N:Int))=P-(N:Int):=by unfold wrap64;omega
     have WH:=ae (show oz ⟨M,N,D,P,dt,true,tr⟩ 0=if M≠0 then(if dt then P else(D:Int))-(N:Int)else 0 by simp[oz]);clear n1 n2 n3 n5 n6 af0;cases dt
     all_goals
      cases em:((M:Int) != 0)
      all_goals
       go_wp2_with fail
       try rw[qW]
       refine cB (qb rfl _ _ _) rfl ?_;refine⟨?_,rfl⟩;rw[WH.out]
       first
        |(have hM:=AP em;subst hM;simp[uT];done)
        |(have hM:=zO em;rw[az hM];simp[uT];done)
    ·subst LK;clear HE;have nZ:=hex.lt;rw[af]at nZ;have cI:=ay (s:=s) nZ;have q1:((k:Int)<(s.size:Int))=True:=by simp;omega
     have hE:s[k].toNat=101∨s[k].toNat=69:=by
      have:=hex.tc;rw[cI]at this;simp[tc]at this;exact this
     have ZO:((s[k].toNat:Int)==95)=false:=by simp;omega
     have se:((s[k].toNat:Int)==46)=false:=by simp;omega
     have g1:((48:Int)≤(s[k].toNat:Int))=True:=by simp;omega
     have g2:((s[k].toNat:Int)≤57)=False:=by simp;omega
     have LL:(bits .or .u8 ((s[k].toNat:Nat):Int) 32==101)=true:=by
      rw[show bits .or .u8 ((s[k].toNat:Nat):Int) 32=((s[k].toNat|||32:Nat):Int)from vC s[k].toNat 32 (uc _) (by omega)];rcases hE with h|h<;>(rw[h];rfl)
     have hjl:=hex.some;rw[af]at hjl;have hkj:k+1≤j:=by rcases hex.sign with h|h|h<;>omega
     have aki:k+1<s.size:=by omega
     have wk2:wrap64 ((k:Int)+1+1)=(k:Int)+2:=by unfold wrap64;omega
     have hNB:=ae (acd n1 n3 n5 n6 af0 AK hs);have Xt:(j=k+1∧neg=false∧((s[k+1].toNat:Int)==43)=false∧((s[k+1].toNat:Int)==45)=false)∨(j=k+2∧neg=false∧((s[k+1].toNat:Int)==43)=true)∨(j=k+2∧neg=true∧((s[k+1].toNat:Int)==43)=false∧((s[k+1].toNat:Int)==45)=true):=by
      have qR:=ay (s:=s) aki;rcases hex.sign with⟨h1,h2,h3⟩|⟨h1,h2,h3⟩|⟨h1,h2,h3⟩
      ·left;subst h1;rw[qR]at h3;have:=aJ h3;refine⟨rfl,h2,?_,?_⟩<;>(simp;omega)
      ·right;left;rw[qR]at h3;exact⟨h1,h2,by rw[h3];rfl⟩
      ·right;right;rw[qR]at h3;exact⟨h1,h2,by rw[h3];rfl,by rw[h3];rfl⟩
     have abd:=hex.fh j (aS _) (by rw[af];exact hjl);rw[ay hjl]at abd;have hjf:=aJ abd;have r2n: ∀[inst:Decidable ((s[j].toNat:Int)<48)],@decide _ inst=false:=fun {inst}=>gj (by omega)
     have r3n: ∀[inst:Decidable ((57:Int)<(s[j].toNat:Int))],@decide _ inst=false:=fun {inst}=>gj (by omega)
     obtain⟨J,hJ⟩: ∃J,j=J:=⟨_,rfl⟩;have HDG:Hid (∀i,J≤i→i<s.data.toList.length→digit (au s.data.toList i)=true):=ae (by rw[←hJ];exact hex.fh);have HJL:Hid (J<s.size):=ae (by rw[←hJ];exact hjl);have HEE:Hid (E=if neg then-((zC s.data.toList J s.size:Nat):Int)else((zC s.data.toList J s.size:Nat):Int)):=ae (by rw[←hJ];exact hEE);have HL1:=ae LL;have HL5:=ae wk2;clear LL wk2 abd hEE;clear cI hE hex n1 n2 n3 n5 n6;rcases Xt with⟨rfl,rfl,x43,x45⟩|⟨rfl,rfl,x43⟩|⟨rfl,rfl,x43,x45⟩
     all_goals
      have HJ:=ae hJ;clear hJ
      try have r4:((s.size:Int)≤(k:Int)+2)=False:=by have:=HJL.out;have:=HJ.out;simp;omega
      cases dt
      all_goals
       go_wp2_with fail;refine(Tryz.internal_strconv_lower _ _).mono ?_;rintro e w' ⟨rfl,rfl⟩;have LL:=HL1.out;have q2:((s.size:Int)≤(k:Int)+1)=False:=by have:=HJL.out;have:=HJ.out;simp;omega
       clear wk;go_upto_region 67 with fail
       go_upto_region 68 with fail
       go_wp2_with fail;go_loop [7,9,20] (fun t7 t9 t20=> ∃(i e:Nat),Hid (zC s.data.toList J i=e)∧Hid (J≤i∧i≤s.size)∧t7= .int .i64 (i:Int)∧t9= .bool false∧t20= .int .i64 (e:Int)) (fun t7 t9 t20=>s.size-(intOf t7).toNat)
       case atStart=>exact⟨J,0,ae (oM _ _),ae ⟨aS _,jk HJL.out⟩,(vi (by have:=HJ.out;omega)),rfl,rfl⟩
       case round=>
        obtain⟨i,e,hei,ZK,rfl,rfl,rfl⟩:=hrel;have Ik:=ZK.out;have NR:e≤100009:=by
         rw[←hei.out];exact F2 i Ik.1 (by rw[af];exact Ik.2) fun i' h1 h2=>HDG.out i' h1 (by rw[af];omega)
        by_cases hi:i<s.size
        ·have qK:=HDG.out i Ik.1 (by rw[af];exact hi);rw[ay hi]at qK;have WJ:=aJ qK;have IS:zC s.data.toList J (i+1)=mC e s[i]:=by rw[wb Ik.1 (by rw[af];exact hi),hei.out,ay hi]
         have HSC:=ae IS;have HIF:=ae WJ;have p1:((i:Int)<(s.size:Int))=True:=by simp;omega
         have p2: ∀[inst:Decidable ((48:Int)≤(s[i].toNat:Int))],@decide _ inst=true:=fun {inst}=>dO (by omega)
         have p3: ∀[inst:Decidable ((s[i].toNat:Int)≤57)],@decide _ inst=true:=fun {inst}=>dO (by omega)
         have p4:((s[i].toNat:Int)==95)=false:=by simp;omega
         have HIB:=ae (show J≤i+1∧i+1≤s.size by omega);clear qK IS q2 Ik;by_cases h4:e<10000
         ·have p5:((e:Int)<10000)=True:=by simp;omega
          have dy:mC e s[i]=e*10+(s[i].toNat-48):=by rw[mC,az h4]
          have xa:=ae (HSC.out.trans dy);clear dy;go_wp2_with fail
          all_goals first
           |(exfalso;omega)
           |(go_round;(case rel=>exact⟨i+1,e*10+(s[i].toNat-48),xa,HIB,(vi (by first|rfl|omega|(simp only[wrap64];omega))),rfl,(vi (by first|rfl|omega|(simp only[wrap64];omega)))⟩);(case measure=>simp[intOf];omega))
         ·have p5:((e:Int)<10000)=False:=by simp;omega
          have dy:mC e s[i]=e:=by rw[mC,ah h4]
          have xa:=ae (HSC.out.trans dy);clear dy;go_wp2_with fail
          all_goals first
           |(exfalso;omega)
           |(go_round;(case rel=>exact⟨i+1,e,xa,HIB,(vi (by first|rfl|omega|(simp only[wrap64];omega))),rfl,rfl⟩);(case measure=>simp[intOf];omega))
        ·have Lu:i=s.size:=by omega
         subst Lu;clear q2;cases em:((M:Int) != 0)
         all_goals
          go_wp2_with fail
          try rw[qW]
          refine cB (qb rfl _ _ _) rfl ?_;refine⟨akg ?_,rfl⟩;rw[HEE.out,hei.out]
          first
           |exact(Vn (AP em)).symm
           |exact Fc (zO em) hNB.out NR rfl (.inl rfl)
           |exact Fc (zO em) hNB.out NR rfl (.inr rfl)
