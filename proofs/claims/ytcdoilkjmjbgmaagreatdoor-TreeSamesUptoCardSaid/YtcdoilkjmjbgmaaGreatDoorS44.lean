import Derived.Test.YtcdoilkjmjbgmaaGreatDoorS51
import Derived.Test.YtcdoilkjmjbgmaaGreatDoorS43
/- Part of the proof of YtcdoilkjmjbgmaaGreatDoorCardY: TmC. -/
set_option maxRecDepth 100000
set_option maxHeartbeats 4000000
set_option linter.unusedVariables false
set_option linter.unusedSimpArgs false
namespace Go.Proofs.YtcdoilkjmjbgmaaGreatDoor
open Go.RowKit
open Go.Proofs.Tryz
variable {b1 b2:Nat} {w:World} {v1 v2:Value} {rs qs:List PR}
theorem Rv (h1:jr b1 w v1 rs) (h2:jr b2 w v2 qs) (hn:rs.length≤4294967296) (hm:qs.length≤4294967296) (hl: ∀r∈rs,gp r) (uR: ∀r∈qs,gp r):
  Calls prog 18 #[v1,v2] w (bD w (rs=qs)):=by
 obtain⟨a1,k1,rfl,jK⟩:=h1;obtain⟨a2,k2,rfl,ko⟩:=h2;have H1:=ae jK;have H2:=ae ko;have HL:=ae hl;have HM:=ae uR;clear jK ko hl uR;by_cases hle:rs.length=qs.length
 case neg=>
  have e1:((rs.length:Int)==(qs.length:Int))=false:=by simp;omega
  have e2:((rs.length:Int)=(qs.length:Int))=False:=bT (by omega);go_enter func18,ntmps18;go_wp2_with fail;go_ret;exact⟨false,rfl,⟨fun h=>(by cases h),fun e=>absurd (cn List.length e) hle⟩,aU _ _⟩
 have Xk:=ae hle;rw[←hle];clear hle hm;go_enter func18,ntmps18;go_wp2_with fail;go_loopw [5] (fun t5 W=> ∃j:Nat,t5= .int .i64 (j:Int)∧Hid (j≤rs.length)∧Hid (Below w.heap.size w W∧ ∀i (_:i<j) (hx:i<rs.length) (hy:i<qs.length),rs[i]=qs[i])) (fun t5 _=>rs.length-(intOf t5).toNat)
 case atStart=>exact⟨0,rfl,ae (aV _),ae ⟨aU _ _,fun i h=>absurd h (IE _)⟩⟩
 case round=>
  obtain⟨j,rfl,hj,LO⟩:=hrel;have hb:Hid (Below w.heap.size w wr):=ae LO.out.1;by_cases aA:j<rs.length
  ·have p1:((j:Int)<(rs.length:Int))=True:=aD (by omega);have jR:j<qs.length:=by rw[←Xk.out];exact aA
   obtain⟨g,o,rfl,_,hg,vm,vo,vi,vl,lg,bf⟩:=H1.out j aA;obtain⟨g',o',rfl,_,Sq,vm',vo',Sl,vl',LP,vp⟩:=H2.out j jR;have hlen:=HL.out rs[j] (jj aA);have Bk:=HM.out qs[j] (jj jR);generalize hR:rs[j]=r at lg bf hlen;generalize hQ:qs[j]=q at LP vp Bk;have XF:=ae (And.intro (show rs[j]=r from hR) (show qs[j]=q from hQ));clear hR hQ;have XD:Hid (∀W,Below w.heap.size w W→Calls prog 12 #[jM r vm vo vi vl,jM q vm' vo' Sl vl'] W (bD W (r=q))):=ae fun W h=>KH (lg.below h) (LP.below h) hlen Bk
   obtain⟨⟨am,cm,rfl,_⟩,⟨ao,co,rfl,_⟩,⟨ai,ci,rfl,_⟩,⟨al,cl,rfl,_⟩⟩:=lg;obtain⟨⟨am',cm',rfl,_⟩,⟨ao',co',rfl,_⟩,⟨ai',ci',rfl,_⟩,⟨al',cl',rfl,_⟩⟩:=LP;have yh:Below w.heap.size w wr.drew:=hb.out.drew;obtain⟨c0,c1,c2,c3,c4,c5,c6,c7,c8,c9,PC,PD,c12,PE,PF,NY,NZ⟩:=sn (W:=wr.drew) (o:=o+j*17) fun k hk=>(yh.cell (p:=⟨g,_,none⟩) hg).trans (bf k hk)
   obtain⟨d0,d1,d2,d3,d4,d5,d6,d7,d8,d9,d10,d11,d12,d13,d14,d15,d16⟩:=sn (W:=wr.drew) (o:=o'+j*17) fun k hk=>(yh.cell (p:=⟨g',_,none⟩) Sq).trans (vp k hk)
   simp only[jM]at XD;clear bf vp yh hlen Bk hg Sq;go_upto_region 6 with(fail)
   go_region_law (go_simp;go_at_call 12;(with_reducible refine(XD.out _ hb.out.drew).mono ?_);rintro e W1 ⟨bb,rfl,oc,aY⟩;have kG:=ae oc;have cF:Hid (Below w.heap.size w W1):=ae (hb.out.trans ((((aU _ wr).drew).trans aY).mono hb.out.size));clear aY oc)
   all_goals
    cases bb with
    |false=>
     go_wp2_with fail;go_ret;refine⟨false,rfl,⟨fun h=>(by cases h),fun e=>?_⟩,cF.out⟩;exact kG.out.2 (by rw[←XF.out.1,←XF.out.2];exact List.getElem_of_eq e _)
    |true=>
     have HN:Hid (Below w.heap.size w W1∧ ∀i (_:i<j+1) (hx:i<rs.length) (hy:i<qs.length),rs[i]=qs[i]):=ae ⟨cF.out,fun i hi hx hy=>by
      by_cases e:i=j
      ·subst e;have:=kG.out.1 rfl;rw[←XF.out.1,←XF.out.2]at this;exact this
      ·exact LO.out.2 i (by omega) hx hy⟩
     clear kG;go_wp2_with fail;go_roundw
     case rel=>exact⟨j+1,by go_num,ae aA,HN⟩
     case measure=>simp[intOf];omega
  ·have p1:((j:Int)<(rs.length:Int))=False:=bT (by omega);have hje:j=rs.length:=by have:=hj.out;omega
   go_wp2_with fail;go_ret;exact⟨true,rfl,⟨fun _=>O7 Xk.out fun i hx hy=>LO.out.2 i (by omega) hx hy,fun _=>rfl⟩,hb.out⟩
