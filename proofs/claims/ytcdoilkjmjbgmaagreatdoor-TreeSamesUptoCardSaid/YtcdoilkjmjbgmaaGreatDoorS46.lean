import Derived.Test.YtcdoilkjmjbgmaaGreatDoorS42
import Derived.Test.YtcdoilkjmjbgmaaGreatDoorS45
import Derived.Test.YtcdoilkjmjbgmaaGreatDoorS44
/- Part of the proof of YtcdoilkjmjbgmaaGreatDoorCardY: TvW TmD. -/
set_option maxRecDepth 100000
set_option maxHeartbeats 4000000
set_option linter.unusedVariables false
set_option linter.unusedSimpArgs false
namespace Go.Proofs.YtcdoilkjmjbgmaaGreatDoor
open Go.RowKit
open Go.Proofs.Tryz
variable {rs:List PR} {r:PR} {w:World} {b n c m z:Nat} {e:TypeId} {a:Option Addr} {xs:List Value} {T:Nat→World→Prop}
theorem ir (rs:List PR):(jv rs).map (·.2)=rowsOf rs:=by
 unfold rowsOf;split
 ·rename_i h;exact Fv h
 ·rename_i h;unfold jv;rw[ah h];rfl
theorem CG (rs:List PR):(rowsOf rs).length≤rs.length:=by
 unfold rowsOf;split
 ·exact aS _
 ·exact aV _
theorem CH (h:r∈rowsOf rs):r∈rs:=by
 unfold rowsOf at h;split at h
 ·exact h
 ·cases h
theorem Rx (h:w.ownsRow b e z (.slice a n c) m xs):n=m:=by
 rcases h.2 with⟨hv,h0⟩|⟨g,cap,cur,hv,_⟩
 ·injection hv with e1 e2 e3;omega
 ·injection hv
theorem bD.d {W:World} {p:Prop} {d:Bool} {e:Ending} {W':World} (h:bD W p e W') (hd:d=true↔p):aF W d e W':=by
 obtain⟨b,rfl,hb,hw⟩:=h;have:b=d:=eo.2 (hb.trans hd.symm);rw[this];exact⟨rfl,hw⟩
theorem xW (w:World):eO 0 w .nilIface []:=.inl ⟨rfl,rfl⟩
theorem DZ (hT:pv (fun _=>True) T) (w:World) (ao bo:Option Addr) (na ca nb cb:Nat) (rs qs:List PR) (h:ey w (.slice ao na ca) rs) (h2:ey w (.slice bo nb cb) qs) (hlen:rs.length≤1048576) (TG:qs.length≤1048576) (o3: ∀r∈rs,ju r) (Ya: ∀r∈qs,ju r) (kp:T w.heap.size w):
  Calls prog 5 #[.slice ao na ca,.slice bo nb cb] w (aF w true):=by
 have HAW:=ae (KL hT w kp);have hna:na=rs.length:=by obtain⟨_,_,hv,_⟩:=h.2;injection hv
 have uQ:nb=qs.length:=by obtain⟨_,_,hv,_⟩:=h2.2;injection hv
 have HRA:Hid (∀W,Below w.heap.size w W→Calls prog 8 #[.slice ao na ca] W (fN W rs)):=ae fun W hb=>Fq (h.below hb) hlen o3
 have HRB:Hid (∀W,Below w.heap.size w W→Calls prog 8 #[.slice bo nb cb] W (fN W qs)):=ae fun W hb=>Fq (h2.below hb) TG Ya
 have FG:Hid (∀W,Below w.heap.size w W→Calls prog 9 #[.slice ao na ca] W (gy W rs)):=ae fun W hb=>uH hT (h.below hb) hlen o3 (hT.mono (hT.fQ kp hb) hb.size)
 have HTB:Hid (∀W,Below w.heap.size w W→Calls prog 9 #[.slice bo nb cb] W (gy W qs)):=ae fun W hb=>uH hT (h2.below hb) TG Ya (hT.mono (hT.fQ kp hb) hb.size)
 have Aj:Hid (∀W,Calls prog 22 #[.agg #[.nilIface],.agg #[.nilIface]] W (aF W true)):=ae fun W=>(kj (rs:=[]) (qs:=[]) (xW W) (xW W) rfl rfl (by decide) (by decide) (fun r hr=>by cases hr) (fun r hr=>by cases hr)).mono fun e W' h=>h.d (by simp)
 have H9:Hid ((rowsOf rs).length≤4294967296∧ ∀r∈rowsOf rs,gp r):=ae ⟨by have:=CG rs;omega,fun r hr=>(o3 r (CH hr)).len⟩;have WT:Hid ((rowsOf qs).length≤4294967296∧ ∀r∈rowsOf qs,gp r):=ae ⟨by have:=CG qs;omega,fun r hr=>(Ya r (CH hr)).len⟩;have arB:na≤1048576:=by omega
 have afz:nb≤1048576:=by omega
 clear h h2 hlen TG o3 Ya kp hna uQ;go_enter func5,ntmps5;go_wp2_with fail;refine HAW.out.mono ?_;rintro e w1 ⟨rfl,hb⟩;have B1:=ae hb;clear hb;go_wp2_with fail;refine(Aj.out _).mono ?_;rintro e w2 ⟨rfl,hb⟩;have B2:=ae (B1.out.trans (hb.mono B1.out.size));clear hb;by_cases iA:65536<na
 ·have p1:((65536:Int)<(na:Int))=True:=aD (by omega);go_wp2_with fail;go_ret;exact⟨rfl,B2.out⟩
 have p1:((65536:Int)<(na:Int))=False:=bT (by omega);by_cases anw:65536<nb
 ·have p2:((65536:Int)<(nb:Int))=True:=aD (by omega);go_wp2_with fail;go_ret;exact⟨rfl,B2.out⟩
 have p2:((65536:Int)<(nb:Int))=False:=bT (by omega);go_wp2_with fail;refine(FG.out _ B2.out).mono ?_;rintro e w3 ⟨v1,rfl,rl,cu⟩;have ov1:[v1].all (·.oneCell')=true:=by simp[rl.one]
 have HR1:=ae rl;have B3:=ae (B2.out.trans (cu.mono B2.out.size));clear cu rl;go_wp2_with (refine ax rfl 29 (.tmp 5) (.tmp 34) rfl w3.heap.size _ rfl rfl (aM.new _ _ _) xV rfl ov1 ?_;intro W4 hz hg;have oY:=ae hz;have B34:Hid (Below w3.heap.size w3 W4):=ae (ef ((aU _ w3).alloc (aS _) _) hg (by simp) (aS _));clear hz hg);have B4:Hid (Below w.heap.size w W4):=ae (B3.out.trans (B34.out.mono B3.out.size));refine(HTB.out _ B4.out).mono ?_;rintro e w5 ⟨v2,rfl,rl,lj⟩;have ov2:[v2].all (·.oneCell')=true:=by simp[rl.one]
 have yf:=ae rl;have B45:=ae lj;clear lj rl;go_wp2_with (refine ax rfl 29 (.tmp 7) (.tmp 39) rfl w5.heap.size _ rfl rfl (aM.new _ _ _) xV rfl ov2 ?_;intro W6 hz hg;have iE:=ae hz;have B56:Hid (Below w5.heap.size w5 W6):=ae (ef ((aU _ w5).alloc (aS _) _) hg (by simp) (aS _));clear hz hg);have B46:Hid (Below W4.heap.size W4 W6):=ae (B45.out.trans (B56.out.mono B45.out.size));have B6:Hid (Below w.heap.size w W6):=ae (B4.out.trans (B46.out.mono B4.out.size));refine(HRA.out _ B6.out).mono ?_;rintro e w7 ⟨aw,nw,cw,xs,rfl,PI,hb⟩;have hnw:nw=(rowsOf rs).length:=(Rx PI.own).trans PI.len;subst hnw;have HP:=ae PI.rows.1;have B67:=ae hb;have B7:=ae (B6.out.trans (hb.mono B6.out.size));clear hb PI;go_wp2_with fail;refine(HRB.out _ B7.out).mono ?_;rintro e w8 ⟨aq,nq,cq,ys,rfl,PI,hb⟩;have HQ:=ae PI.rows.1;have B78:=ae hb;have B8:=ae (B7.out.trans (hb.mono B7.out.size));clear hb PI;go_wp2_with fail;refine(FG.out _ B8.out).mono ?_;rintro e w9 ⟨v3,rfl,rl,Lk⟩;have ov3:[v3].all (·.oneCell')=true:=by simp[rl.one]
 have HR3:=ae rl;have B89:=ae Lk;clear Lk rl;go_upto_region 12 with(refine ax rfl 29 (.tmp 13) (.tmp 62) rfl w9.heap.size _ rfl rfl (aM.new _ _ _) xV rfl ov3 ?_;intro WA hz hg;have sQ:=ae hz;have B9A:Hid (Below w9.heap.size w9 WA):=ae (ef ((aU _ w9).alloc (aS _) _) hg (by simp) (aS _));clear hz hg)
 have B8A:Hid (Below w8.heap.size w8 WA):=ae (B89.out.trans (B9A.out.mono B89.out.size));have B7A:Hid (Below w7.heap.size w7 WA):=ae (B78.out.trans (B8A.out.mono B78.out.size));have B6A:Hid (Below W6.heap.size W6 WA):=ae (B67.out.trans (B7A.out.mono B67.out.size));have B4A:Hid (Below W4.heap.size W4 WA):=ae (B46.out.trans (B6A.out.mono B46.out.size));have BA:Hid (Below w.heap.size w WA):=ae (B8.out.trans (B8A.out.mono B8.out.size));have HK:Hid (∀W,Below WA.heap.size WA W→W.cell? ⟨w3.heap.size,0,none⟩=some v1∧W.cell? ⟨w5.heap.size,0,none⟩=some v2∧W.cell? ⟨w9.heap.size,0,none⟩=some v3):=ae fun W hb=>by
  have z1:=oY.out.below B4A.out oY.out.lt;have z2:=iE.out.below B6A.out iE.out.lt;have z3:=sQ.out;exact⟨(hb.cell (p:=⟨w3.heap.size,0,none⟩) z1.lt).trans (z1.cell 0),(hb.cell (p:=⟨w5.heap.size,0,none⟩) z2.lt).trans (z2.cell 0),(hb.cell (p:=⟨w9.heap.size,0,none⟩) z3.lt).trans (z3.cell 0)⟩
 have WV:Hid (∀W,Below WA.heap.size WA W→eO 0 W v1 (jv rs)∧eO 0 W v2 (jv qs)∧eO 0 W v3 (jv rs)):=ae fun W hb=>
  ⟨((((HR1.out.below B34.out).below B4A.out).below hb).lo (aV _)),((((yf.out.below B56.out).below B6A.out).below hb).lo (aV _)),(((HR3.out.below B9A.out).below hb).lo (aV _))⟩
 obtain⟨d,hd⟩:=so (rowsOf rs=rowsOf qs);obtain⟨d0,Pq⟩:=so (rowsOf rs=[]);have ZL:Hid (∀W,Below WA.heap.size WA W→Calls prog 22 #[.agg #[v1],.agg #[v2]] W (aF W d)):=ae fun W hb=>(kj (WV.out W hb).1 (WV.out W hb).2.1 (ir rs) (ir qs) H9.out.1 WT.out.1 H9.out.2 WT.out.2).mono fun e W' h=>h.d hd
 have HYX:Hid (∀W,Below WA.heap.size WA W→Calls prog 22 #[.agg #[v2],.agg #[v1]] W (aF W d)):=ae fun W hb=>(kj (WV.out W hb).2.1 (WV.out W hb).1 (ir qs) (ir rs) WT.out.1 H9.out.1 WT.out.2 H9.out.2).mono fun e W' h=>h.d (hd.trans ⟨Eq.symm,Eq.symm⟩)
 have zH:Hid (∀W,Below WA.heap.size WA W→Calls prog 22 #[.agg #[v1],.agg #[v3]] W (aF W true)):=ae fun W hb=>(kj (WV.out W hb).1 (WV.out W hb).2.2 (ir rs) (ir rs) H9.out.1 H9.out.1 H9.out.2 H9.out.2).mono fun e W' h=>h.d (by simp)
 have HZX:Hid (∀W,Below WA.heap.size WA W→Calls prog 22 #[.agg #[v3],.agg #[v1]] W (aF W true)):=ae fun W hb=>(kj (WV.out W hb).2.2 (WV.out W hb).1 (ir rs) (ir rs) H9.out.1 H9.out.1 H9.out.2 H9.out.2).mono fun e W' h=>h.d (by simp)
 have HX0:Hid (∀W,Below WA.heap.size WA W→Calls prog 22 #[.agg #[v1],.agg #[.nilIface]] W (aF W d0)):=ae fun W hb=>(kj (WV.out W hb).1 (xW W) (ir rs) rfl H9.out.1 (by decide) H9.out.2 (fun r hr=>by cases hr)).mono fun e W' h=>h.d Pq
 have HPQ:Hid (∀W,Below WA.heap.size WA W→Calls prog 18 #[.slice aw (rowsOf rs).length cw,.slice aq nq cq] W (aF W d)):=ae fun W hb=>(Rv ((HP.out.below B7A.out).below hb) ((HQ.out.below B8A.out).below hb) H9.out.1 WT.out.1 H9.out.2 WT.out.2).mono fun e W' h=>h.d hd
 have p0:(((rowsOf rs).length:Int)==0)=d0:=by
  apply eo.2;rw[Pq,cx];exact⟨fun h=>Ia (by omega),fun h=>by rw[h];rfl⟩
 clear hd Pq ov1 ov2 ov3 HR1 yf HR3 oY iE sQ HP HQ HRA HRB FG HTB Aj HAW WV H9 WT;obtain⟨k1,k2,k3⟩:=HK.out _ (aU _ _);go_wp2_with fail;refine(ZL.out _ (aU _ _)).mono ?_;rintro e x1 ⟨rfl,hb⟩;have X1:=ae hb;clear hb k1 k2 k3;go_wp2_with fail;refine(HPQ.out _ X1.out).mono ?_;rintro e x2 ⟨rfl,hb⟩;have X2:=ae (X1.out.trans (hb.mono X1.out.size));obtain⟨k1,k2,k3⟩:=HK.out _ X2.out;clear hb;go_wp2_with fail;refine(HYX.out _ X2.out).mono ?_;rintro e x3 ⟨rfl,hb⟩;have X3:=ae (X2.out.trans (hb.mono X2.out.size));clear hb k1 k2 k3;go_wp2_with fail;refine(HPQ.out _ X3.out).mono ?_;rintro e x4 ⟨rfl,hb⟩;have X4:=ae (X3.out.trans (hb.mono X3.out.size));obtain⟨k1,k2,k3⟩:=HK.out _ X4.out;clear hb;go_wp2_with fail;refine(zH.out _ X4.out).mono ?_;rintro e x5 ⟨rfl,hb⟩;have X5:=ae (X4.out.trans (hb.mono X4.out.size));obtain⟨k1,k2,k3⟩:=HK.out _ X5.out;clear hb;go_wp2_with fail;refine(HZX.out _ X5.out).mono ?_;rintro e x6 ⟨rfl,hb⟩;have X6:=ae (X5.out.trans (hb.mono X5.out.size));obtain⟨k1,k2,k3⟩:=HK.out _ X6.out;clear hb;go_wp2_with fail;refine(HX0.out _ X6.out).mono ?_;rintro e x7 ⟨rfl,hb⟩;have X7:=ae (BA.out.trans ((X6.out.trans (hb.mono X6.out.size)).mono BA.out.size));clear hb k1 k2 k3;go_wp2_with fail;go_ret;exact⟨rfl,X7.out⟩
