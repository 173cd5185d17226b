import Derived.Orders
import Derived.Test.YtcdoilkjmjbgmaaGreatDoorS11
import Derived.Test.YtcdoilkjmjbgmaaGreatDoorS23
/- Part of the proof of YtcdoilkjmjbgmaaGreatDoorCardY: Split TsCg. -/
set_option maxRecDepth 100000
set_option maxHeartbeats 4000000
set_option linter.unusedVariables false
set_option linter.unusedSimpArgs false
namespace Go.Proofs.YtcdoilkjmjbgmaaGreatDoor
open Go.RowKit
open Go.Proofs.Tryz
variable {P:Program} {o:Oper} {a:Act} {w W:World} {Q Q':Exit→Act→World→Prop} {ops:Array Oper} {l:List Oper} {d:Bool} {r1 r2:PR} {A B args:Array Value} {b1 b2:Nat} {m1 o1 i1 l1 m2 o2 i2 l2:Value}
theorem VZ {K K':Act→World→Prop} (h: ∀a w,K a w→K' a w) (hq: ∀e a w,e≠Exit.normal→Q e a w→Q' e a w) (hh:o.wp P a w K Q):o.wp P a w K' Q':=by
 have ho:LetsOut Q→LetsOut Q':=fun⟨a,w,h⟩=>⟨a,w,hq _ _ _ (by simp) h⟩
 unfold Oper.wp at*
 generalize (execOp a.eval o).run P w=r at*
 cases r with
 |ok n w'=>
  cases n<;>simp only[Oper.upon]at hh ⊢ <;>
   first
    |exact h _ _ hh
    |exact Calls.mono hh (fun e WY he=>by cases e<;>first|exact h _ _ he|exact hq _ _ _ (by simp) he|exact ho he)
    |exact Rows.mono hh (fun _ _ he=>h _ _ he)
 |halt x w'=>cases x<;>simp only[Oper.upon]at hh ⊢ <;>first|exact hq _ _ _ (by simp) hh|exact hh
def Θ (N:Act→World→Prop) (Q:Exit→Act→World→Prop):Exit→Act→World→Prop
 | .normal,a,w=>N a w
 |e,a,w=>Q e a w
theorem rS {P:Program} {ops:Array Oper} {Q:Exit→Act→World→Prop}: ∀(n:Nat) (l:List Oper) (a:Act) (w:World),wpList P ops (Θ (wpList P ops Q (l.drop n)) Q) (l.take n) a w→wpList P ops Q l a w
 |0,l,a,w,h=>h
 |n+1,[],a,w,h=>h
 |n+1,o::l,a,w,h=>by
  rw[qC,sW]at h;simp only[wpList]at h ⊢
  have hq: ∀e a w,e≠Exit.normal→Θ (wpList P ops Q (l.drop n)) Q e a w→Q e a w:=fun e a w he h=>by
   cases e<;>first|exact absurd rfl he|exact h
  split at h
  ·rename_i hw;rw[az hw];rcases h with h|⟨h1,a',w',h2⟩
   ·exact .inl (VZ (rS n l) hq h)
   ·exact .inr ⟨h1,a',w',h2⟩
  ·rename_i hw;rw[ah hw];exact rS n l _ _ h
theorem bS (n:Nat)
  (h: ∀K:Exit→Act→World→Prop,(∀a w,wpList P ops Q (l.drop n) a w→K .normal a w)→wpList P ops K (l.take n) a w):wpList P ops Q l a w:=
 rS n l a w (h _ fun _ _ h=>h)
theorem so (p:Prop): ∃d:Bool,d=true↔p:=by
 rcases Classical.em p with h|h
 ·exact⟨true,by simp[h]⟩
 ·exact⟨false,by simp[h]⟩
theorem jV {α:Type} [BEq α] [LawfulBEq α] {x y:α} {b:Bool} {r1 r2:PR} (h:(x==y)=b) (hf:r1=r2→x=y):b=false→ ¬r1=r2:=fun hb e=>by
 subst hb;rw[hf e]at h;simp at h
theorem Gy {p:Prop} (h:d=true↔p) (hf:r1=r2→p):d=false→ ¬r1=r2:=fun hd e=>by
 have:=h.2 (hf e);rw[hd]at this;cases this
theorem AB {p:Prop} {f:FuncId} (hd:d=true↔p) (h:Calls prog f args W (bD W p)) (hs:SB w A B W):Calls prog f args W (Bq w A B W d):=
 h.mono fun e W' ⟨b,h1,h2,h3⟩=>⟨by rw[h1];exact ar (eo.2 (h2.trans hd.symm)),hs.below h3,h3⟩
set_option maxHeartbeats 60000000 in
theorem Hd (w:World) (r1 r2:PR) (Sw Sx Sy Sz:Option Addr) (SA SC SD SE SF SG SH SJ:Nat) (K5 uY K6 K7:Option Addr) (K8 K9 La Lb Lc Ld Le Lf:Nat)
  (h1:bA 0 w r1 (.slice Sw SA SC) (.slice Sx SD SE) (.slice Sy SF SG) (.slice Sz SH SJ)) (h2:bA 0 w r2 (.slice K5 K8 K9) (.slice uY La Lb) (.slice K6 Lc Ld) (.slice K7 Le Lf))
  (s1:r1.ms.length≤1099511627776∧r1.mls.length≤1099511627776∧r1.inc.length≤1099511627776∧r1.labels.length≤1099511627776) (s2:r2.ms.length≤1099511627776∧r2.mls.length≤1099511627776∧r2.inc.length≤1099511627776∧r2.labels.length≤1099511627776):
  Calls prog 12 #[.agg #[.int .i64 r1.kind,.int .i64 r1.kids,.string r1.op,.string r1.text,.slice Sw SA SC,.string r1.bU,.string r1.step,.string r1.off,.string r1.tim,.bool r1.bool,.bool r1.given,.bool r1.on,.slice Sx SD SE,.int .i64 r1.card,.slice Sy SF SG,.bool r1.without,.slice Sz SH SJ],.agg #[.int .i64 r2.kind,.int .i64 r2.kids,.string r2.op,.string r2.text,.slice K5 K8 K9,.string r2.bU,.string r2.step,.string r2.off,.string r2.tim,.bool r2.bool,.bool r2.given,.bool r2.on,.slice uY La Lb,.int .i64 r2.card,.slice K6 Lc Ld,.bool r2.without,.slice K7 Le Lf]] w (bD w (r1=r2)):=by
 obtain⟨A,hA⟩: ∃A,A=et r1 (.slice Sw SA SC) (.slice Sx SD SE) (.slice Sy SF SG) (.slice Sz SH SJ):=⟨_,rfl⟩;obtain⟨B,hB⟩: ∃B,B=et r2 (.slice K5 K8 K9) (.slice uY La Lb) (.slice K6 Lc Ld) (.slice K7 Le Lf):=⟨_,rfl⟩;have HA:=ae hA;have kG:=ae hB;obtain⟨dm,hdm⟩:=so (r1.ms=r2.ms);have HEM:Hid (∀W,SB w A B W→Calls prog 37 #[.slice Sw SA SC,.slice K5 K8 K9] W (Bq w A B W dm)):=ae fun W hs=>AB hdm (G3 (h1.1.below hs.1) (h2.1.below hs.1) s1.1 s2.1) hs
 obtain⟨dq,Xg⟩:=so (r1.mls=r2.mls);have HEO:Hid (∀W,SB w A B W→Calls prog 38 #[.slice Sx SD SE,.slice uY La Lb] W (Bq w A B W dq)):=ae fun W hs=>AB Xg (nY (h1.2.1.below hs.1) (h2.2.1.below hs.1) s1.2.1 s2.2.1) hs
 obtain⟨di,qK⟩:=so (r1.inc=r2.inc);have HEI:Hid (∀W,SB w A B W→Calls prog 38 #[.slice Sy SF SG,.slice K6 Lc Ld] W (Bq w A B W di)):=ae fun W hs=>AB qK (nY (h1.2.2.1.below hs.1) (h2.2.2.1.below hs.1) s1.2.2.1 s2.2.2.1) hs
 obtain⟨dl,Pu⟩:=so (r1.labels=r2.labels);have HEL:Hid (∀W,SB w A B W→Calls prog 38 #[.slice Sz SH SJ,.slice K7 Le Lf] W (Bq w A B W dl)):=ae fun W hs=>AB Pu (nY (h1.2.2.2.below hs.1) (h2.2.2.2.below hs.1) s1.2.2.2 s2.2.2.2) hs
 have HA2:Hid (∀u∈A.toList,u.oneCell'=true):=ae (by rw[hA];exact uE h1);have bF:Hid (∀u∈B.toList,u.oneCell'=true):=ae (by rw[hB];exact uE h2);rw[L8 (r:=r1) hA,L8 (r:=r2) hB];have K4:=ae (And.intro hdm (And.intro Xg (And.intro qK Pu)));clear h1 h2 s1 s2 hA hB hdm Xg qK Pu;obtain⟨acp,Mf⟩: ∃b:Bool,(r1.kind==r2.kind)=b:=⟨_,rfl⟩;have acq:=ae Mf;obtain⟨acr,Mg⟩: ∃b:Bool,(r1.kids==r2.kids)=b:=⟨_,rfl⟩;have acs:=ae Mg;obtain⟨b_op,abv⟩: ∃b:Bool,(r1.op.toList==r2.op.toList)=b:=⟨_,rfl⟩;have akv:=ae abv;obtain⟨acu,Mh⟩: ∃b:Bool,(r1.text.toList==r2.text.toList)=b:=⟨_,rfl⟩;have acv:=ae Mh;obtain⟨agn,TC⟩: ∃b:Bool,(r1.bU.toList==r2.bU.toList)=b:=⟨_,rfl⟩;have ago:=ae TC;obtain⟨acw,Mi⟩: ∃b:Bool,(r1.step.toList==r2.step.toList)=b:=⟨_,rfl⟩;have acx:=ae Mi;obtain⟨agp,TD⟩: ∃b:Bool,(r1.off.toList==r2.off.toList)=b:=⟨_,rfl⟩;have agq:=ae TD;obtain⟨agr,TE⟩: ∃b:Bool,(r1.tim.toList==r2.tim.toList)=b:=⟨_,rfl⟩;have ags:=ae TE;obtain⟨acy,Mj⟩: ∃b:Bool,(r1.bool==r2.bool)=b:=⟨_,rfl⟩;have acz:=ae Mj;obtain⟨Zi,Gz⟩: ∃b:Bool,(r1.given==r2.given)=b:=⟨_,rfl⟩;have Zj:=ae Gz;obtain⟨akw,abw⟩: ∃b:Bool,(r1.on==r2.on)=b:=⟨_,rfl⟩;have akx:=ae abw;obtain⟨acA,Mk⟩: ∃b:Bool,(r1.card==r2.card)=b:=⟨_,rfl⟩;have acB:=ae Mk;obtain⟨Rt,xU⟩: ∃b:Bool,(r1.without==r2.without)=b:=⟨_,rfl⟩;have Ru:=ae xU;have Uc:=ae (jV (r1:=r1) (r2:=r2) Mf fun e=>by rw[e]);have Ud:=ae (jV (r1:=r1) (r2:=r2) Mg fun e=>by rw[e]);have afu:=ae (jV (r1:=r1) (r2:=r2) abv fun e=>by rw[e]);have Ue:=ae (jV (r1:=r1) (r2:=r2) Mh fun e=>by rw[e]);have Ξ:=ae (jV (r1:=r1) (r2:=r2) TC fun e=>by rw[e]);have Uf:=ae (jV (r1:=r1) (r2:=r2) Mi fun e=>by rw[e]);have Φ:=ae (jV (r1:=r1) (r2:=r2) TD fun e=>by rw[e]);have Ψ:=ae (jV (r1:=r1) (r2:=r2) TE fun e=>by rw[e]);have Ug:=ae (jV (r1:=r1) (r2:=r2) Mj fun e=>by rw[e]);have Pb:=ae (jV (r1:=r1) (r2:=r2) Gz fun e=>by rw[e]);have afv:=ae (jV (r1:=r1) (r2:=r2) abw fun e=>by rw[e]);have Uh:=ae (jV (r1:=r1) (r2:=r2) Mk fun e=>by rw[e]);have Ft:=ae (jV (r1:=r1) (r2:=r2) xU fun e=>by rw[e]);have afw:=ae (Gy (r1:=r1) (r2:=r2) K4.out.1 fun e=>by rw[e]);have afx:=ae (Gy (r1:=r1) (r2:=r2) K4.out.2.1 fun e=>by rw[e]);have afy:=ae (Gy (r1:=r1) (r2:=r2) K4.out.2.2.1 fun e=>by rw[e]);go_enter func12,ntmps12;go_upto_region 1 with(first|(refine jG rfl 46 (.tmp 0) rfl A rfl HA2.out ?_;intro WA R2 An SK;have HZA:=ae R2;have ZU:=ae An;have HSA:=ae SK;clear R2 An SK)|(refine jG rfl 46 (.tmp 1) rfl B rfl bF.out ?_;intro W1 ZN oc hsb;have Aj:=ae (Vz HZA.out ZU.out HSA.out ZN oc);rw[HSA.out];have A1:=aI Aj.out.2.1 HA.out;have A2:=aI Aj.out.2.2 kG.out;clear ZN oc hsb))
 rename_i KK yg;have Am:Hid (∀(a':Act) (W:World) (d:Bool),Below w.heap.size w W→a'.tmps.getD 4 undef= .bool d→(d=true↔r1=r2)→a'.defers=[]→KK a' W):=ae fun a' W d hb hr hd ht=>yg _ _ (wp_ret (cB (v:=.bool d) (by rw[results_tmp (show f12.results= #[.tmp 4]from rfl),hr]) ht ⟨d,rfl,hd,hb⟩))
 clear yg;simp only[List.append_eq,oh,tw];apply wp_region_lit;refine bS 6 ?_;simp only[qC,qP,sW,mT];intro K hK;have HK:=ae hK;clear hK;go_wp2_with (fail);refine HK.out _ _ ?_;clear HK K;cases acp
 ·exact bq 4 (.bool false) (by kernel_rfl) (by kernel_rfl) fun a' hr hd=>Am.out a' _ false Aj.out.1 hr ⟨fun h=>(by cases h),fun e=>absurd e (Uc.out (by simp))⟩ hd
 clear Uc Mf;refine bS 7 ?_;simp only[qC,qP,sW,mT];intro K hK;have HK:=ae hK;clear hK;go_wp2_with (fail);refine HK.out _ _ ?_;clear HK K;cases acr
 ·exact bq 4 (.bool false) (by kernel_rfl) (by kernel_rfl) fun a' hr hd=>Am.out a' _ false Aj.out.1 hr ⟨fun h=>(by cases h),fun e=>absurd e (Ud.out (by simp))⟩ hd
 clear Ud Mg;refine bS 7 ?_;simp only[qC,qP,sW,mT];intro K hK;have HK:=ae hK;clear hK;go_wp2_with (fail);refine HK.out _ _ ?_;clear HK K;cases b_op
 ·exact bq 4 (.bool false) (by kernel_rfl) (by kernel_rfl) fun a' hr hd=>Am.out a' _ false Aj.out.1 hr ⟨fun h=>(by cases h),fun e=>absurd e (afu.out (by simp))⟩ hd
 clear afu abv;refine bS 7 ?_;simp only[qC,qP,sW,mT];intro K hK;have HK:=ae hK;clear hK;go_wp2_with (fail);refine HK.out _ _ ?_;clear HK K;cases acu
 ·exact bq 4 (.bool false) (by kernel_rfl) (by kernel_rfl) fun a' hr hd=>Am.out a' _ false Aj.out.1 hr ⟨fun h=>(by cases h),fun e=>absurd e (Ue.out (by simp))⟩ hd
 clear Ue Mh;refine bS 7 ?_;simp only[qC,qP,sW,mT];intro K hK;have HK:=ae hK;clear hK;go_wp2_with (go_at_call 37;(with_reducible refine(HEM.out _ Aj.out).mono ?_);rintro e WM ⟨rfl,hs,_⟩;have sR:=ae hs;have WM1:=aI hs.2.1 HA.out;have WM2:=aI hs.2.2 kG.out;clear hs;clear A1 A2);refine HK.out _ _ ?_;clear HK K;cases dm
 ·exact bq 4 (.bool false) (by kernel_rfl) (by kernel_rfl) fun a' hr hd=>Am.out a' _ false sR.out.1 hr ⟨fun h=>(by cases h),fun e=>absurd e (afw.out (by simp))⟩ hd
 clear afw;refine bS 7 ?_;simp only[qC,qP,sW,mT];intro K hK;have HK:=ae hK;clear hK;go_wp2_with (fail);refine HK.out _ _ ?_;clear HK K;cases agn
 ·exact bq 4 (.bool false) (by kernel_rfl) (by kernel_rfl) fun a' hr hd=>Am.out a' _ false sR.out.1 hr ⟨fun h=>(by cases h),fun e=>absurd e (Ξ.out (by simp))⟩ hd
 clear Ξ TC;refine bS 7 ?_;simp only[qC,qP,sW,mT];intro K hK;have HK:=ae hK;clear hK;go_wp2_with (fail);refine HK.out _ _ ?_;clear HK K;cases acw
 ·exact bq 4 (.bool false) (by kernel_rfl) (by kernel_rfl) fun a' hr hd=>Am.out a' _ false sR.out.1 hr ⟨fun h=>(by cases h),fun e=>absurd e (Uf.out (by simp))⟩ hd
 clear Uf Mi;refine bS 7 ?_;simp only[qC,qP,sW,mT];intro K hK;have HK:=ae hK;clear hK;cases agp
 ·go_wp2_with (fail);refine HK.out _ _ ?_;clear HK K;exact bq 4 (.bool false) (by kernel_rfl) (by kernel_rfl) fun a' hr hd=>Am.out a' _ false sR.out.1 hr ⟨fun h=>(by cases h),fun e=>absurd e (Φ.out (by simp))⟩ hd
 clear Φ;cases agr
 ·go_wp2_with (fail);refine HK.out _ _ ?_;clear HK K;exact bq 4 (.bool false) (by kernel_rfl) (by kernel_rfl) fun a' hr hd=>Am.out a' _ false sR.out.1 hr ⟨fun h=>(by cases h),fun e=>absurd e (Ψ.out (by simp))⟩ hd
 clear Ψ;go_wp2_with (fail);refine HK.out _ _ ?_;clear HK K TD TE;refine bS 7 ?_;simp only[qC,qP,sW,mT];intro K hK;have HK:=ae hK;clear hK;go_wp2_with (fail);refine HK.out _ _ ?_;clear HK K;cases acy
 ·exact bq 4 (.bool false) (by kernel_rfl) (by kernel_rfl) fun a' hr hd=>Am.out a' _ false sR.out.1 hr ⟨fun h=>(by cases h),fun e=>absurd e (Ug.out (by simp))⟩ hd
 clear Ug Mj;refine bS 9 ?_;simp only[qC,qP,sW,mT];intro K hK;have HK:=ae hK;clear hK;go_wp2_with (fail);refine HK.out _ _ ?_;clear HK K;cases Zi
 ·exact bq 4 (.bool false) (by kernel_rfl) (by kernel_rfl) fun a' hr hd=>Am.out a' _ false sR.out.1 hr ⟨fun h=>(by cases h),fun e=>absurd e (Pb.out (by simp))⟩ hd
 clear Pb Gz;refine bS 9 ?_;simp only[qC,qP,sW,mT];intro K hK;have HK:=ae hK;clear hK;go_wp2_with (fail);refine HK.out _ _ ?_;clear HK K;cases akw
 ·exact bq 4 (.bool false) (by kernel_rfl) (by kernel_rfl) fun a' hr hd=>Am.out a' _ false sR.out.1 hr ⟨fun h=>(by cases h),fun e=>absurd e (afv.out (by simp))⟩ hd
 clear afv abw;refine bS 9 ?_;simp only[qC,qP,sW,mT];intro K hK;have HK:=ae hK;clear hK;go_wp2_with (go_at_call 38;(with_reducible refine(HEO.out _ sR.out).mono ?_);rintro e WO ⟨rfl,hs,_⟩;have Wz:=ae hs;have WO1:=aI hs.2.1 HA.out;have WO2:=aI hs.2.2 kG.out;clear hs;clear WM1 WM2);refine HK.out _ _ ?_;clear HK K;cases dq
 ·exact bq 4 (.bool false) (by kernel_rfl) (by kernel_rfl) fun a' hr hd=>Am.out a' _ false Wz.out.1 hr ⟨fun h=>(by cases h),fun e=>absurd e (afx.out (by simp))⟩ hd
 clear afx;refine bS 9 ?_;simp only[qC,qP,sW,mT];intro K hK;have HK:=ae hK;clear hK;go_wp2_with (fail);refine HK.out _ _ ?_;clear HK K;cases acA
 ·exact bq 4 (.bool false) (by kernel_rfl) (by kernel_rfl) fun a' hr hd=>Am.out a' _ false Wz.out.1 hr ⟨fun h=>(by cases h),fun e=>absurd e (Uh.out (by simp))⟩ hd
 clear Uh Mk;refine bS 9 ?_;simp only[qC,qP,sW,mT];intro K hK;have HK:=ae hK;clear hK;go_wp2_with (go_at_call 38;(with_reducible refine(HEI.out _ Wz.out).mono ?_);rintro e WI ⟨rfl,hs,_⟩;have Wy:=ae hs;have WI1:=aI hs.2.1 HA.out;have WI2:=aI hs.2.2 kG.out;clear hs;clear WO1 WO2);refine HK.out _ _ ?_;clear HK K;cases di
 ·exact bq 4 (.bool false) (by kernel_rfl) (by kernel_rfl) fun a' hr hd=>Am.out a' _ false Wy.out.1 hr ⟨fun h=>(by cases h),fun e=>absurd e (afy.out (by simp))⟩ hd
 clear afy;refine bS 7 ?_;simp only[qC,qP,sW,mT];intro K hK;have HK:=ae hK;clear hK;go_wp2_with (fail);refine HK.out _ _ ?_;clear HK K;cases Rt
 ·exact bq 4 (.bool false) (by kernel_rfl) (by kernel_rfl) fun a' hr hd=>Am.out a' _ false Wy.out.1 hr ⟨fun h=>(by cases h),fun e=>absurd e (Ft.out (by simp))⟩ hd
 clear Ft xU;go_wp2_with (go_at_call 38;(with_reducible refine(HEL.out _ Wy.out).mono ?_);rintro e WL ⟨rfl,hs,_⟩;have HSL:=ae hs;have WL1:=aI hs.2.1 HA.out;have WL2:=aI hs.2.2 kG.out;clear hs);refine Am.out _ _ dl HSL.out.1 rfl ⟨fun h=>?_,fun e=>K4.out.2.2.2.2 (by rw[e])⟩ rfl;exact T0 ⟨eq_of_beq acq.out,eq_of_beq acs.out,dY.1 akv.out,dY.1 acv.out,dY.1 ago.out,dY.1 acx.out,dY.1 agq.out,dY.1 ags.out,eq_of_beq acz.out,eq_of_beq Ru.out,K4.out.1.1 (by simp),K4.out.2.2.2.1 h⟩ (eq_of_beq Zj.out) (eq_of_beq akx.out) (eq_of_beq acB.out) (K4.out.2.1.1 (by simp)) (K4.out.2.2.1.1 (by simp))
theorem KH (h1:bA b1 w r1 m1 o1 i1 l1) (h2:bA b2 w r2 m2 o2 i2 l2)
  (s1:r1.ms.length≤1099511627776∧r1.mls.length≤1099511627776∧r1.inc.length≤1099511627776∧r1.labels.length≤1099511627776) (s2:r2.ms.length≤1099511627776∧r2.mls.length≤1099511627776∧r2.inc.length≤1099511627776∧r2.labels.length≤1099511627776):
  Calls prog 12 #[jM r1 m1 o1 i1 l1,jM r2 m2 o2 i2 l2] w (bD w (r1=r2)):=by
 have k1:=h1.lo (aV _);have k2:=h2.lo (aV _);obtain⟨⟨_,_,rfl,_⟩,⟨_,_,rfl,_⟩,⟨_,_,rfl,_⟩,⟨_,_,rfl,_⟩⟩:=h1;obtain⟨⟨_,_,rfl,_⟩,⟨_,_,rfl,_⟩,⟨_,_,rfl,_⟩,⟨_,_,rfl,_⟩⟩:=h2;exact Hd w r1 r2 _ _ _ _ _ _ _ _ _ _ _ _ _ _ _ _ _ _ _ _ _ _ _ _ k1 k2 s1 s2
