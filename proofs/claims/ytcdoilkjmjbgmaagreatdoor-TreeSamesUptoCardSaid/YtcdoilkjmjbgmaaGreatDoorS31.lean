import Derived.Test.YtcdoilkjmjbgmaaGreatDoorS30
/- Part of the proof of YtcdoilkjmjbgmaaGreatDoorCardY: TrXb TrSc. -/
set_option maxRecDepth 100000
set_option maxHeartbeats 4000000
set_option linter.unusedVariables false
set_option linter.unusedSimpArgs false
namespace Go.Proofs.YtcdoilkjmjbgmaaGreatDoor
open Go.RowKit
open Go.Proofs.Tryz
variable {r:PR} {w W:World} {A args:Array Value} {b:Bool}
structure ju (r:PR):Prop where
 op:r.op.size≤1048576
 text:r.text.size≤1048576
 bU:r.bU.size≤1048576
 step:r.step.size≤1048576
 off:r.off.size≤1048576
 tim:r.tim.size≤1048576
 msn:r.ms.length≤1048576
 ms: ∀m∈r.ms,m.name.size≤1048576∧m.value.size≤1048576
 abl:r.mls.length≤1048576
 mls: ∀s∈r.mls,s.size≤1048576
 abm:r.inc.length≤1048576
 inc: ∀s∈r.inc,s.size≤1048576
 abn:r.labels.length≤1048576
 lab: ∀s∈r.labels,s.size≤1048576
theorem ju.len (h:ju r):gp r:=⟨by have:=h.msn;omega,by have:=h.abl;omega,by have:=h.abm;omega,by have:=h.abn;omega⟩
def uS (w:World) (A:Array Value) (b:Bool) (e:Ending) (W':World):Prop:=e= .returned (.bool b)∧OB w A W'
theorem lL {f:FuncId} (h:Calls prog f args W (aF W b)) (hs:OB w A W):Calls prog f args W (uS w A b):=h.mono fun e W' ⟨h1,h2⟩=>⟨h1,hs.below h2⟩
theorem XX {f:FuncId} (h:Calls prog f args W fun e w'=>e= .returned (.bool b)∧W=w') (hs:OB w A W):Calls prog f args W (uS w A b):=h.mono fun e W' ⟨h1,h2⟩=>⟨h1,by subst h2;exact hs⟩
set_option maxHeartbeats 8000000 in
theorem Nt (w:World) (r:PR) (am ao ai al:Option Addr) (nm cm no co ni ci nl cl:Nat) (h:bA 0 w r (.slice am nm cm) (.slice ao no co) (.slice ai ni ci) (.slice al nl cl)) (hl:gp r) {T:Nat→World→Prop} (hT:pv (fun _=>True) T) (kp:T w.heap.size w) (hr:ju r) (hk:du r.kind r.kids=true) (RO:lP r=true) (hu:gd r=zr r.kind 0):
  Calls prog 60 #[.agg #[.int .i64 r.kind,.int .i64 r.kids,.string r.op,.string r.text,.slice am nm cm,.string r.bU,.string r.step,.string r.off,.string r.tim,.bool r.bool,.bool r.given,.bool r.on,.slice ao no co,.int .i64 r.card,.slice ai ni ci,.bool r.without,.slice al nl cl]] w (aF w (aC r)):=by
 have xb:Hid (∀W,Below w.heap.size w W→T W.heap.size W):=ae fun W hb=>hT.mono (hT.fQ kp hb) hb.size
 have HR:=ae hr;have HUU:=ae hu;have XA:=ae RO;have HT:=ae hT;obtain⟨A,hA⟩: ∃A,A=et r (.slice am nm cm) (.slice ao no co) (.slice ai ni ci) (.slice al nl cl):=⟨_,rfl⟩;obtain⟨W1,lX⟩: ∃W1,W1=w.alloc (.cells A 46):=⟨_,rfl⟩;have sT:OB w A W1:=by rw[lX];exact T3 w A
 have Aj:Hid (OB w A W1.drew):=ae sT.drew;have HU:Hid (∀W,OB w A W→Calls prog 77 #[.agg #[.int .i64 r.kind,.int .i64 r.kids,.string r.op,.string r.text,.slice am nm cm,.string r.bU,.string r.step,.string r.off,.string r.tim,.bool r.bool,.bool r.given,.bool r.on,.slice ao no co,.int .i64 r.card,.slice ai ni ci,.bool r.without,.slice al nl cl]] W (UnX w A r)):=ae fun W hs=>afc h hs
 have HA:=ae hA;have HH:=ae h;have CC:=aI sT.drew.2 hA;rw[hA]at lX;simp only[et]at lX;have FH:=ae lX;have HL:=ae hl.un;have HK:=ae hk;obtain⟨B,hB⟩: ∃B,B=aC r:=⟨_,rfl⟩;rw[←hB];have kG:=ae hB;clear h hl sT hA lX hk kp hu RO hr hT hB;go_enter func60,ntmps60;go_upto_region 1 with(fail)
 rw[←FH.out];go_cut [18]from 4 to 19 (fun t18 wx=>t18= .bool false∧Hid (OB w A wx))
 case first=>
  go_region_with (first|(go_at_call 76;refine(pZ _ _ _).mono ?_;rintro e w' ⟨rfl,rfl⟩;rw[HK.out])|(go_at_call 77;refine(HU.out _ Aj.out).mono ?_;rintro e WU ⟨um,uo,ui,ul,rfl,lg,hs⟩;have u0:WU.cell? ⟨w.heap.size,0,none⟩=some (.int .i64 r.kind):=(hs.2.cell 0).trans (by rw[HA.out];rfl);have HSU:=ae hs;have ZT:=ae lg;clear hs lg)|(go_at_call 47;refine(afd (k:=r.kind) ZT.out HL.out HSU.out).mono ?_;rintro e WS ⟨bs,rfl,hbs,hs⟩;have HSS:=ae hs;have HBS:=ae hbs;clear hs hbs))
  all_goals
   have hb:bs=true:=HBS.out.2 HUU.out;subst hb;go_wp2_with fail;go_meet;exact⟨rfl,HSS⟩
 case rest=>
  obtain⟨rfl,Ly⟩:=hcut;have DD:=aI Ly.out.2 HA.out;have h9:=pT HK.out;unfold qp at h9;have ld:=ae Ly.out;have hT:=HT.out;have hr:=HR.out;have h:=HH.out;clear Ly CC;rcases h9 with k|k|k|k|k|k|k|k|k
  ·have HV:Hid (B=(ie r.text)):=ae (by rw[kG.out];unfold aC;rw[HK.out,XA.out,k];rfl);rw[k]at DD;clear k;have HC:Hid (∀W,OB w A W→Calls prog 78 #[.string r.text] W (uS w A (ie r.text))):=ae fun W hs=>lL (J4 hT W _ hr.text (xb.out W hs.1)) hs
   clear h hr hT;obtain⟨g0,og⟩: ∃g,g=ie r.text:=⟨_,rfl⟩;simp only[←og]at HC HV;clear og
   all_goals
    go_wp2_with (first|(go_at_call 78;(with_reducible refine(HC.out _ (by first|exact ld.out)).mono ?_);rintro e W5 ⟨rfl,hs⟩;have K0:=aI hs.2 HA.out;have la:=ae hs;clear hs))
    all_goals
     go_ret;exact⟨ar (by rw[HV.out];try first|rfl|(simp)),by first|exact la.out.1|exact ld.out.1⟩
  ·have HV:Hid (B=(valid r.text.data.toList)):=ae (by rw[kG.out];unfold aC;rw[HK.out,XA.out,k];rfl);rw[k]at DD;clear k;have HC:Hid (∀W,OB w A W→Calls prog 79 #[.string r.text] W (uS w A (valid r.text.data.toList))):=ae fun W hs=>lL ((jW r.text W (by have:=hr.text;omega)).mono fun _ _ h=>⟨h.1,h.2⟩) hs
   clear h hr hT;obtain⟨g0,og⟩: ∃g,g=valid r.text.data.toList:=⟨_,rfl⟩;simp only[←og]at HC HV;clear og
   all_goals
    go_wp2_with (first|(go_at_call 79;(with_reducible refine(HC.out _ (by first|exact ld.out)).mono ?_);rintro e W5 ⟨rfl,hs⟩;have K0:=aI hs.2 HA.out;have la:=ae hs;clear hs))
    all_goals
     go_ret;exact⟨ar (by rw[HV.out];try first|rfl|(simp)),by first|exact la.out.1|exact ld.out.1⟩
  ·have HV:Hid (B=((dA r.text||kQ r.text true)&&ix r.off r.tim&&r.ms.all cL)):=ae (by rw[kG.out];unfold aC;rw[HK.out,XA.out,k];rfl);rw[k]at DD;clear k;have HC:Hid (∀W,OB w A W→Calls prog 80 #[.string r.text,.bool true] W (uS w A (kQ r.text true))):=ae fun W hs=>lL (rW hT W _ true hr.text (xb.out W hs.1)) hs
   have HD:Hid (∀W,OB w A W→Calls prog 81 #[.agg #[.string r.off,.string r.tim]] W (uS w A (ix r.off r.tim))):=ae fun W hs=>lL (rY hT W _ _ hr.off hr.tim (xb.out W hs.1)) hs
   have HE:Hid (∀W,OB w A W→Calls prog 82 #[.slice am nm cm,.func (.func 83) #[] #[]] W (uS w A (!r.ms.all cL))):=ae fun W hs=>lL (GW (h.1.below hs.1) hr.msn hr.ms) hs
   clear h hr hT;obtain⟨g0,og⟩: ∃g,g=kQ r.text true:=⟨_,rfl⟩;obtain⟨g1,qf⟩: ∃g,g=ix r.off r.tim:=⟨_,rfl⟩;obtain⟨g2,uU⟩: ∃g,g=r.ms.all cL:=⟨_,rfl⟩;simp only[←og,←qf,←uU]at HC HD HE HV;clear og qf uU;have zG:Hid (dA r.text=decide (r.text.toList=[])):=ae (jf _);rcases(show (r.text.toList=[]∧r.text.toList.isEmpty=true)∨((r.text.toList=[])=False∧r.text.toList.isEmpty=false)by cases r.text.toList<;>simp)with⟨u1,u2⟩|⟨u1,u2⟩<;>cases g0<;>cases g1
   all_goals
    go_wp2_with (first|(go_at_call 80;(with_reducible refine(HC.out _ (by first|exact ld.out)).mono ?_);rintro e W5 ⟨rfl,hs⟩;have K0:=aI hs.2 HA.out;have la:=ae hs;clear hs)|(go_at_call 81;(with_reducible refine(HD.out _ (by first|exact la.out|exact ld.out)).mono ?_);rintro e W6 ⟨rfl,hs⟩;have K1:=aI hs.2 HA.out;have sd:=ae hs;clear hs)|(go_at_call 82;(with_reducible refine(HE.out _ (by first|exact sd.out|exact la.out|exact ld.out)).mono ?_);rintro e W7 ⟨rfl,hs⟩;have K2:=aI hs.2 HA.out;have lD:=ae hs;clear hs))
    all_goals
     go_ret;exact⟨ar (by rw[HV.out];try first|rfl|(rw[zG.out];simp[u1,fU])),by first|exact lD.out.1|exact sd.out.1|exact la.out.1|exact ld.out.1⟩
  ·have HV:Hid (B=(fz r.bU)):=ae (by rw[kG.out];unfold aC;rw[HK.out,XA.out,k];rfl);rw[k]at DD;clear k;have HC:Hid (∀W,OB w A W→Calls prog 85 #[.string r.bU] W (uS w A (fz r.bU))):=ae fun W hs=>lL (gB hT W _ hr.bU (xb.out W hs.1)) hs
   clear h hr hT;obtain⟨g0,og⟩: ∃g,g=fz r.bU:=⟨_,rfl⟩;simp only[←og]at HC HV;clear og
   all_goals
    go_wp2_with (first|(go_at_call 85;(with_reducible refine(HC.out _ (by first|exact ld.out)).mono ?_);rintro e W5 ⟨rfl,hs⟩;have K0:=aI hs.2 HA.out;have la:=ae hs;clear hs))
    all_goals
     go_ret;exact⟨ar (by rw[HV.out];try first|rfl|(simp)),by first|exact la.out.1|exact ld.out.1⟩
  ·have HV:Hid (B=(fz r.bU&&(dA r.step||fz r.step)&&ix r.off r.tim)):=ae (by rw[kG.out];unfold aC;rw[HK.out,XA.out,k];rfl);rw[k]at DD;clear k;have HC:Hid (∀W,OB w A W→Calls prog 85 #[.string r.bU] W (uS w A (fz r.bU))):=ae fun W hs=>lL (gB hT W _ hr.bU (xb.out W hs.1)) hs
   have HD:Hid (∀W,OB w A W→Calls prog 85 #[.string r.step] W (uS w A (fz r.step))):=ae fun W hs=>lL (gB hT W _ hr.step (xb.out W hs.1)) hs
   have HE:Hid (∀W,OB w A W→Calls prog 81 #[.agg #[.string r.off,.string r.tim]] W (uS w A (ix r.off r.tim))):=ae fun W hs=>lL (rY hT W _ _ hr.off hr.tim (xb.out W hs.1)) hs
   clear h hr hT;obtain⟨g0,og⟩: ∃g,g=fz r.bU:=⟨_,rfl⟩;obtain⟨g1,qf⟩: ∃g,g=fz r.step:=⟨_,rfl⟩;obtain⟨g2,uU⟩: ∃g,g=ix r.off r.tim:=⟨_,rfl⟩;simp only[←og,←qf,←uU]at HC HD HE HV;clear og qf uU;have zG:Hid (dA r.step=decide (r.step.toList=[])):=ae (jf _);rcases(show (r.step.toList=[]∧r.step.toList.isEmpty=true)∨((r.step.toList=[])=False∧r.step.toList.isEmpty=false)by cases r.step.toList<;>simp)with⟨u1,u2⟩|⟨u1,u2⟩<;>cases g0<;>cases g1
   all_goals
    go_wp2_with (first|(go_at_call 85;(with_reducible refine(HC.out _ (by first|exact ld.out)).mono ?_);rintro e W5 ⟨rfl,hs⟩;have K0:=aI hs.2 HA.out;have la:=ae hs;clear hs)|(go_at_call 85;(with_reducible refine(HD.out _ (by first|exact la.out|exact ld.out)).mono ?_);rintro e W6 ⟨rfl,hs⟩;have K1:=aI hs.2 HA.out;have sd:=ae hs;clear hs)|(go_at_call 81;(with_reducible refine(HE.out _ (by first|exact sd.out|exact la.out|exact ld.out)).mono ?_);rintro e W7 ⟨rfl,hs⟩;have K2:=aI hs.2 HA.out;have lD:=ae hs;clear hs))
    all_goals
     go_ret;exact⟨ar (by rw[HV.out];try first|rfl|(rw[zG.out];simp[u1,fU])),by first|exact lD.out.1|exact sd.out.1|exact la.out.1|exact ld.out.1⟩
  ·have HV:Hid (B=(mV [43] r.op||mV [45] r.op)):=ae (by rw[kG.out];unfold aC;rw[HK.out,XA.out,k];rfl);rw[k]at DD;clear k;clear h hr hT;have zG:Hid (mV [43] r.op=(r.op.toList==[43])):=ae (by rw[bY];rfl);have R1:Hid (mV [45] r.op=(r.op.toList==[45])):=ae (by rw[bY];rfl)
   all_goals
    go_wp2_with (first|fail)
    all_goals
     go_ret;exact⟨ar (by rw[HV.out];try first|rfl|(rw[zG.out,R1.out];try simp_all)),by first|exact ld.out.1⟩
  ·have HV:Hid (B=(mD.contains r.op.data.toList&&iP r.given r.on r.mls r.card r.inc)):=ae (by rw[kG.out];unfold aC;rw[HK.out,XA.out,k];rfl);rw[k]at DD;clear k;have HC:Hid (∀W,OB w A W→Calls prog 86 #[.string r.op] W (uS w A (mD.contains r.op.data.toList))):=ae fun W hs=>XX (DN W r.op) hs
   have HD:Hid (∀W,OB w A W→Calls prog 87 #[.agg #[.bool r.given,.bool r.on,.slice ao no co,.int .i64 r.card,.slice ai ni ci]] W (uS w A (iP r.given r.on r.mls r.card r.inc))):=ae fun W hs=>lL (uM r.given r.on r.card (h.2.1.below hs.1) (h.2.2.1.below hs.1) hr.abl hr.abm hr.mls hr.inc) hs
   clear h hr hT;obtain⟨g0,og⟩: ∃g,g=mD.contains r.op.data.toList:=⟨_,rfl⟩;obtain⟨g1,qf⟩: ∃g,g=iP r.given r.on r.mls r.card r.inc:=⟨_,rfl⟩;simp only[←og,←qf]at HC HD HV;clear og qf;cases g0
   all_goals
    go_wp2_with (first|(go_at_call 86;(with_reducible refine(HC.out _ (by first|exact ld.out)).mono ?_);rintro e W5 ⟨rfl,hs⟩;have K0:=aI hs.2 HA.out;have la:=ae hs;clear hs)|(go_at_call 87;(with_reducible refine(HD.out _ (by first|exact la.out|exact ld.out)).mono ?_);rintro e W6 ⟨rfl,hs⟩;have K1:=aI hs.2 HA.out;have sd:=ae hs;clear hs))
    all_goals
     go_ret;exact⟨ar (by rw[HV.out];try first|rfl|(simp)),by first|exact sd.out.1|exact la.out.1|exact ld.out.1⟩
  ·have HV:Hid (B=(kQ r.op false)):=ae (by rw[kG.out];unfold aC;rw[HK.out,XA.out,k];rfl);rw[k]at DD;clear k;have HC:Hid (∀W,OB w A W→Calls prog 80 #[.string r.op,.bool false] W (uS w A (kQ r.op false))):=ae fun W hs=>lL (rW hT W _ false hr.op (xb.out W hs.1)) hs
   clear h hr hT;obtain⟨g0,og⟩: ∃g,g=kQ r.op false:=⟨_,rfl⟩;simp only[←og]at HC HV;clear og
   all_goals
    go_wp2_with (first|(go_at_call 80;(with_reducible refine(HC.out _ (by first|exact ld.out)).mono ?_);rintro e W5 ⟨rfl,hs⟩;have K0:=aI hs.2 HA.out;have la:=ae hs;clear hs))
    all_goals
     go_ret;exact⟨ar (by rw[HV.out];try first|rfl|(simp)),by first|exact la.out.1|exact ld.out.1⟩
  ·have HV:Hid (B=(mE.contains r.op.data.toList&&bH r.labels)):=ae (by rw[kG.out];unfold aC;rw[HK.out,XA.out,k];rfl);rw[k]at DD;clear k;have HC:Hid (∀W,OB w A W→Calls prog 88 #[.string r.op] W (uS w A (mE.contains r.op.data.toList))):=ae fun W hs=>XX (xZ W r.op) hs
   have HD:Hid (∀W,OB w A W→Calls prog 89 #[.slice al nl cl] W (uS w A (bH r.labels))):=ae fun W hs=>lL (lB (h.2.2.2.below hs.1) hr.abn hr.lab) hs
   clear h hr hT;obtain⟨g0,og⟩: ∃g,g=mE.contains r.op.data.toList:=⟨_,rfl⟩;obtain⟨g1,qf⟩: ∃g,g=bH r.labels:=⟨_,rfl⟩;simp only[←og,←qf]at HC HD HV;clear og qf;cases g0
   all_goals
    go_wp2_with (first|(go_at_call 88;(with_reducible refine(HC.out _ (by first|exact ld.out)).mono ?_);rintro e W5 ⟨rfl,hs⟩;have K0:=aI hs.2 HA.out;have la:=ae hs;clear hs)|(go_at_call 89;(with_reducible refine(HD.out _ (by first|exact la.out|exact ld.out)).mono ?_);rintro e W6 ⟨rfl,hs⟩;have K1:=aI hs.2 HA.out;have sd:=ae hs;clear hs))
    all_goals
     go_ret;exact⟨ar (by rw[HV.out];try first|rfl|(simp)),by first|exact sd.out.1|exact la.out.1|exact ld.out.1⟩
def T4 (T:Nat→World→Prop):Prop:= ∀(w:World) (r:PR) (m o i l:Value),bA 0 w r m o i l→ju r→T w.heap.size w→Calls prog 60 #[jM r m o i l] w (aF w (aC r))
