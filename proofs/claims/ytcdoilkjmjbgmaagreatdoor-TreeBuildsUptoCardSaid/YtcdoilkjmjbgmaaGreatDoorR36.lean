import Derived.Test.YtcdoilkjmjbgmaaGreatDoorR35
/- Part of the proof of YtcdoilkjmjbgmaaGreatDoorCardR: TrXb TrSc. -/
set_option maxRecDepth 100000
set_option maxHeartbeats 4000000
set_option linter.unusedVariables false
set_option linter.unusedSimpArgs false
namespace Go.Proofs.YtcdoilkjmjbgmaaGreatDoor
open Go.RowKit
open Tryz
variable {r:PR} {w W:World} {A args:Array Value} {b:Bool}
structure iZ (r:PR):Prop where
 op:r.op.size≤1048576
 text:r.text.size≤1048576
 bV:r.bV.size≤1048576
 step:r.step.size≤1048576
 off:r.off.size≤1048576
 tim:r.tim.size≤1048576
 msn:r.ms.length≤1048576
 ms: ∀m∈r.ms,m.name.size≤1048576∧m.value.size≤1048576
 aba:r.mls.length≤1048576
 mls: ∀s∈r.mls,s.size≤1048576
 abb:r.inc.length≤1048576
 inc: ∀s∈r.inc,s.size≤1048576
 abc:r.labels.length≤1048576
 lab: ∀s∈r.labels,s.size≤1048576
theorem iZ.len (h:iZ r):gD r:=⟨by have:=h.msn;omega,by have:=h.aba;omega,by have:=h.abb;omega,by have:=h.abc;omega⟩
def vs (w:World) (A:Array Value) (b:Bool) (e:Ending) (W':World):Prop:=e= .returned (.bool b)∧OB w A W'
theorem lU {f:FuncId} (h:Calls prog f args W (aG W b)) (hs:OB w A W):Calls prog f args W (vs w A b):=h.mono fun e W' ⟨h1,h2⟩=>⟨h1,hs.below h2⟩
theorem XU {f:FuncId} (h:Calls prog f args W fun e w'=>e= .returned (.bool b)∧W=w') (hs:OB w A W):Calls prog f args W (vs w A b):=h.mono fun e W' ⟨h1,h2⟩=>⟨h1,by subst h2;exact hs⟩
set_option maxHeartbeats 8000000 in
theorem NI (w:World) (r:PR) (am ao ai al:Option Addr) (nm cm no co ni ci nl cl:Nat) (h:bw 0 w r (.slice am nm cm) (.slice ao no co) (.slice ai ni ci) (.slice al nl cl)) (hl:gD r) {T:Nat→World→Prop} (hT:pK (fun _=>True) T) (kL:T w.heap.size w) (hr:iZ r) (hk:du r.kind r.kids=true) (Se:lY r=true) (hu:gz r=zr r.kind 0):
  Calls prog 60 #[.agg #[.int .i64 r.kind,.int .i64 r.kids,.string r.op,.string r.text,.slice am nm cm,.string r.bV,.string r.step,.string r.off,.string r.tim,.bool r.bool,.bool r.given,.bool r.on,.slice ao no co,.int .i64 r.card,.slice ai ni ci,.bool r.without,.slice al nl cl]] w (aG w (az r)):=by
 have xx:Hid (∀W,Below w.heap.size w W→T W.heap.size W):=aa fun W hb=>hT.mono (hT.fY kL hb) hb.size
 have HR:=aa hr;have HUU:=aa hu;have XC:=aa Se;have HT:=aa hT;obtain⟨A,hA⟩: ∃A,A=dS r (.slice am nm cm) (.slice ao no co) (.slice ai ni ci) (.slice al nl cl):=⟨_,rfl⟩;obtain⟨W1,mh⟩: ∃W1,W1=w.alloc (.cells A 46):=⟨_,rfl⟩;have tn:OB w A W1:=by rw[mh];exact Uc w A
 have lD:Hid (OB w A W1.drew):=aa tn.drew;have HU:Hid (∀W,OB w A W→Calls prog 77 #[.agg #[.int .i64 r.kind,.int .i64 r.kids,.string r.op,.string r.text,.slice am nm cm,.string r.bV,.string r.step,.string r.off,.string r.tim,.bool r.bool,.bool r.given,.bool r.on,.slice ao no co,.int .i64 r.card,.slice ai ni ci,.bool r.without,.slice al nl cl]] W (UnX w A r)):=aa fun W hs=>af3 h hs
 have HA:=aa hA;have HH:=aa h;have CC:=aT tn.drew.2 hA;rw[hA]at mh;simp only[dS]at mh;have FZ:=aa mh;have HL:=aa hl.un;have HK:=aa hk;obtain⟨B,hB⟩: ∃B,B=az r:=⟨_,rfl⟩;rw[←hB];have gy:=aa hB;clear h hl tn hA mh hk kL hu Se hr hT hB;go_enter func60,ntmps60;go_upto_region 1 with(fail)
 rw[←FZ.out];go_cut [18]from 4 to 19 (fun t18 wx=>t18= .bool false∧Hid (OB w A wx))
 case first=>
  go_region_with (first|(go_at_call 76;refine(qq _ _ _).mono ?_;rintro e w' ⟨rfl,rfl⟩;rw[HK.out])|(go_at_call 77;refine(HU.out _ lD.out).mono ?_;rintro e WU ⟨um,uo,ui,ul,rfl,lr,hs⟩;have u0:WU.cell? ⟨w.heap.size,0,none⟩=some (.int .i64 r.kind):=(hs.2.cell 0).trans (by rw[HA.out];rfl);have HSU:=aa hs;have ZN:=aa lr;clear hs lr)|(go_at_call 47;refine(af4 (k:=r.kind) ZN.out HL.out HSU.out).mono ?_;rintro e WS ⟨bs,rfl,Ω,hs⟩;have HSS:=aa hs;have HBS:=aa Ω;clear hs Ω))
  all_goals
   have hb:bs=true:=HBS.out.2 HUU.out;subst hb;go_wp2_with fail;go_meet;exact⟨rfl,HSS⟩
 case rest=>
  obtain⟨rfl,LW⟩:=hcut;have DD:=aT LW.out.2 HA.out;have h9:=qh HK.out;unfold qE at h9;have lz:=aa LW.out;have hT:=HT.out;have hr:=HR.out;have h:=HH.out;clear LW CC;rcases h9 with k|k|k|k|k|k|k|k|k
  ·have HV:Hid (B=(iv r.text)):=aa (by rw[gy.out];unfold az;rw[HK.out,XC.out,k];rfl);rw[k]at DD;clear k;have HC:Hid (∀W,OB w A W→Calls prog 78 #[.string r.text] W (vs w A (iv r.text))):=aa fun W hs=>lU (KB hT W _ hr.text (xx.out W hs.1)) hs
   clear h hr hT;obtain⟨g0,ou⟩: ∃g,g=iv r.text:=⟨_,rfl⟩;simp only[←ou]at HC HV;clear ou
   all_goals
    go_wp2_with (first|(go_at_call 78;(with_reducible refine(HC.out _ (by first|exact lz.out)).mono ?_);rintro e W5 ⟨rfl,hs⟩;have K0:=aT hs.2 HA.out;have ly:=aa hs;clear hs))
    all_goals
     go_ret;exact⟨ah (by rw[HV.out];try first|rfl|(simp)),by first|exact ly.out.1|exact lz.out.1⟩
  ·have HV:Hid (B=(valid r.text.data.toList)):=aa (by rw[gy.out];unfold az;rw[HK.out,XC.out,k];rfl);rw[k]at DD;clear k;have HC:Hid (∀W,OB w A W→Calls prog 79 #[.string r.text] W (vs w A (valid r.text.data.toList))):=aa fun W hs=>lU ((j6 r.text W (by have:=hr.text;omega)).mono fun _ _ h=>⟨h.1,h.2⟩) hs
   clear h hr hT;obtain⟨g0,ou⟩: ∃g,g=valid r.text.data.toList:=⟨_,rfl⟩;simp only[←ou]at HC HV;clear ou
   all_goals
    go_wp2_with (first|(go_at_call 79;(with_reducible refine(HC.out _ (by first|exact lz.out)).mono ?_);rintro e W5 ⟨rfl,hs⟩;have K0:=aT hs.2 HA.out;have ly:=aa hs;clear hs))
    all_goals
     go_ret;exact⟨ah (by rw[HV.out];try first|rfl|(simp)),by first|exact ly.out.1|exact lz.out.1⟩
  ·have HV:Hid (B=((dB r.text||ld r.text true)&&iH r.off r.tim&&r.ms.all cP)):=aa (by rw[gy.out];unfold az;rw[HK.out,XC.out,k];rfl);rw[k]at DD;clear k;have HC:Hid (∀W,OB w A W→Calls prog 80 #[.string r.text,.bool true] W (vs w A (ld r.text true))):=aa fun W hs=>lU (sy hT W _ true hr.text (xx.out W hs.1)) hs
   have HD:Hid (∀W,OB w A W→Calls prog 81 #[.agg #[.string r.off,.string r.tim]] W (vs w A (iH r.off r.tim))):=aa fun W hs=>lU (sB hT W _ _ hr.off hr.tim (xx.out W hs.1)) hs
   have HE:Hid (∀W,OB w A W→Calls prog 82 #[.slice am nm cm,.func (.func 83) #[] #[]] W (vs w A (!r.ms.all cP))):=aa fun W hs=>lU (Hs (h.1.below hs.1) hr.msn hr.ms) hs
   clear h hr hT;obtain⟨g0,ou⟩: ∃g,g=ld r.text true:=⟨_,rfl⟩;obtain⟨g1,nf⟩: ∃g,g=iH r.off r.tim:=⟨_,rfl⟩;obtain⟨g2,qZ⟩: ∃g,g=r.ms.all cP:=⟨_,rfl⟩;simp only[←ou,←nf,←qZ]at HC HD HE HV;clear ou nf qZ;have zV:Hid (dB r.text=decide (r.text.toList=[])):=aa (jq _);rcases(show (r.text.toList=[]∧r.text.toList.isEmpty=true)∨((r.text.toList=[])=False∧r.text.toList.isEmpty=false)by cases r.text.toList<;>simp)with⟨u1,u2⟩|⟨u1,u2⟩<;>cases g0<;>cases g1
   all_goals
    go_wp2_with (first|(go_at_call 80;(with_reducible refine(HC.out _ (by first|exact lz.out)).mono ?_);rintro e W5 ⟨rfl,hs⟩;have K0:=aT hs.2 HA.out;have ly:=aa hs;clear hs)|(go_at_call 81;(with_reducible refine(HD.out _ (by first|exact ly.out|exact lz.out)).mono ?_);rintro e W6 ⟨rfl,hs⟩;have K1:=aT hs.2 HA.out;have qW:=aa hs;clear hs)|(go_at_call 82;(with_reducible refine(HE.out _ (by first|exact qW.out|exact ly.out|exact lz.out)).mono ?_);rintro e W7 ⟨rfl,hs⟩;have K2:=aT hs.2 HA.out;have kt:=aa hs;clear hs))
    all_goals
     go_ret;exact⟨ah (by rw[HV.out];try first|rfl|(rw[zV.out];simp[u1,gj])),by first|exact kt.out.1|exact qW.out.1|exact ly.out.1|exact lz.out.1⟩
  ·have HV:Hid (B=(fC r.bV)):=aa (by rw[gy.out];unfold az;rw[HK.out,XC.out,k];rfl);rw[k]at DD;clear k;have HC:Hid (∀W,OB w A W→Calls prog 85 #[.string r.bV] W (vs w A (fC r.bV))):=aa fun W hs=>lU (gJ hT W _ hr.bV (xx.out W hs.1)) hs
   clear h hr hT;obtain⟨g0,ou⟩: ∃g,g=fC r.bV:=⟨_,rfl⟩;simp only[←ou]at HC HV;clear ou
   all_goals
    go_wp2_with (first|(go_at_call 85;(with_reducible refine(HC.out _ (by first|exact lz.out)).mono ?_);rintro e W5 ⟨rfl,hs⟩;have K0:=aT hs.2 HA.out;have ly:=aa hs;clear hs))
    all_goals
     go_ret;exact⟨ah (by rw[HV.out];try first|rfl|(simp)),by first|exact ly.out.1|exact lz.out.1⟩
  ·have HV:Hid (B=(fC r.bV&&(dB r.step||fC r.step)&&iH r.off r.tim)):=aa (by rw[gy.out];unfold az;rw[HK.out,XC.out,k];rfl);rw[k]at DD;clear k;have HC:Hid (∀W,OB w A W→Calls prog 85 #[.string r.bV] W (vs w A (fC r.bV))):=aa fun W hs=>lU (gJ hT W _ hr.bV (xx.out W hs.1)) hs
   have HD:Hid (∀W,OB w A W→Calls prog 85 #[.string r.step] W (vs w A (fC r.step))):=aa fun W hs=>lU (gJ hT W _ hr.step (xx.out W hs.1)) hs
   have HE:Hid (∀W,OB w A W→Calls prog 81 #[.agg #[.string r.off,.string r.tim]] W (vs w A (iH r.off r.tim))):=aa fun W hs=>lU (sB hT W _ _ hr.off hr.tim (xx.out W hs.1)) hs
   clear h hr hT;obtain⟨g0,ou⟩: ∃g,g=fC r.bV:=⟨_,rfl⟩;obtain⟨g1,nf⟩: ∃g,g=fC r.step:=⟨_,rfl⟩;obtain⟨g2,qZ⟩: ∃g,g=iH r.off r.tim:=⟨_,rfl⟩;simp only[←ou,←nf,←qZ]at HC HD HE HV;clear ou nf qZ;have zV:Hid (dB r.step=decide (r.step.toList=[])):=aa (jq _);rcases(show (r.step.toList=[]∧r.step.toList.isEmpty=true)∨((r.step.toList=[])=False∧r.step.toList.isEmpty=false)by cases r.step.toList<;>simp)with⟨u1,u2⟩|⟨u1,u2⟩<;>cases g0<;>cases g1
   all_goals
    go_wp2_with (first|(go_at_call 85;(with_reducible refine(HC.out _ (by first|exact lz.out)).mono ?_);rintro e W5 ⟨rfl,hs⟩;have K0:=aT hs.2 HA.out;have ly:=aa hs;clear hs)|(go_at_call 85;(with_reducible refine(HD.out _ (by first|exact ly.out|exact lz.out)).mono ?_);rintro e W6 ⟨rfl,hs⟩;have K1:=aT hs.2 HA.out;have qW:=aa hs;clear hs)|(go_at_call 81;(with_reducible refine(HE.out _ (by first|exact qW.out|exact ly.out|exact lz.out)).mono ?_);rintro e W7 ⟨rfl,hs⟩;have K2:=aT hs.2 HA.out;have kt:=aa hs;clear hs))
    all_goals
     go_ret;exact⟨ah (by rw[HV.out];try first|rfl|(rw[zV.out];simp[u1,gj])),by first|exact kt.out.1|exact qW.out.1|exact ly.out.1|exact lz.out.1⟩
  ·have HV:Hid (B=(mZ [43] r.op||mZ [45] r.op)):=aa (by rw[gy.out];unfold az;rw[HK.out,XC.out,k];rfl);rw[k]at DD;clear k;clear h hr hT;have zV:Hid (mZ [43] r.op=(r.op.toList==[43])):=aa (by rw[cq];rfl);have Sq:Hid (mZ [45] r.op=(r.op.toList==[45])):=aa (by rw[cq];rfl)
   all_goals
    go_wp2_with (first|fail)
    all_goals
     go_ret;exact⟨ah (by rw[HV.out];try first|rfl|(rw[zV.out,Sq.out];try simp_all)),by first|exact lz.out.1⟩
  ·have HV:Hid (B=(mH.contains r.op.data.toList&&iY r.given r.on r.mls r.card r.inc)):=aa (by rw[gy.out];unfold az;rw[HK.out,XC.out,k];rfl);rw[k]at DD;clear k;have HC:Hid (∀W,OB w A W→Calls prog 86 #[.string r.op] W (vs w A (mH.contains r.op.data.toList))):=aa fun W hs=>XU (Eb W r.op) hs
   have HD:Hid (∀W,OB w A W→Calls prog 87 #[.agg #[.bool r.given,.bool r.on,.slice ao no co,.int .i64 r.card,.slice ai ni ci]] W (vs w A (iY r.given r.on r.mls r.card r.inc))):=aa fun W hs=>lU (vh r.given r.on r.card (h.2.1.below hs.1) (h.2.2.1.below hs.1) hr.aba hr.abb hr.mls hr.inc) hs
   clear h hr hT;obtain⟨g0,ou⟩: ∃g,g=mH.contains r.op.data.toList:=⟨_,rfl⟩;obtain⟨g1,nf⟩: ∃g,g=iY r.given r.on r.mls r.card r.inc:=⟨_,rfl⟩;simp only[←ou,←nf]at HC HD HV;clear ou nf;cases g0
   all_goals
    go_wp2_with (first|(go_at_call 86;(with_reducible refine(HC.out _ (by first|exact lz.out)).mono ?_);rintro e W5 ⟨rfl,hs⟩;have K0:=aT hs.2 HA.out;have ly:=aa hs;clear hs)|(go_at_call 87;(with_reducible refine(HD.out _ (by first|exact ly.out|exact lz.out)).mono ?_);rintro e W6 ⟨rfl,hs⟩;have K1:=aT hs.2 HA.out;have qW:=aa hs;clear hs))
    all_goals
     go_ret;exact⟨ah (by rw[HV.out];try first|rfl|(simp)),by first|exact qW.out.1|exact ly.out.1|exact lz.out.1⟩
  ·have HV:Hid (B=(ld r.op false)):=aa (by rw[gy.out];unfold az;rw[HK.out,XC.out,k];rfl);rw[k]at DD;clear k;have HC:Hid (∀W,OB w A W→Calls prog 80 #[.string r.op,.bool false] W (vs w A (ld r.op false))):=aa fun W hs=>lU (sy hT W _ false hr.op (xx.out W hs.1)) hs
   clear h hr hT;obtain⟨g0,ou⟩: ∃g,g=ld r.op false:=⟨_,rfl⟩;simp only[←ou]at HC HV;clear ou
   all_goals
    go_wp2_with (first|(go_at_call 80;(with_reducible refine(HC.out _ (by first|exact lz.out)).mono ?_);rintro e W5 ⟨rfl,hs⟩;have K0:=aT hs.2 HA.out;have ly:=aa hs;clear hs))
    all_goals
     go_ret;exact⟨ah (by rw[HV.out];try first|rfl|(simp)),by first|exact ly.out.1|exact lz.out.1⟩
  ·have HV:Hid (B=(mI.contains r.op.data.toList&&bJ r.labels)):=aa (by rw[gy.out];unfold az;rw[HK.out,XC.out,k];rfl);rw[k]at DD;clear k;have HC:Hid (∀W,OB w A W→Calls prog 88 #[.string r.op] W (vs w A (mI.contains r.op.data.toList))):=aa fun W hs=>XU (yy W r.op) hs
   have HD:Hid (∀W,OB w A W→Calls prog 89 #[.slice al nl cl] W (vs w A (bJ r.labels))):=aa fun W hs=>lU (lM (h.2.2.2.below hs.1) hr.abc hr.lab) hs
   clear h hr hT;obtain⟨g0,ou⟩: ∃g,g=mI.contains r.op.data.toList:=⟨_,rfl⟩;obtain⟨g1,nf⟩: ∃g,g=bJ r.labels:=⟨_,rfl⟩;simp only[←ou,←nf]at HC HD HV;clear ou nf;cases g0
   all_goals
    go_wp2_with (first|(go_at_call 88;(with_reducible refine(HC.out _ (by first|exact lz.out)).mono ?_);rintro e W5 ⟨rfl,hs⟩;have K0:=aT hs.2 HA.out;have ly:=aa hs;clear hs)|(go_at_call 89;(with_reducible refine(HD.out _ (by first|exact ly.out|exact lz.out)).mono ?_);rintro e W6 ⟨rfl,hs⟩;have K1:=aT hs.2 HA.out;have qW:=aa hs;clear hs))
    all_goals
     go_ret;exact⟨ah (by rw[HV.out];try first|rfl|(simp)),by first|exact qW.out.1|exact ly.out.1|exact lz.out.1⟩
def Ud (T:Nat→World→Prop):Prop:= ∀(w:World) (r:PR) (m o i l:Value),bw 0 w r m o i l→iZ r→T w.heap.size w→Calls prog 60 #[jB r m o i l] w (aG w (az r))
