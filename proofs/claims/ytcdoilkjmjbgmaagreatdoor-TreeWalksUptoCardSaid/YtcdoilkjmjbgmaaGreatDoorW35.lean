import Derived.Test.YtcdoilkjmjbgmaaGreatDoorW34
/- Part of the proof of YtcdoilkjmjbgmaaGreatDoorCardX: TrXb. -/
set_option maxRecDepth 100000
set_option maxHeartbeats 4000000
set_option linter.unusedVariables false
set_option linter.unusedSimpArgs false
namespace Go.Proofs.YtcdoilkjmjbgmaaGreatDoor
open Go.RowKit
open Go.Proofs.Tryz
variable {r:PR} {w W:World} {A args:Array Value} {b:Bool}
structure jU (r:PR):Prop where
 op:r.op.size≤1048576
 text:r.text.size≤1048576
 bQ:r.bQ.size≤1048576
 step:r.step.size≤1048576
 off:r.off.size≤1048576
 tim:r.tim.size≤1048576
 msn:r.ms.length≤1048576
 ms: ∀m∈r.ms,m.name.size≤1048576∧m.value.size≤1048576
 abH:r.mls.length≤1048576
 mls: ∀s∈r.mls,s.size≤1048576
 abI:r.inc.length≤1048576
 inc: ∀s∈r.inc,s.size≤1048576
 abJ:r.labels.length≤1048576
 lab: ∀s∈r.labels,s.size≤1048576
theorem jU.len (h:jU r):iO r:=⟨by have:=h.msn;omega,by have:=h.abH;omega,by have:=h.abI;omega,by have:=h.abJ;omega⟩
def uW (w:World) (A:Array Value) (b:Bool) (e:Ending) (W':World):Prop:=e= .returned (.bool b)∧OB w A W'
theorem lL {f:FuncId} (h:Calls prog f args W (aC W b)) (hs:OB w A W):Calls prog f args W (uW w A b):=h.mono fun e W' ⟨h1,h2⟩=>⟨h1,hs.below h2⟩
theorem Yg {f:FuncId} (h:Calls prog f args W fun e w'=>e= .returned (.bool b)∧W=w') (hs:OB w A W):Calls prog f args W (uW w A b):=h.mono fun e W' ⟨h1,h2⟩=>⟨h1,by subst h2;exact hs⟩
set_option maxHeartbeats 8000000 in
theorem Nv (w:World) (r:PR) (am ao ai al:Option Addr) (nm cm no co ni ci nl cl:Nat) (h:bw 0 w r (.slice am nm cm) (.slice ao no co) (.slice ai ni ci) (.slice al nl cl)) (hl:iO r) {T:Nat→World→Prop} (hT:pT (fun _=>True) T) (kD:T w.heap.size w) (hr:jU r) (hk:de r.kind r.kids=true) (Sb:lP r=true) (hu:fZ r=zr r.kind 0):
  Calls prog 60 #[.agg #[.int .i64 r.kind,.int .i64 r.kids,.string r.op,.string r.text,.slice am nm cm,.string r.bQ,.string r.step,.string r.off,.string r.tim,.bool r.bool,.bool r.given,.bool r.on,.slice ao no co,.int .i64 r.card,.slice ai ni ci,.bool r.without,.slice al nl cl]] w (aC w (ax r)):=by
 have xc:Hid (∀W,Below w.heap.size w W→T W.heap.size W):=aa fun W hb=>hT.mono (hT.fN kD hb) hb.size
 have HR:=aa hr;have HUU:=aa hu;have XN:=aa Sb;have HT:=aa hT;obtain⟨A,hA⟩: ∃A,A=dN r (.slice am nm cm) (.slice ao no co) (.slice ai ni ci) (.slice al nl cl):=⟨_,rfl⟩;obtain⟨W1,lY⟩: ∃W1,W1=w.alloc (.cells A 46):=⟨_,rfl⟩;have s7:OB w A W1:=by rw[lY];exact Uj w A
 have lJ:Hid (OB w A W1.drew):=aa s7.drew;have HU:Hid (∀W,OB w A W→Calls prog 77 #[.agg #[.int .i64 r.kind,.int .i64 r.kids,.string r.op,.string r.text,.slice am nm cm,.string r.bQ,.string r.step,.string r.off,.string r.tim,.bool r.bool,.bool r.given,.bool r.on,.slice ao no co,.int .i64 r.card,.slice ai ni ci,.bool r.without,.slice al nl cl]] W (UnX w A r)):=aa fun W hs=>afT h hs
 have HA:=aa hA;have HH:=aa h;have CC:=aQ s7.drew.2 hA;rw[hA]at lY;simp only[dN]at lY;have FO:=aa lY;have HL:=aa hl.un;have HK:=aa hk;obtain⟨B,hB⟩: ∃B,B=ax r:=⟨_,rfl⟩;rw[←hB];have fY:=aa hB;clear h hl s7 hA lY hk kD hu Sb hr hT hB;go_enter func60,ntmps60;go_upto_region 1 with(fail)
 rw[←FO.out];go_cut [18]from 4 to 19 (fun t18 wx=>t18= .bool false∧Hid (OB w A wx))
 case first=>
  go_region_with (first|(go_at_call 76;refine(qA _ _ _).mono ?_;rintro e w' ⟨rfl,rfl⟩;rw[HK.out])|(go_at_call 77;refine(HU.out _ lJ.out).mono ?_;rintro e WU ⟨um,uo,ui,ul,rfl,mj,hs⟩;have u0:WU.cell? ⟨w.heap.size,0,none⟩=some (.int .i64 r.kind):=(hs.2.cell 0).trans (by rw[HA.out];rfl);have HSU:=aa hs;have ζ:=aa mj;clear hs mj)|(go_at_call 47;refine(afU (k:=r.kind) ζ.out HL.out HSU.out).mono ?_;rintro e WS ⟨bs,rfl,hbs,hs⟩;have HSS:=aa hs;have HBS:=aa hbs;clear hs hbs))
  all_goals
   have hb:bs=true:=HBS.out.2 HUU.out;subst hb;go_wp2_with fail;go_meet;exact⟨rfl,HSS⟩
 case rest=>
  obtain⟨rfl,LG⟩:=hcut;have DD:=aQ LG.out.2 HA.out;have h9:=qq HK.out;unfold qL at h9;have ld:=aa LG.out;have hT:=HT.out;have hr:=HR.out;have h:=HH.out;clear LG CC;rcases h9 with k|k|k|k|k|k|k|k|k
  ·have HV:Hid (B=(ix r.text)):=aa (by rw[fY.out];unfold ax;rw[HK.out,XN.out,k];rfl);rw[k]at DD;clear k;have HC:Hid (∀W,OB w A W→Calls prog 78 #[.string r.text] W (uW w A (ix r.text))):=aa fun W hs=>lL (Ki hT W _ hr.text (xc.out W hs.1)) hs
   clear h hr hT;obtain⟨g0,oA⟩: ∃g,g=ix r.text:=⟨_,rfl⟩;simp only[←oA]at HC HV;clear oA
   all_goals
    go_wp2_with (first|(go_at_call 78;(with_reducible refine(HC.out _ (by first|exact ld.out)).mono ?_);rintro e W5 ⟨rfl,hs⟩;have K0:=aQ hs.2 HA.out;have la:=aa hs;clear hs))
    all_goals
     go_ret;exact⟨ah (by rw[HV.out];try first|rfl|(simp)),by first|exact la.out.1|exact ld.out.1⟩
  ·have HV:Hid (B=(valid r.text.data.toList)):=aa (by rw[fY.out];unfold ax;rw[HK.out,XN.out,k];rfl);rw[k]at DD;clear k;have HC:Hid (∀W,OB w A W→Calls prog 79 #[.string r.text] W (uW w A (valid r.text.data.toList))):=aa fun W hs=>lL ((jV r.text W (by have:=hr.text;omega)).mono fun _ _ h=>⟨h.1,h.2⟩) hs
   clear h hr hT;obtain⟨g0,oA⟩: ∃g,g=valid r.text.data.toList:=⟨_,rfl⟩;simp only[←oA]at HC HV;clear oA
   all_goals
    go_wp2_with (first|(go_at_call 79;(with_reducible refine(HC.out _ (by first|exact ld.out)).mono ?_);rintro e W5 ⟨rfl,hs⟩;have K0:=aQ hs.2 HA.out;have la:=aa hs;clear hs))
    all_goals
     go_ret;exact⟨ah (by rw[HV.out];try first|rfl|(simp)),by first|exact la.out.1|exact ld.out.1⟩
  ·have HV:Hid (B=((dy r.text||kP r.text true)&&iG r.off r.tim&&r.ms.all cF)):=aa (by rw[fY.out];unfold ax;rw[HK.out,XN.out,k];rfl);rw[k]at DD;clear k;have HC:Hid (∀W,OB w A W→Calls prog 80 #[.string r.text,.bool true] W (uW w A (kP r.text true))):=aa fun W hs=>lL (sc hT W _ true hr.text (xc.out W hs.1)) hs
   have HD:Hid (∀W,OB w A W→Calls prog 81 #[.agg #[.string r.off,.string r.tim]] W (uW w A (iG r.off r.tim))):=aa fun W hs=>lL (sd hT W _ _ hr.off hr.tim (xc.out W hs.1)) hs
   have HE:Hid (∀W,OB w A W→Calls prog 82 #[.slice am nm cm,.func (.func 83) #[] #[]] W (uW w A (!r.ms.all cF))):=aa fun W hs=>lL (Hf (h.1.below hs.1) hr.msn hr.ms) hs
   clear h hr hT;obtain⟨g0,oA⟩: ∃g,g=kP r.text true:=⟨_,rfl⟩;obtain⟨g1,pD⟩: ∃g,g=iG r.off r.tim:=⟨_,rfl⟩;obtain⟨g2,tm⟩: ∃g,g=r.ms.all cF:=⟨_,rfl⟩;simp only[←oA,←pD,←tm]at HC HD HE HV;clear oA pD tm;have zN:Hid (dy r.text=decide (r.text.toList=[])):=aa (jn _);rcases(show (r.text.toList=[]∧r.text.toList.isEmpty=true)∨((r.text.toList=[])=False∧r.text.toList.isEmpty=false)by cases r.text.toList<;>simp)with⟨u1,u2⟩|⟨u1,u2⟩<;>cases g0<;>cases g1
   all_goals
    go_wp2_with (first|(go_at_call 80;(with_reducible refine(HC.out _ (by first|exact ld.out)).mono ?_);rintro e W5 ⟨rfl,hs⟩;have K0:=aQ hs.2 HA.out;have la:=aa hs;clear hs)|(go_at_call 81;(with_reducible refine(HD.out _ (by first|exact la.out|exact ld.out)).mono ?_);rintro e W6 ⟨rfl,hs⟩;have K1:=aQ hs.2 HA.out;have qB:=aa hs;clear hs)|(go_at_call 82;(with_reducible refine(HE.out _ (by first|exact qB.out|exact la.out|exact ld.out)).mono ?_);rintro e W7 ⟨rfl,hs⟩;have K2:=aQ hs.2 HA.out;have lD:=aa hs;clear hs))
    all_goals
     go_ret;exact⟨ah (by rw[HV.out];try first|rfl|(rw[zN.out];simp[u1,fS])),by first|exact lD.out.1|exact qB.out.1|exact la.out.1|exact ld.out.1⟩
  ·have HV:Hid (B=(fx r.bQ)):=aa (by rw[fY.out];unfold ax;rw[HK.out,XN.out,k];rfl);rw[k]at DD;clear k;have HC:Hid (∀W,OB w A W→Calls prog 85 #[.string r.bQ] W (uW w A (fx r.bQ))):=aa fun W hs=>lL (gD hT W _ hr.bQ (xc.out W hs.1)) hs
   clear h hr hT;obtain⟨g0,oA⟩: ∃g,g=fx r.bQ:=⟨_,rfl⟩;simp only[←oA]at HC HV;clear oA
   all_goals
    go_wp2_with (first|(go_at_call 85;(with_reducible refine(HC.out _ (by first|exact ld.out)).mono ?_);rintro e W5 ⟨rfl,hs⟩;have K0:=aQ hs.2 HA.out;have la:=aa hs;clear hs))
    all_goals
     go_ret;exact⟨ah (by rw[HV.out];try first|rfl|(simp)),by first|exact la.out.1|exact ld.out.1⟩
  ·have HV:Hid (B=(fx r.bQ&&(dy r.step||fx r.step)&&iG r.off r.tim)):=aa (by rw[fY.out];unfold ax;rw[HK.out,XN.out,k];rfl);rw[k]at DD;clear k;have HC:Hid (∀W,OB w A W→Calls prog 85 #[.string r.bQ] W (uW w A (fx r.bQ))):=aa fun W hs=>lL (gD hT W _ hr.bQ (xc.out W hs.1)) hs
   have HD:Hid (∀W,OB w A W→Calls prog 85 #[.string r.step] W (uW w A (fx r.step))):=aa fun W hs=>lL (gD hT W _ hr.step (xc.out W hs.1)) hs
   have HE:Hid (∀W,OB w A W→Calls prog 81 #[.agg #[.string r.off,.string r.tim]] W (uW w A (iG r.off r.tim))):=aa fun W hs=>lL (sd hT W _ _ hr.off hr.tim (xc.out W hs.1)) hs
   clear h hr hT;obtain⟨g0,oA⟩: ∃g,g=fx r.bQ:=⟨_,rfl⟩;obtain⟨g1,pD⟩: ∃g,g=fx r.step:=⟨_,rfl⟩;obtain⟨g2,tm⟩: ∃g,g=iG r.off r.tim:=⟨_,rfl⟩;simp only[←oA,←pD,←tm]at HC HD HE HV;clear oA pD tm;have zN:Hid (dy r.step=decide (r.step.toList=[])):=aa (jn _);rcases(show (r.step.toList=[]∧r.step.toList.isEmpty=true)∨((r.step.toList=[])=False∧r.step.toList.isEmpty=false)by cases r.step.toList<;>simp)with⟨u1,u2⟩|⟨u1,u2⟩<;>cases g0<;>cases g1
   all_goals
    go_wp2_with (first|(go_at_call 85;(with_reducible refine(HC.out _ (by first|exact ld.out)).mono ?_);rintro e W5 ⟨rfl,hs⟩;have K0:=aQ hs.2 HA.out;have la:=aa hs;clear hs)|(go_at_call 85;(with_reducible refine(HD.out _ (by first|exact la.out|exact ld.out)).mono ?_);rintro e W6 ⟨rfl,hs⟩;have K1:=aQ hs.2 HA.out;have qB:=aa hs;clear hs)|(go_at_call 81;(with_reducible refine(HE.out _ (by first|exact qB.out|exact la.out|exact ld.out)).mono ?_);rintro e W7 ⟨rfl,hs⟩;have K2:=aQ hs.2 HA.out;have lD:=aa hs;clear hs))
    all_goals
     go_ret;exact⟨ah (by rw[HV.out];try first|rfl|(rw[zN.out];simp[u1,fS])),by first|exact lD.out.1|exact qB.out.1|exact la.out.1|exact ld.out.1⟩
  ·have HV:Hid (B=(nf [43] r.op||nf [45] r.op)):=aa (by rw[fY.out];unfold ax;rw[HK.out,XN.out,k];rfl);rw[k]at DD;clear k;clear h hr hT;have zN:Hid (nf [43] r.op=(r.op.toList==[43])):=aa (by rw[bU];rfl);have Sq:Hid (nf [45] r.op=(r.op.toList==[45])):=aa (by rw[bU];rfl)
   all_goals
    go_wp2_with (first|fail)
    all_goals
     go_ret;exact⟨ah (by rw[HV.out];try first|rfl|(rw[zN.out,Sq.out];try simp_all)),by first|exact ld.out.1⟩
  ·have HV:Hid (B=(mH.contains r.op.data.toList&&iY r.given r.on r.mls r.card r.inc)):=aa (by rw[fY.out];unfold ax;rw[HK.out,XN.out,k];rfl);rw[k]at DD;clear k;have HC:Hid (∀W,OB w A W→Calls prog 86 #[.string r.op] W (uW w A (mH.contains r.op.data.toList))):=aa fun W hs=>Yg (D2 W r.op) hs
   have HD:Hid (∀W,OB w A W→Calls prog 87 #[.agg #[.bool r.given,.bool r.on,.slice ao no co,.int .i64 r.card,.slice ai ni ci]] W (uW w A (iY r.given r.on r.mls r.card r.inc))):=aa fun W hs=>lL (uT r.given r.on r.card (h.2.1.below hs.1) (h.2.2.1.below hs.1) hr.abH hr.abI hr.mls hr.inc) hs
   clear h hr hT;obtain⟨g0,oA⟩: ∃g,g=mH.contains r.op.data.toList:=⟨_,rfl⟩;obtain⟨g1,pD⟩: ∃g,g=iY r.given r.on r.mls r.card r.inc:=⟨_,rfl⟩;simp only[←oA,←pD]at HC HD HV;clear oA pD;cases g0
   all_goals
    go_wp2_with (first|(go_at_call 86;(with_reducible refine(HC.out _ (by first|exact ld.out)).mono ?_);rintro e W5 ⟨rfl,hs⟩;have K0:=aQ hs.2 HA.out;have la:=aa hs;clear hs)|(go_at_call 87;(with_reducible refine(HD.out _ (by first|exact la.out|exact ld.out)).mono ?_);rintro e W6 ⟨rfl,hs⟩;have K1:=aQ hs.2 HA.out;have qB:=aa hs;clear hs))
    all_goals
     go_ret;exact⟨ah (by rw[HV.out];try first|rfl|(simp)),by first|exact qB.out.1|exact la.out.1|exact ld.out.1⟩
  ·have HV:Hid (B=(kP r.op false)):=aa (by rw[fY.out];unfold ax;rw[HK.out,XN.out,k];rfl);rw[k]at DD;clear k;have HC:Hid (∀W,OB w A W→Calls prog 80 #[.string r.op,.bool false] W (uW w A (kP r.op false))):=aa fun W hs=>lL (sc hT W _ false hr.op (xc.out W hs.1)) hs
   clear h hr hT;obtain⟨g0,oA⟩: ∃g,g=kP r.op false:=⟨_,rfl⟩;simp only[←oA]at HC HV;clear oA
   all_goals
    go_wp2_with (first|(go_at_call 80;(with_reducible refine(HC.out _ (by first|exact ld.out)).mono ?_);rintro e W5 ⟨rfl,hs⟩;have K0:=aQ hs.2 HA.out;have la:=aa hs;clear hs))
    all_goals
     go_ret;exact⟨ah (by rw[HV.out];try first|rfl|(simp)),by first|exact la.out.1|exact ld.out.1⟩
  ·have HV:Hid (B=(mI.contains r.op.data.toList&&bG r.labels)):=aa (by rw[fY.out];unfold ax;rw[HK.out,XN.out,k];rfl);rw[k]at DD;clear k;have HC:Hid (∀W,OB w A W→Calls prog 88 #[.string r.op] W (uW w A (mI.contains r.op.data.toList))):=aa fun W hs=>Yg (yl W r.op) hs
   have HD:Hid (∀W,OB w A W→Calls prog 89 #[.slice al nl cl] W (uW w A (bG r.labels))):=aa fun W hs=>lL (ly (h.2.2.2.below hs.1) hr.abJ hr.lab) hs
   clear h hr hT;obtain⟨g0,oA⟩: ∃g,g=mI.contains r.op.data.toList:=⟨_,rfl⟩;obtain⟨g1,pD⟩: ∃g,g=bG r.labels:=⟨_,rfl⟩;simp only[←oA,←pD]at HC HD HV;clear oA pD;cases g0
   all_goals
    go_wp2_with (first|(go_at_call 88;(with_reducible refine(HC.out _ (by first|exact ld.out)).mono ?_);rintro e W5 ⟨rfl,hs⟩;have K0:=aQ hs.2 HA.out;have la:=aa hs;clear hs)|(go_at_call 89;(with_reducible refine(HD.out _ (by first|exact la.out|exact ld.out)).mono ?_);rintro e W6 ⟨rfl,hs⟩;have K1:=aQ hs.2 HA.out;have qB:=aa hs;clear hs))
    all_goals
     go_ret;exact⟨ah (by rw[HV.out];try first|rfl|(simp)),by first|exact qB.out.1|exact la.out.1|exact ld.out.1⟩
