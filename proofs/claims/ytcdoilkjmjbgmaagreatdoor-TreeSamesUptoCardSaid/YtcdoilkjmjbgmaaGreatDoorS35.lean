import Derived.Test.YtcdoilkjmjbgmaaGreatDoorS32
import Derived.Test.YtcdoilkjmjbgmaaGreatDoorS31
import Derived.Test.YtcdoilkjmjbgmaaGreatDoorS34
/- Part of the proof of YtcdoilkjmjbgmaaGreatDoorCardY: TvG TvH. -/
set_option maxRecDepth 100000
set_option maxHeartbeats 4000000
set_option linter.unusedVariables false
set_option linter.unusedSimpArgs false
namespace Go.Proofs.YtcdoilkjmjbgmaaGreatDoor
open Go.RowKit
open Go.Proofs.Tryz
variable {w W:World} {A args cs:Array Value} {n:Int} {b g:Nat} {t:TypeId} {r:PR} {m o i l:Value}
theorem Rg: ∀b0 b1 b2 b3 b4 b5 b6 b7 b8 b9:Bool,(bits BinOp.andNot IntKind.i64 (vK b0 b1 b2 b3 b4 b5 b6 b7 b8 b9) 2==0)=(!b0&& !b2&& !b3&& !b4&& !b5&& !b6&& !b7&& !b8&& !b9):=by decide+kernel
theorem VI: ∀b0 b1 b2 b3 b4 b5 b6 b7 b8 b9:Bool,(bits BinOp.andNot IntKind.i64 (vK b0 b1 b2 b3 b4 b5 b6 b7 b8 b9) 38==0)=(!b0&& !b3&& !b4&& !b6&& !b7&& !b8&& !b9):=by decide+kernel
theorem VJ: ∀b0 b1 b2 b3 b4 b5 b6 b7 b8 b9:Bool,(bits BinOp.andNot IntKind.i64 (vK b0 b1 b2 b3 b4 b5 b6 b7 b8 b9) 8==0)=(!b0&& !b1&& !b2&& !b4&& !b5&& !b6&& !b7&& !b8&& !b9):=by decide+kernel
theorem VK: ∀b0 b1 b2 b3 b4 b5 b6 b7 b8 b9:Bool,(bits BinOp.andNot IntKind.i64 (vK b0 b1 b2 b3 b4 b5 b6 b7 b8 b9) 56==0)=(!b0&& !b1&& !b2&& !b6&& !b7&& !b8&& !b9):=by decide+kernel
theorem Y7: ∀b0 b1 b2 b3 b4 b5 b6 b7 b8 b9:Bool,(bits BinOp.andNot IntKind.i64 (vK b0 b1 b2 b3 b4 b5 b6 b7 b8 b9) 1==0)=(!b1&& !b2&& !b3&& !b4&& !b5&& !b6&& !b7&& !b8&& !b9):=by decide+kernel
theorem VL: ∀b0 b1 b2 b3 b4 b5 b6 b7 b8 b9:Bool,(bits BinOp.andNot IntKind.i64 (vK b0 b1 b2 b3 b4 b5 b6 b7 b8 b9) 193==0)=(!b1&& !b2&& !b3&& !b4&& !b5&& !b8&& !b9):=by decide+kernel
theorem VM: ∀b0 b1 b2 b3 b4 b5 b6 b7 b8 b9:Bool,(bits BinOp.andNot IntKind.i64 (vK b0 b1 b2 b3 b4 b5 b6 b7 b8 b9) 769==0)=(!b1&& !b2&& !b3&& !b4&& !b5&& !b6&& !b7):=by decide+kernel
def sk (r:PR):Int:=vK (!LI r) (!ru r) (!FV r) (!yJ r) (!pH r) (!pI r) r.bool (!fC r) r.without (!jB r)
def Md (k:Int):Int:=if k=1∨k=2 then 2 else if k=3 then 38 else if k=4 then 8 else if k=5 then 56 else if k=6∨k=8 then 1 else if k=7 then 193 else 769
theorem Kz (r:PR) (h:qp r.kind):(bits BinOp.andNot IntKind.i64 (sk r) (Md r.kind)==0)=lP r:=by
 unfold qp at h;unfold lP sk Md;rcases h with k|k|k|k|k|k|k|k|k<;>rw[k]<;>simp[Rg,VI,VJ,VK,Y7,VL,VM]
def XY (w:World) (A:Array Value) (n:Int) (e:Ending) (W':World):Prop:=e= .returned (.int .i64 n)∧OB w A W'
theorem Ty {f:FuncId} (h:Calls prog f args W fun e W'=>e= .returned (.int .i64 n)∧Below W.heap.size W W') (hs:OB w A W):Calls prog f args W (XY w A n):=h.mono fun e W' ⟨h1,h2⟩=>⟨h1,hs.below h2⟩
theorem Nv (w:World) (r:PR) (A:Array Value) {m o i l:Value} (h:bA b w r m o i l) (hA:A=et r m o i l) (h1: ∀u∈A.toList,u.oneCell'=true):
  Calls prog 49 #[.agg A] w fun e w'=>e= .returned (.int .i64 (sk r))∧Below w.heap.size w w':=by
 obtain⟨⟨am,cm,rfl,_⟩,⟨ao,co,rfl,_⟩,⟨ai,ci,rfl,_⟩,⟨al,cl,rfl,_⟩⟩:=h;have hs: ∀x:ByteArray,x.toList.isEmpty= !!dA x:=fun x=>by rw[bY,dA];simp
 have hl: ∀{α:Type} (l:List α),decide (0<l.length)= !l.isEmpty:=fun l=>by cases l<;>simp
 have:=Kw w r A am ao ai al _ cm _ co _ ci _ cl hA h1 (!LI r) (!ru r) (!FV r) (!yJ r) (!pH r) (!jB r) (!dA r.off) (!dA r.tim) r.given r.on (!r.mls.isEmpty) (r.card != 0) (!r.inc.isEmpty) (hs _) (hs _) (hl _) (hs _) (hs _) (hs _) (hs _) rfl rfl (hl _) rfl (hl _) (hl _);have e1:(!dA r.off|| !dA r.tim)= !pI r:=by unfold pI;rw[Bool.not_and]
 have e2:(r.given||r.on|| !r.mls.isEmpty||(r.card != 0)|| !r.inc.isEmpty)= !fC r:=by
  unfold fC;rw[eo];simp
 rw[e1,e2]at this;exact this
theorem JH (h:aM W g t cs) (ss:List ByteArray) (hc:cs=(ss.map Value.string).toArray) (n c:Nat) (hn:n=ss.length):cO 0 W (.slice (some ⟨g,0,none⟩) n c) ss:=by
 subst hc hn;refine⟨_,c,rfl,fun j hj=>⟨g,0,rfl,aV _,h.lt,?_⟩⟩;rw[mr,h.cell];simp[hj]
theorem Fh (L:List (List UInt8)) (s:ByteArray):((L.map fun l=>(⟨l.toArray⟩:ByteArray)).any fun x=>x.data.toList==s.data.toList)=L.contains s.data.toList:=by
 rw[List.any_map,List.contains_eq_any_beq]
 congr 1
 funext l;simp only[Iz];rw[eo,cx,cx];exact eq_comm
set_option maxHeartbeats 8000000 in
theorem DT (w:World) (r:PR) (am ao ai al:Option Addr) (nm cm no co ni ci nl cl:Nat) (h:bA 0 w r (.slice am nm cm) (.slice ao no co) (.slice ai ni ci) (.slice al nl cl)) (hr:ju r):
  Calls prog 29 #[.agg #[.int .i64 r.kind,.int .i64 r.kids,.string r.op,.string r.text,.slice am nm cm,.string r.bU,.string r.step,.string r.off,.string r.tim,.bool r.bool,.bool r.given,.bool r.on,.slice ao no co,.int .i64 r.card,.slice ai ni ci,.bool r.without,.slice al nl cl]] w (aF w (aC r)):=by
 obtain⟨A,hA⟩: ∃A,A=et r (.slice am nm cm) (.slice ao no co) (.slice ai ni ci) (.slice al nl cl):=⟨_,rfl⟩;have HA:=ae hA;have HH:=ae h;have HR:=ae hr;have H1:Hid (∀u∈A.toList,u.oneCell'=true):=ae (by rw[hA];exact uE h);have HFI:Hid (∀W,OB w A W→Calls prog 49 #[.agg A] W (XY w A (sk r))):=ae fun W hs=>Ty (Nv W r A (h.below hs.1) hA H1.out) hs
 have Zz:Hid ((prog.info? 46).map (·.size)=some A.size):=ae (by rw[hA];exact aL);rw[L8 (r:=r) hA];obtain⟨B,hB⟩: ∃B,B=aC r:=⟨_,rfl⟩;rw[←hB];have kG:=ae hB;have HU:Hid (qp r.kind→(bits BinOp.andNot IntKind.i64 (sk r) (Md r.kind)==0)=lP r):=ae (Kz r);generalize sk r=n at HFI HU;clear h hr hA hB;go_enter func29,ntmps29;go_upto_region 2 with(first|(refine jG rfl 46 (.tmp 0) rfl A rfl H1.out ?_;intro WA R2 An SK;have HOA:=ae (show OB w A WA from⟨An,R2⟩);clear R2 An SK)|(refine cG rfl 46 (.tmp 1) rfl w.heap.size rfl HOA.out.2 underlying46 Zz.out ?_)|(go_at_call 49;(with_reducible refine(HFI.out _ HOA.out).mono ?_);rintro e W2 ⟨rfl,hs⟩;have DD:=aI hs.2 HA.out;have ld:=ae hs;clear hs))
 by_cases h9:qp r.kind
 rotate_left
 ·unfold qp at h9;have HV:Hid (B=false):=ae (by
   rw[kG.out];unfold aC;cases hk:du r.kind r.kids with
   |false=>rfl
   |true=>exact absurd (pT hk) (by unfold qp;exact h9))
  have q1:(r.kind==1)=false:=by rw[bN];omega
  have q2:(r.kind==2)=false:=by rw[bN];omega
  have q3:(r.kind==3)=false:=by rw[bN];omega
  have q4:(r.kind==4)=false:=by rw[bN];omega
  have q5:(r.kind==5)=false:=by rw[bN];omega
  have q6:(r.kind==6)=false:=by rw[bN];omega
  have q7:(r.kind==7)=false:=by rw[bN];omega
  have q8:(r.kind==8)=false:=by rw[bN];omega
  have q9:(r.kind==9)=false:=by rw[bN];omega
  clear h9;go_wp2_with fail;go_ret;exact⟨ar (by rw[HV.out]),ld.out.1⟩
 have hU:=HU.out h9;obtain⟨kb,jJ⟩: ∃b,b=du r.kind r.kids:=⟨_,rfl⟩;obtain⟨ub,Ak⟩: ∃b,b=lP r:=⟨_,rfl⟩;rw[←Ak]at hU;clear HU;have hr:=HR.out;have h:=HH.out;unfold qp at h9;rcases h9 with k|k|k|k|k|k|k|k|k
 ·have HV:Hid (B=(kb&&ub&&(ie r.text))):=ae (by rw[kG.out];unfold aC;rw[←jJ,←Ak,k];rfl);have pk:(r.kids==0)=kb:=by rw[jJ,k,eo];simp[du]
  have pu:(bits BinOp.andNot IntKind.i64 n 2==0)=ub:=by rw[←hU,k];rfl
  rw[k]at DD;clear kG Ak jJ hU k;have HC:Hid (∀W,OB w A W→Calls prog 50 #[.string r.text] W (uS w A (ie r.text))):=ae fun W hs=>lL (Nu W _ hr.text) hs
  clear h hr;obtain⟨g0,og⟩: ∃g,g=ie r.text:=⟨_,rfl⟩;simp only[←og]at HC HV;clear og;cases kb
  ·go_wp2_with fail;go_ret;exact⟨ar (by rw[HV.out];rfl),ld.out.1⟩
  cases ub
  ·go_wp2_with fail;go_ret;exact⟨ar (by rw[HV.out];rfl),ld.out.1⟩
  all_goals
   go_wp2_with (first|(go_at_call 50;(with_reducible refine(HC.out _ (by first|exact ld.out)).mono ?_);rintro e W5 ⟨rfl,hs⟩;have K0:=aI hs.2 HA.out;have la:=ae hs;clear hs))
   all_goals
    go_ret;exact⟨ar (by rw[HV.out];try first|rfl|(simp)),by first|exact la.out.1|exact ld.out.1⟩
 ·have HV:Hid (B=(kb&&ub&&(valid r.text.data.toList))):=ae (by rw[kG.out];unfold aC;rw[←jJ,←Ak,k];rfl);have pk:(r.kids==0)=kb:=by rw[jJ,k,eo];simp[du]
  have pu:(bits BinOp.andNot IntKind.i64 n 2==0)=ub:=by rw[←hU,k];rfl
  rw[k]at DD;clear kG Ak jJ hU k;have HC:Hid (∀W,OB w A W→Calls prog 51 #[.string r.text] W (uS w A (valid r.text.data.toList))):=ae fun W hs=>lL (j7 r.text W (by have:=hr.text;omega)) hs
  clear h hr;obtain⟨g0,og⟩: ∃g,g=valid r.text.data.toList:=⟨_,rfl⟩;simp only[←og]at HC HV;clear og;cases kb
  ·go_wp2_with fail;go_ret;exact⟨ar (by rw[HV.out];rfl),ld.out.1⟩
  cases ub
  ·go_wp2_with fail;go_ret;exact⟨ar (by rw[HV.out];rfl),ld.out.1⟩
  all_goals
   go_wp2_with (first|(go_at_call 51;(with_reducible refine(HC.out _ (by first|exact ld.out)).mono ?_);rintro e W5 ⟨rfl,hs⟩;have K0:=aI hs.2 HA.out;have la:=ae hs;clear hs))
   all_goals
    go_ret;exact⟨ar (by rw[HV.out];try first|rfl|(simp)),by first|exact la.out.1|exact ld.out.1⟩
 ·have HV:Hid (B=(kb&&ub&&((dA r.text||kQ r.text true)&&ix r.off r.tim&&r.ms.all cL))):=ae (by rw[kG.out];unfold aC;rw[←jJ,←Ak,k];rfl);have pk:(r.kids==0)=kb:=by rw[jJ,k,eo];simp[du]
  have pu:(bits BinOp.andNot IntKind.i64 n 38==0)=ub:=by rw[←hU,k];rfl
  rw[k]at DD;clear kG Ak jJ hU k;have HT:Hid (∀W,OB w A W→Calls prog 52 #[.string r.text] W (XY w A (fy r.text:Nat))):=ae fun W hs=>Ty (oU W _ hr.text) hs
  have HW:Hid (∀W,OB w A W→Calls prog 53 #[.string r.text] W (uS w A (word r.text.data.toList))):=ae fun W hs=>lL (zw W _ hr.text) hs
  have HM:Hid (∀W,OB w A W→Calls prog 54 #[.slice am nm cm] W (uS w A (r.ms.all cL))):=ae fun W hs=>lL (G7 (h.1.below hs.1) hr.msn hr.ms) hs
  have HE:Hid (∀W,OB w A W→Calls prog 55 #[.agg #[.string r.off,.string r.tim]] W (uS w A (ix r.off r.tim))):=ae fun W hs=>lL (JG W _ _ hr.off hr.tim) hs
  clear h hr;obtain⟨nb,uQ⟩: ∃g,g=(dA r.text||kQ r.text true):=⟨_,rfl⟩;obtain⟨g1,qf⟩: ∃g,g=ix r.off r.tim:=⟨_,rfl⟩;obtain⟨g2,uU⟩: ∃g,g=r.ms.all cL:=⟨_,rfl⟩;simp only[←qf,←uU]at HE HM;rw[←uQ,←qf,←uU]at HV;clear qf uU;have NT:Hid (nb=(decide (r.text.toList=[])||((((fy r.text:Nat):Int)==1)||(((fy r.text:Nat):Int)==2))&& !word r.text.data.toList)):=ae (by
   rw[uQ,jf];unfold kQ
   congr 2
   rw[eo];simp;omega)
  clear uQ;generalize word r.text.data.toList=gw at HW NT;generalize fy r.text=tk at HT NT;go_upto_region 9 with(go_at_call 52;(with_reducible refine(HT.out _ ld.out).mono ?_);rintro e W5 ⟨rfl,hs⟩;have K0:=aI hs.2 HA.out;have la:=ae hs;clear hs)
  go_cut [5]from 47 to 63 (fun t5 wx=>t5= .bool nb∧Hid (OB w A wx))
  case first=>
   have ht:(((tk:Nat):Int)==1)=true∨((((tk:Nat):Int)==1)=false∧(((tk:Nat):Int)==2)=true)∨((((tk:Nat):Int)==1)=false∧(((tk:Nat):Int)==2)=false):=by
    cases ((tk:Nat):Int)==1<;>cases ((tk:Nat):Int)==2<;>simp
   rcases Ma r.text with⟨u1,u2⟩|⟨u1,u2⟩<;>rcases ht with t1|⟨t1,t2⟩|⟨t1,t2⟩<;>cases gw
   all_goals
    go_wp2_with (go_at_call 53;(with_reducible refine(HW.out _ la.out).mono ?_);rintro e W6 ⟨rfl,hs⟩;have sd:=ae hs;clear hs);go_meet;exact⟨by rw[NT.out];simp[u1,fU, *],by first|exact sd|exact la⟩
  case rest=>
   obtain⟨rfl,Ly⟩:=hcut;have DE:=aI Ly.out.2 HA.out;have R3:=ae Ly.out;clear DD K0 Ly;cases kb
   ·go_wp2_with fail;go_ret;exact⟨ar (by rw[HV.out];rfl),R3.out.1⟩
   cases ub
   ·go_wp2_with fail;go_ret;exact⟨ar (by rw[HV.out];rfl),R3.out.1⟩
   cases nb
   ·go_wp2_with fail;go_ret;exact⟨ar (by rw[HV.out];rfl),R3.out.1⟩
   cases g2
   all_goals
    go_wp2_with (first|(go_at_call 54;(with_reducible refine(HM.out _ R3.out).mono ?_);rintro e W7 ⟨rfl,hs⟩;have K2:=aI hs.2 HA.out;have lD:=ae hs;clear hs)|(go_at_call 55;(with_reducible refine(HE.out _ lD.out).mono ?_);rintro e W8 ⟨rfl,hs⟩;have qL:=ae hs;clear hs));go_ret;exact⟨ar (by rw[HV.out];simp),by first|exact qL.out.1|exact lD.out.1⟩
 ·have HV:Hid (B=(kb&&ub&&(fz r.bU))):=ae (by rw[kG.out];unfold aC;rw[←jJ,←Ak,k];rfl);have pk:(r.kids==1)=kb:=by rw[jJ,k,eo];simp[du]
  have pu:(bits BinOp.andNot IntKind.i64 n 8==0)=ub:=by rw[←hU,k];rfl
  rw[k]at DD;clear kG Ak jJ hU k;have HC:Hid (∀W,OB w A W→Calls prog 56 #[.string r.bU] W (uS w A (fz r.bU))):=ae fun W hs=>lL (lU W _ hr.bU) hs
  clear h hr;obtain⟨g0,og⟩: ∃g,g=fz r.bU:=⟨_,rfl⟩;simp only[←og]at HC HV;clear og;cases kb
  ·go_wp2_with fail;go_ret;exact⟨ar (by rw[HV.out];rfl),ld.out.1⟩
  cases ub
  ·go_wp2_with fail;go_ret;exact⟨ar (by rw[HV.out];rfl),ld.out.1⟩
  all_goals
   go_wp2_with (first|(go_at_call 56;(with_reducible refine(HC.out _ (by first|exact ld.out)).mono ?_);rintro e W5 ⟨rfl,hs⟩;have K0:=aI hs.2 HA.out;have la:=ae hs;clear hs))
   all_goals
    go_ret;exact⟨ar (by rw[HV.out];try first|rfl|(simp)),by first|exact la.out.1|exact ld.out.1⟩
 ·have HV:Hid (B=(kb&&ub&&(fz r.bU&&(dA r.step||fz r.step)&&ix r.off r.tim))):=ae (by rw[kG.out];unfold aC;rw[←jJ,←Ak,k];rfl);have pk:(r.kids==1)=kb:=by rw[jJ,k,eo];simp[du]
  have pu:(bits BinOp.andNot IntKind.i64 n 56==0)=ub:=by rw[←hU,k];rfl
  rw[k]at DD;clear kG Ak jJ hU k;have HC:Hid (∀W,OB w A W→Calls prog 56 #[.string r.bU] W (uS w A (fz r.bU))):=ae fun W hs=>lL (lU W _ hr.bU) hs
  have HD:Hid (∀W,OB w A W→Calls prog 56 #[.string r.step] W (uS w A (fz r.step))):=ae fun W hs=>lL (lU W _ hr.step) hs
  have HE:Hid (∀W,OB w A W→Calls prog 55 #[.agg #[.string r.off,.string r.tim]] W (uS w A (ix r.off r.tim))):=ae fun W hs=>lL (JG W _ _ hr.off hr.tim) hs
  clear h hr;obtain⟨g0,og⟩: ∃g,g=fz r.bU:=⟨_,rfl⟩;obtain⟨g1,qf⟩: ∃g,g=fz r.step:=⟨_,rfl⟩;obtain⟨g2,uU⟩: ∃g,g=ix r.off r.tim:=⟨_,rfl⟩;simp only[←og,←qf,←uU]at HC HD HE HV;clear og qf uU;cases kb
  ·go_wp2_with fail;go_ret;exact⟨ar (by rw[HV.out];rfl),ld.out.1⟩
  cases ub
  ·go_wp2_with fail;go_ret;exact⟨ar (by rw[HV.out];rfl),ld.out.1⟩
  have zG:Hid (dA r.step=decide (r.step.toList=[])):=ae (jf _);rcases Ma r.step with⟨u1,u2⟩|⟨u1,u2⟩<;>cases g0<;>cases g1
  all_goals
   go_wp2_with (first|(go_at_call 56;(with_reducible refine(HC.out _ (by first|exact ld.out)).mono ?_);rintro e W5 ⟨rfl,hs⟩;have K0:=aI hs.2 HA.out;have la:=ae hs;clear hs)|(go_at_call 56;(with_reducible refine(HD.out _ (by first|exact la.out|exact ld.out)).mono ?_);rintro e W6 ⟨rfl,hs⟩;have K1:=aI hs.2 HA.out;have sd:=ae hs;clear hs)|(go_at_call 55;(with_reducible refine(HE.out _ (by first|exact sd.out|exact la.out|exact ld.out)).mono ?_);rintro e W7 ⟨rfl,hs⟩;have K2:=aI hs.2 HA.out;have lD:=ae hs;clear hs))
   all_goals
    go_ret;exact⟨ar (by rw[HV.out];try first|rfl|(rw[zG.out];simp[u1,fU])),by first|exact lD.out.1|exact sd.out.1|exact la.out.1|exact ld.out.1⟩
 ·have HV:Hid (B=(kb&&ub&&(mV [43] r.op||mV [45] r.op))):=ae (by rw[kG.out];unfold aC;rw[←jJ,←Ak,k];rfl);have pk:(r.kids==1)=kb:=by rw[jJ,k,eo];simp[du]
  have pu:(bits BinOp.andNot IntKind.i64 n 1==0)=ub:=by rw[←hU,k];rfl
  rw[k]at DD;clear kG Ak jJ hU k;clear h hr;cases kb
  ·go_wp2_with fail;go_ret;exact⟨ar (by rw[HV.out];rfl),ld.out.1⟩
  cases ub
  ·go_wp2_with fail;go_ret;exact⟨ar (by rw[HV.out];rfl),ld.out.1⟩
  have zG:Hid (mV [43] r.op=(r.op.toList==[43])):=ae (by rw[bY];rfl);have R1:Hid (mV [45] r.op=(r.op.toList==[45])):=ae (by rw[bY];rfl)
  all_goals
   go_wp2_with (first|fail)
   all_goals
    go_ret;exact⟨ar (by rw[HV.out];try first|rfl|(rw[zG.out,R1.out];try simp_all)),by first|exact ld.out.1⟩
 ·have HV:Hid (B=(kb&&ub&&(mD.contains r.op.data.toList&&iP r.given r.on r.mls r.card r.inc))):=ae (by rw[kG.out];unfold aC;rw[←jJ,←Ak,k];rfl);have pk:(r.kids==2)=kb:=by rw[jJ,k,eo];simp[du]
  have pu:(bits BinOp.andNot IntKind.i64 n 193==0)=ub:=by rw[←hU,k];rfl
  rw[k]at DD;clear kG Ak jJ hU k;have HD:Hid (∀W,OB w A W→Calls prog 58 #[.agg #[.bool r.given,.bool r.on,.slice ao no co,.int .i64 r.card,.slice ai ni ci]] W (uS w A (iP r.given r.on r.mls r.card r.inc))):=ae fun W hs=>lL (G8 r.given r.on r.card (h.2.1.below hs.1) (h.2.2.1.below hs.1) hr.abl hr.abm hr.mls hr.inc) hs
  have HO:Hid (∀W g,OB w A W→cO 0 W (.slice (some ⟨g,0,none⟩) 15 15) (mD.map fun l=>(⟨l.toArray⟩:ByteArray))→Calls prog 57 #[.string r.op,.slice (some ⟨g,0,none⟩) 15 15] W (uS w A (mD.contains r.op.data.toList))):=ae fun W g hs hw=>by rw[←Fh];exact XX (Fg hw (by decide)) hs
  clear h hr;obtain⟨g0,og⟩: ∃g,g=mD.contains r.op.data.toList:=⟨_,rfl⟩;obtain⟨g1,qf⟩: ∃g,g=iP r.given r.on r.mls r.card r.inc:=⟨_,rfl⟩;simp only[←og,←qf]at HO HD HV;clear og qf;go_upto_region 19 with(fail)
  generalize SN:World.alloc _ _=W3;have Ly:OB w A W3:=by subst SN;exact ld.out.below ((aU _ _).alloc (aS _) _)
  have hws:cO 0 W3 (.slice (some ⟨W2.heap.size,0,none⟩) 15 15) (mD.map fun l=>(⟨l.toArray⟩:ByteArray)):=JH (by subst SN;exact aM.new _ _ _) _ rfl _ _ rfl;have R3:=ae Ly;have HWS:=ae hws;have DE:=aI Ly.2 HA.out;clear Ly hws SN DD;cases kb
  ·go_wp2_with fail;go_ret;exact⟨ar (by rw[HV.out];rfl),R3.out.1⟩
  cases ub
  ·go_wp2_with fail;go_ret;exact⟨ar (by rw[HV.out];rfl),R3.out.1⟩
  cases g0
  all_goals
   go_wp2_with (first|(go_at_call 57;(with_reducible refine(HO.out _ _ R3.out HWS.out).mono ?_);rintro e W5 ⟨rfl,hs⟩;have K0:=aI hs.2 HA.out;have la:=ae hs;clear hs)|(go_at_call 58;(with_reducible refine(HD.out _ la.out).mono ?_);rintro e W6 ⟨rfl,hs⟩;have sd:=ae hs;clear hs));go_ret;exact⟨ar (by rw[HV.out];simp),by first|exact sd.out.1|exact la.out.1⟩
 ·have HV:Hid (B=(kb&&ub&&(kQ r.op false))):=ae (by rw[kG.out];unfold aC;rw[←jJ,←Ak,k];rfl);have pk:(0≤r.kids)=(kb=true):=by rw[jJ,k];simp[du]
  have pu:(bits BinOp.andNot IntKind.i64 n 1==0)=ub:=by rw[←hU,k];rfl
  rw[k]at DD;clear kG Ak jJ hU k;have HT:Hid (∀W,OB w A W→Calls prog 52 #[.string r.op] W (XY w A (fy r.op:Nat))):=ae fun W hs=>Ty (oU W _ hr.op) hs
  have HW:Hid (∀W,OB w A W→Calls prog 53 #[.string r.op] W (uS w A (word r.op.data.toList))):=ae fun W hs=>lL (zw W _ hr.op) hs
  have NT:Hid (kQ r.op false=((((fy r.op:Nat):Int)==1)&& !word r.op.data.toList)):=ae (by
   unfold kQ
   congr 1
   rw[eo];simp;omega)
  clear h hr;rw[NT.out]at HV;clear NT;generalize word r.op.data.toList=gw at HW HV;generalize fy r.op=tk at HT HV;cases kb
  ·have pk2:(0≤r.kids)=False:=pk.trans (by simp);clear pk;go_wp2_with fail;go_ret;exact⟨ar (by rw[HV.out];rfl),ld.out.1⟩
  have pk2:(0≤r.kids)=True:=pk.trans (by simp);clear pk;cases ub
  ·go_wp2_with fail;go_ret;exact⟨ar (by rw[HV.out];rfl),ld.out.1⟩
  rcases Ir (((tk:Nat):Int)==1)with t1|t1
  all_goals
   go_wp2_with (first|(go_at_call 52;(with_reducible refine(HT.out _ ld.out).mono ?_);rintro e W5 ⟨rfl,hs⟩;have K0:=aI hs.2 HA.out;have la:=ae hs;clear hs)|(go_at_call 53;(with_reducible refine(HW.out _ la.out).mono ?_);rintro e W6 ⟨rfl,hs⟩;have sd:=ae hs;clear hs));go_ret;exact⟨ar (by rw[HV.out,t1];simp),by first|exact sd.out.1|exact la.out.1⟩
 ·have HV:Hid (B=(kb&&ub&&(mE.contains r.op.data.toList&&bH r.labels))):=ae (by rw[kG.out];unfold aC;rw[←jJ,←Ak,k];rfl);have pk:((r.kids==1)=false∧(r.kids==2)=false∧kb=false)∨((r.kids==1)=false∧(r.kids==2)=true∧kb=true)∨((r.kids==1)=true∧kb=true):=by
   have h1:kb=((r.kids==1)||(r.kids==2)):=by rw[jJ,k,eo];simp[du]
   rw[h1];generalize (r.kids==1)=x;generalize (r.kids==2)=y;cases x<;>cases y<;>simp
  have pu:(bits BinOp.andNot IntKind.i64 n 769==0)=ub:=by rw[←hU,k];rfl
  rw[k]at DD;clear kG Ak jJ hU k;have HD:Hid (∀W,OB w A W→Calls prog 59 #[.slice al nl cl] W (uS w A (bH r.labels))):=ae fun W hs=>lL (uF (h.2.2.2.below hs.1) hr.abn hr.lab) hs
  have HO:Hid (∀W g,OB w A W→cO 0 W (.slice (some ⟨g,0,none⟩) 12 12) (mE.map fun l=>(⟨l.toArray⟩:ByteArray))→Calls prog 57 #[.string r.op,.slice (some ⟨g,0,none⟩) 12 12] W (uS w A (mE.contains r.op.data.toList))):=ae fun W g hs hw=>by rw[←Fh];exact XX (Fg hw (by decide)) hs
  clear h hr;obtain⟨g0,og⟩: ∃g,g=mE.contains r.op.data.toList:=⟨_,rfl⟩;obtain⟨g1,qf⟩: ∃g,g=bH r.labels:=⟨_,rfl⟩;simp only[←og,←qf]at HO HD HV;clear og qf;go_upto_region 24 with(fail)
  generalize SN:World.alloc _ _=W3;have Ly:OB w A W3:=by subst SN;exact ld.out.below ((aU _ _).alloc (aS _) _)
  have hws:cO 0 W3 (.slice (some ⟨W2.heap.size,0,none⟩) 12 12) (mE.map fun l=>(⟨l.toArray⟩:ByteArray)):=JH (by subst SN;exact aM.new _ _ _) _ rfl _ _ rfl;have R3:=ae Ly;have HWS:=ae hws;have DE:=aI Ly.2 HA.out;clear Ly hws SN DD;rcases pk with⟨k1,k2,rfl⟩|⟨k1,k2,rfl⟩|⟨k1,rfl⟩
  ·go_wp2_with fail;go_ret;exact⟨ar (by rw[HV.out];rfl),R3.out.1⟩
  all_goals
   cases ub
   ·go_wp2_with fail;go_ret;exact⟨ar (by rw[HV.out];rfl),R3.out.1⟩
  all_goals (cases g0)
  all_goals
   go_wp2_with (first|(go_at_call 57;(with_reducible refine(HO.out _ _ R3.out HWS.out).mono ?_);rintro e W5 ⟨rfl,hs⟩;have K0:=aI hs.2 HA.out;have la:=ae hs;clear hs)|(go_at_call 59;(with_reducible refine(HD.out _ la.out).mono ?_);rintro e W6 ⟨rfl,hs⟩;have sd:=ae hs;clear hs));go_ret;exact⟨ar (by rw[HV.out];simp),by first|exact sd.out.1|exact la.out.1⟩
theorem Rh (h:bA b w r m o i l) (hr:ju r):
  Calls prog 29 #[jM r m o i l] w (aF w (aC r)):=by
 have h':=h.lo (aV _);obtain⟨⟨_,_,rfl,_⟩,⟨_,_,rfl,_⟩,⟨_,_,rfl,_⟩,⟨_,_,rfl,_⟩⟩:=h;exact DT w r _ _ _ _ _ _ _ _ _ _ _ _ h' hr
