import Derived.Test.YtcdoilkjmjbgmaaGreatDoorR15
import Derived.Test.YtcdoilkjmjbgmaaGreatDoorR36
import Derived.Test.YtcdoilkjmjbgmaaGreatDoorR25
/- Part of the proof of YtcdoilkjmjbgmaaGreatDoorCardR: TvG TvH. -/
set_option maxRecDepth 100000
set_option maxHeartbeats 4000000
set_option linter.unusedVariables false
set_option linter.unusedSimpArgs false
namespace Go.Proofs.YtcdoilkjmjbgmaaGreatDoor
open Go.RowKit
open Go.Proofs.Tryz
variable {w W:World} {A args cs:Array Value} {n:Int} {b g:Nat} {t:TypeId} {r:PR} {m o i l:Value}
theorem RD: ∀b0 b1 b2 b3 b4 b5 b6 b7 b8 b9:Bool,(bits BinOp.andNot IntKind.i64 (wh b0 b1 b2 b3 b4 b5 b6 b7 b8 b9) 2==0)=(!b0&& !b2&& !b3&& !b4&& !b5&& !b6&& !b7&& !b8&& !b9):=by decide+kernel
theorem VI: ∀b0 b1 b2 b3 b4 b5 b6 b7 b8 b9:Bool,(bits BinOp.andNot IntKind.i64 (wh b0 b1 b2 b3 b4 b5 b6 b7 b8 b9) 38==0)=(!b0&& !b3&& !b4&& !b6&& !b7&& !b8&& !b9):=by decide+kernel
theorem VJ: ∀b0 b1 b2 b3 b4 b5 b6 b7 b8 b9:Bool,(bits BinOp.andNot IntKind.i64 (wh b0 b1 b2 b3 b4 b5 b6 b7 b8 b9) 8==0)=(!b0&& !b1&& !b2&& !b4&& !b5&& !b6&& !b7&& !b8&& !b9):=by decide+kernel
theorem VK: ∀b0 b1 b2 b3 b4 b5 b6 b7 b8 b9:Bool,(bits BinOp.andNot IntKind.i64 (wh b0 b1 b2 b3 b4 b5 b6 b7 b8 b9) 56==0)=(!b0&& !b1&& !b2&& !b6&& !b7&& !b8&& !b9):=by decide+kernel
theorem YW: ∀b0 b1 b2 b3 b4 b5 b6 b7 b8 b9:Bool,(bits BinOp.andNot IntKind.i64 (wh b0 b1 b2 b3 b4 b5 b6 b7 b8 b9) 1==0)=(!b1&& !b2&& !b3&& !b4&& !b5&& !b6&& !b7&& !b8&& !b9):=by decide+kernel
theorem VL: ∀b0 b1 b2 b3 b4 b5 b6 b7 b8 b9:Bool,(bits BinOp.andNot IntKind.i64 (wh b0 b1 b2 b3 b4 b5 b6 b7 b8 b9) 193==0)=(!b1&& !b2&& !b3&& !b4&& !b5&& !b8&& !b9):=by decide+kernel
theorem VM: ∀b0 b1 b2 b3 b4 b5 b6 b7 b8 b9:Bool,(bits BinOp.andNot IntKind.i64 (wh b0 b1 b2 b3 b4 b5 b6 b7 b8 b9) 769==0)=(!b1&& !b2&& !b3&& !b4&& !b5&& !b6&& !b7):=by decide+kernel
def sO (r:PR):Int:=wh (!L9 r) (!rO r) (!Gi r) (!zb r) (!pV r) (!pW r) r.bool (!fI r) r.without (!jJ r)
def Mz (k:Int):Int:=if k=1∨k=2 then 2 else if k=3 then 38 else if k=4 then 8 else if k=5 then 56 else if k=6∨k=8 then 1 else if k=7 then 193 else 769
theorem La (r:PR) (h:qE r.kind):(bits BinOp.andNot IntKind.i64 (sO r) (Mz r.kind)==0)=lY r:=by
 unfold qE at h;unfold lY sO Mz;rcases h with k|k|k|k|k|k|k|k|k<;>rw[k]<;>simp[RD,VI,VJ,VK,YW,VL,VM]
def XV (w:World) (A:Array Value) (n:Int) (e:Ending) (W':World):Prop:=e= .returned (.int .i64 n)∧OB w A W'
theorem TJ {f:FuncId} (h:Calls prog f args W fun e W'=>e= .returned (.int .i64 n)∧Below W.heap.size W W') (hs:OB w A W):Calls prog f args W (XV w A n):=h.mono fun e W' ⟨h1,h2⟩=>⟨h1,hs.below h2⟩
theorem NJ (w:World) (r:PR) (A:Array Value) {m o i l:Value} (h:bw b w r m o i l) (hA:A=dS r m o i l) (h1: ∀u∈A.toList,u.oneCell'=true):
  Calls prog 49 #[.agg A] w fun e w'=>e= .returned (.int .i64 (sO r))∧Below w.heap.size w w':=by
 obtain⟨⟨am,cm,rfl,_⟩,⟨ao,co,rfl,_⟩,⟨ai,ci,rfl,_⟩,⟨al,cl,rfl,_⟩⟩:=h;have hs: ∀x:ByteArray,x.toList.isEmpty= !!dB x:=fun x=>by rw[cq,dB];simp
 have hl: ∀{α:Type} (l:List α),decide (0<l.length)= !l.isEmpty:=fun l=>by cases l<;>simp
 have:=KG w r A am ao ai al _ cm _ co _ ci _ cl hA h1 (!L9 r) (!rO r) (!Gi r) (!zb r) (!pV r) (!jJ r) (!dB r.off) (!dB r.tim) r.given r.on (!r.mls.isEmpty) (r.card != 0) (!r.inc.isEmpty) (hs _) (hs _) (hl _) (hs _) (hs _) (hs _) (hs _) rfl rfl (hl _) rfl (hl _) (hl _);have e1:(!dB r.off|| !dB r.tim)= !pW r:=by unfold pW;rw[Bool.not_and]
 have e2:(r.given||r.on|| !r.mls.isEmpty||(r.card != 0)|| !r.inc.isEmpty)= !fI r:=by
  unfold fI;rw[eH];simp
 rw[e1,e2]at this;exact this
theorem Kb (h:aK W g t cs) (ss:List ByteArray) (hc:cs=(ss.map Value.string).toArray) (n c:Nat) (hn:n=ss.length):cU 0 W (.slice (some ⟨g,0,none⟩) n c) ss:=by
 subst hc hn;refine⟨_,c,rfl,fun j hj=>⟨g,0,rfl,dQ _,h.lt,?_⟩⟩;rw[kP,h.cell];simp[hj]
theorem FF (L:List (List UInt8)) (s:ByteArray):((L.map fun l=>(⟨l.toArray⟩:ByteArray)).any fun x=>x.data.toList==s.data.toList)=L.contains s.data.toList:=by
 rw[List.any_map,List.contains_eq_any_beq]
 congr 1
 funext l;simp only[I4];rw[eH,cC,cC];exact eq_comm
set_option maxHeartbeats 8000000 in
theorem Ee (w:World) (r:PR) (am ao ai al:Option Addr) (nm cm no co ni ci nl cl:Nat) (h:bw 0 w r (.slice am nm cm) (.slice ao no co) (.slice ai ni ci) (.slice al nl cl)) (hr:iZ r):
  Calls prog 29 #[.agg #[.int .i64 r.kind,.int .i64 r.kids,.string r.op,.string r.text,.slice am nm cm,.string r.bV,.string r.step,.string r.off,.string r.tim,.bool r.bool,.bool r.given,.bool r.on,.slice ao no co,.int .i64 r.card,.slice ai ni ci,.bool r.without,.slice al nl cl]] w (aG w (az r)):=by
 obtain⟨A,hA⟩: ∃A,A=dS r (.slice am nm cm) (.slice ao no co) (.slice ai ni ci) (.slice al nl cl):=⟨_,rfl⟩;have HA:=aa hA;have HH:=aa h;have HR:=aa hr;have H1:Hid (∀u∈A.toList,u.oneCell'=true):=aa (by rw[hA];exact u4 h);have HFI:Hid (∀W,OB w A W→Calls prog 49 #[.agg A] W (XV w A (sO r))):=aa fun W hs=>TJ (NJ W r A (h.below hs.1) hA H1.out) hs
 have Wp:Hid ((prog.info? 46).map (·.size)=some A.size):=aa (by rw[hA];exact aQ);rw[My (r:=r) hA];obtain⟨B,hB⟩: ∃B,B=az r:=⟨_,rfl⟩;rw[←hB];have gy:=aa hB;have HU:Hid (qE r.kind→(bits BinOp.andNot IntKind.i64 (sO r) (Mz r.kind)==0)=lY r):=aa (La r);generalize sO r=n at HFI HU;clear h hr hA hB;go_enter func29,ntmps29;go_upto_region 2 with(first|(refine jN rfl 46 (.tmp 0) rfl A rfl H1.out ?_;intro WA Sm F0 SP;have HOA:=aa (show OB w A WA from⟨F0,Sm⟩);clear Sm F0 SP)|(refine dA rfl 46 (.tmp 1) rfl w.heap.size rfl HOA.out.2 underlying46 Wp.out ?_)|(go_at_call 49;(with_reducible refine(HFI.out _ HOA.out).mono ?_);rintro e W2 ⟨rfl,hs⟩;have DD:=aT hs.2 HA.out;have lz:=aa hs;clear hs))
 by_cases h9:qE r.kind
 rotate_left
 ·unfold qE at h9;have HV:Hid (B=false):=aa (by
   rw[gy.out];unfold az;cases hk:du r.kind r.kids with
   |false=>rfl
   |true=>exact absurd (qh hk) (by unfold qE;exact h9))
  have q1:(r.kind==1)=false:=by rw[bN];omega
  have q2:(r.kind==2)=false:=by rw[bN];omega
  have q3:(r.kind==3)=false:=by rw[bN];omega
  have q4:(r.kind==4)=false:=by rw[bN];omega
  have q5:(r.kind==5)=false:=by rw[bN];omega
  have q6:(r.kind==6)=false:=by rw[bN];omega
  have q7:(r.kind==7)=false:=by rw[bN];omega
  have q8:(r.kind==8)=false:=by rw[bN];omega
  have q9:(r.kind==9)=false:=by rw[bN];omega
  clear h9;go_wp2_with fail;go_ret;exact⟨ah (by rw[HV.out]),lz.out.1⟩
 have hU:=HU.out h9;obtain⟨kb,jR⟩: ∃b,b=du r.kind r.kids:=⟨_,rfl⟩;obtain⟨ub,AA⟩: ∃b,b=lY r:=⟨_,rfl⟩;rw[←AA]at hU;clear HU;have hr:=HR.out;have h:=HH.out;unfold qE at h9;rcases h9 with k|k|k|k|k|k|k|k|k
 ·have HV:Hid (B=(kb&&ub&&(iv r.text))):=aa (by rw[gy.out];unfold az;rw[←jR,←AA,k];rfl);have pk:(r.kids==0)=kb:=by rw[jR,k,eH];simp[du]
  have pu:(bits BinOp.andNot IntKind.i64 n 2==0)=ub:=by rw[←hU,k];rfl
  rw[k]at DD;clear gy AA jR hU k;have HC:Hid (∀W,OB w A W→Calls prog 50 #[.string r.text] W (vs w A (iv r.text))):=aa fun W hs=>lU (Nz W _ hr.text) hs
  clear h hr;obtain⟨g0,ou⟩: ∃g,g=iv r.text:=⟨_,rfl⟩;simp only[←ou]at HC HV;clear ou;cases kb
  ·go_wp2_with fail;go_ret;exact⟨ah (by rw[HV.out];rfl),lz.out.1⟩
  cases ub
  ·go_wp2_with fail;go_ret;exact⟨ah (by rw[HV.out];rfl),lz.out.1⟩
  all_goals
   go_wp2_with (first|(go_at_call 50;(with_reducible refine(HC.out _ (by first|exact lz.out)).mono ?_);rintro e W5 ⟨rfl,hs⟩;have K0:=aT hs.2 HA.out;have ly:=aa hs;clear hs))
   all_goals
    go_ret;exact⟨ah (by rw[HV.out];try first|rfl|(simp)),by first|exact ly.out.1|exact lz.out.1⟩
 ·have HV:Hid (B=(kb&&ub&&(valid r.text.data.toList))):=aa (by rw[gy.out];unfold az;rw[←jR,←AA,k];rfl);have pk:(r.kids==0)=kb:=by rw[jR,k,eH];simp[du]
  have pu:(bits BinOp.andNot IntKind.i64 n 2==0)=ub:=by rw[←hU,k];rfl
  rw[k]at DD;clear gy AA jR hU k;have HC:Hid (∀W,OB w A W→Calls prog 51 #[.string r.text] W (vs w A (valid r.text.data.toList))):=aa fun W hs=>lU (kd r.text W (by have:=hr.text;omega)) hs
  clear h hr;obtain⟨g0,ou⟩: ∃g,g=valid r.text.data.toList:=⟨_,rfl⟩;simp only[←ou]at HC HV;clear ou;cases kb
  ·go_wp2_with fail;go_ret;exact⟨ah (by rw[HV.out];rfl),lz.out.1⟩
  cases ub
  ·go_wp2_with fail;go_ret;exact⟨ah (by rw[HV.out];rfl),lz.out.1⟩
  all_goals
   go_wp2_with (first|(go_at_call 51;(with_reducible refine(HC.out _ (by first|exact lz.out)).mono ?_);rintro e W5 ⟨rfl,hs⟩;have K0:=aT hs.2 HA.out;have ly:=aa hs;clear hs))
   all_goals
    go_ret;exact⟨ah (by rw[HV.out];try first|rfl|(simp)),by first|exact ly.out.1|exact lz.out.1⟩
 ·have HV:Hid (B=(kb&&ub&&((dB r.text||ld r.text true)&&iH r.off r.tim&&r.ms.all cP))):=aa (by rw[gy.out];unfold az;rw[←jR,←AA,k];rfl);have pk:(r.kids==0)=kb:=by rw[jR,k,eH];simp[du]
  have pu:(bits BinOp.andNot IntKind.i64 n 38==0)=ub:=by rw[←hU,k];rfl
  rw[k]at DD;clear gy AA jR hU k;have HT:Hid (∀W,OB w A W→Calls prog 52 #[.string r.text] W (XV w A (fB r.text:Nat))):=aa fun W hs=>TJ (o3 W _ hr.text) hs
  have HW:Hid (∀W,OB w A W→Calls prog 53 #[.string r.text] W (vs w A (word r.text.data.toList))):=aa fun W hs=>lU (zO W _ hr.text) hs
  have HM:Hid (∀W,OB w A W→Calls prog 54 #[.slice am nm cm] W (vs w A (r.ms.all cP))):=aa fun W hs=>lU (Hr (h.1.below hs.1) hr.msn hr.ms) hs
  have HE:Hid (∀W,OB w A W→Calls prog 55 #[.agg #[.string r.off,.string r.tim]] W (vs w A (iH r.off r.tim))):=aa fun W hs=>lU (Ka W _ _ hr.off hr.tim) hs
  clear h hr;obtain⟨nb,yC⟩: ∃g,g=(dB r.text||ld r.text true):=⟨_,rfl⟩;obtain⟨g1,nf⟩: ∃g,g=iH r.off r.tim:=⟨_,rfl⟩;obtain⟨g2,qZ⟩: ∃g,g=r.ms.all cP:=⟨_,rfl⟩;simp only[←nf,←qZ]at HE HM;rw[←yC,←nf,←qZ]at HV;clear nf qZ;have Oi:Hid (nb=(decide (r.text.toList=[])||((((fB r.text:Nat):Int)==1)||(((fB r.text:Nat):Int)==2))&& !word r.text.data.toList)):=aa (by
   rw[yC,jq];unfold ld
   congr 2
   rw[eH];simp;omega)
  clear yC;generalize word r.text.data.toList=gw at HW Oi;generalize fB r.text=tk at HT Oi;go_upto_region 9 with(go_at_call 52;(with_reducible refine(HT.out _ lz.out).mono ?_);rintro e W5 ⟨rfl,hs⟩;have K0:=aT hs.2 HA.out;have ly:=aa hs;clear hs)
  go_cut [5]from 47 to 63 (fun t5 wx=>t5= .bool nb∧Hid (OB w A wx))
  case first=>
   have ht:(((tk:Nat):Int)==1)=true∨((((tk:Nat):Int)==1)=false∧(((tk:Nat):Int)==2)=true)∨((((tk:Nat):Int)==1)=false∧(((tk:Nat):Int)==2)=false):=by
    cases ((tk:Nat):Int)==1<;>cases ((tk:Nat):Int)==2<;>simp
   rcases Mv r.text with⟨u1,u2⟩|⟨u1,u2⟩<;>rcases ht with t1|⟨t1,t2⟩|⟨t1,t2⟩<;>cases gw
   all_goals
    go_wp2_with (go_at_call 53;(with_reducible refine(HW.out _ ly.out).mono ?_);rintro e W6 ⟨rfl,hs⟩;have qW:=aa hs;clear hs);go_meet;exact⟨by rw[Oi.out];simp[u1,gj, *],by first|exact qW|exact ly⟩
  case rest=>
   obtain⟨rfl,LW⟩:=hcut;have DE:=aT LW.out.2 HA.out;have Sr:=aa LW.out;clear DD K0 LW;cases kb
   ·go_wp2_with fail;go_ret;exact⟨ah (by rw[HV.out];rfl),Sr.out.1⟩
   cases ub
   ·go_wp2_with fail;go_ret;exact⟨ah (by rw[HV.out];rfl),Sr.out.1⟩
   cases nb
   ·go_wp2_with fail;go_ret;exact⟨ah (by rw[HV.out];rfl),Sr.out.1⟩
   cases g2
   all_goals
    go_wp2_with (first|(go_at_call 54;(with_reducible refine(HM.out _ Sr.out).mono ?_);rintro e W7 ⟨rfl,hs⟩;have K2:=aT hs.2 HA.out;have kt:=aa hs;clear hs)|(go_at_call 55;(with_reducible refine(HE.out _ kt.out).mono ?_);rintro e W8 ⟨rfl,hs⟩;have pg:=aa hs;clear hs));go_ret;exact⟨ah (by rw[HV.out];simp),by first|exact pg.out.1|exact kt.out.1⟩
 ·have HV:Hid (B=(kb&&ub&&(fC r.bV))):=aa (by rw[gy.out];unfold az;rw[←jR,←AA,k];rfl);have pk:(r.kids==1)=kb:=by rw[jR,k,eH];simp[du]
  have pu:(bits BinOp.andNot IntKind.i64 n 8==0)=ub:=by rw[←hU,k];rfl
  rw[k]at DD;clear gy AA jR hU k;have HC:Hid (∀W,OB w A W→Calls prog 56 #[.string r.bV] W (vs w A (fC r.bV))):=aa fun W hs=>lU (mc W _ hr.bV) hs
  clear h hr;obtain⟨g0,ou⟩: ∃g,g=fC r.bV:=⟨_,rfl⟩;simp only[←ou]at HC HV;clear ou;cases kb
  ·go_wp2_with fail;go_ret;exact⟨ah (by rw[HV.out];rfl),lz.out.1⟩
  cases ub
  ·go_wp2_with fail;go_ret;exact⟨ah (by rw[HV.out];rfl),lz.out.1⟩
  all_goals
   go_wp2_with (first|(go_at_call 56;(with_reducible refine(HC.out _ (by first|exact lz.out)).mono ?_);rintro e W5 ⟨rfl,hs⟩;have K0:=aT hs.2 HA.out;have ly:=aa hs;clear hs))
   all_goals
    go_ret;exact⟨ah (by rw[HV.out];try first|rfl|(simp)),by first|exact ly.out.1|exact lz.out.1⟩
 ·have HV:Hid (B=(kb&&ub&&(fC r.bV&&(dB r.step||fC r.step)&&iH r.off r.tim))):=aa (by rw[gy.out];unfold az;rw[←jR,←AA,k];rfl);have pk:(r.kids==1)=kb:=by rw[jR,k,eH];simp[du]
  have pu:(bits BinOp.andNot IntKind.i64 n 56==0)=ub:=by rw[←hU,k];rfl
  rw[k]at DD;clear gy AA jR hU k;have HC:Hid (∀W,OB w A W→Calls prog 56 #[.string r.bV] W (vs w A (fC r.bV))):=aa fun W hs=>lU (mc W _ hr.bV) hs
  have HD:Hid (∀W,OB w A W→Calls prog 56 #[.string r.step] W (vs w A (fC r.step))):=aa fun W hs=>lU (mc W _ hr.step) hs
  have HE:Hid (∀W,OB w A W→Calls prog 55 #[.agg #[.string r.off,.string r.tim]] W (vs w A (iH r.off r.tim))):=aa fun W hs=>lU (Ka W _ _ hr.off hr.tim) hs
  clear h hr;obtain⟨g0,ou⟩: ∃g,g=fC r.bV:=⟨_,rfl⟩;obtain⟨g1,nf⟩: ∃g,g=fC r.step:=⟨_,rfl⟩;obtain⟨g2,qZ⟩: ∃g,g=iH r.off r.tim:=⟨_,rfl⟩;simp only[←ou,←nf,←qZ]at HC HD HE HV;clear ou nf qZ;cases kb
  ·go_wp2_with fail;go_ret;exact⟨ah (by rw[HV.out];rfl),lz.out.1⟩
  cases ub
  ·go_wp2_with fail;go_ret;exact⟨ah (by rw[HV.out];rfl),lz.out.1⟩
  have zV:Hid (dB r.step=decide (r.step.toList=[])):=aa (jq _);rcases Mv r.step with⟨u1,u2⟩|⟨u1,u2⟩<;>cases g0<;>cases g1
  all_goals
   go_wp2_with (first|(go_at_call 56;(with_reducible refine(HC.out _ (by first|exact lz.out)).mono ?_);rintro e W5 ⟨rfl,hs⟩;have K0:=aT hs.2 HA.out;have ly:=aa hs;clear hs)|(go_at_call 56;(with_reducible refine(HD.out _ (by first|exact ly.out|exact lz.out)).mono ?_);rintro e W6 ⟨rfl,hs⟩;have K1:=aT hs.2 HA.out;have qW:=aa hs;clear hs)|(go_at_call 55;(with_reducible refine(HE.out _ (by first|exact qW.out|exact ly.out|exact lz.out)).mono ?_);rintro e W7 ⟨rfl,hs⟩;have K2:=aT hs.2 HA.out;have kt:=aa hs;clear hs))
   all_goals
    go_ret;exact⟨ah (by rw[HV.out];try first|rfl|(rw[zV.out];simp[u1,gj])),by first|exact kt.out.1|exact qW.out.1|exact ly.out.1|exact lz.out.1⟩
 ·have HV:Hid (B=(kb&&ub&&(mZ [43] r.op||mZ [45] r.op))):=aa (by rw[gy.out];unfold az;rw[←jR,←AA,k];rfl);have pk:(r.kids==1)=kb:=by rw[jR,k,eH];simp[du]
  have pu:(bits BinOp.andNot IntKind.i64 n 1==0)=ub:=by rw[←hU,k];rfl
  rw[k]at DD;clear gy AA jR hU k;clear h hr;cases kb
  ·go_wp2_with fail;go_ret;exact⟨ah (by rw[HV.out];rfl),lz.out.1⟩
  cases ub
  ·go_wp2_with fail;go_ret;exact⟨ah (by rw[HV.out];rfl),lz.out.1⟩
  have zV:Hid (mZ [43] r.op=(r.op.toList==[43])):=aa (by rw[cq];rfl);have Sq:Hid (mZ [45] r.op=(r.op.toList==[45])):=aa (by rw[cq];rfl)
  all_goals
   go_wp2_with (first|fail)
   all_goals
    go_ret;exact⟨ah (by rw[HV.out];try first|rfl|(rw[zV.out,Sq.out];try simp_all)),by first|exact lz.out.1⟩
 ·have HV:Hid (B=(kb&&ub&&(mH.contains r.op.data.toList&&iY r.given r.on r.mls r.card r.inc))):=aa (by rw[gy.out];unfold az;rw[←jR,←AA,k];rfl);have pk:(r.kids==2)=kb:=by rw[jR,k,eH];simp[du]
  have pu:(bits BinOp.andNot IntKind.i64 n 193==0)=ub:=by rw[←hU,k];rfl
  rw[k]at DD;clear gy AA jR hU k;have HD:Hid (∀W,OB w A W→Calls prog 58 #[.agg #[.bool r.given,.bool r.on,.slice ao no co,.int .i64 r.card,.slice ai ni ci]] W (vs w A (iY r.given r.on r.mls r.card r.inc))):=aa fun W hs=>lU (Ht r.given r.on r.card (h.2.1.below hs.1) (h.2.2.1.below hs.1) hr.aba hr.abb hr.mls hr.inc) hs
  have HO:Hid (∀W g,OB w A W→cU 0 W (.slice (some ⟨g,0,none⟩) 15 15) (mH.map fun l=>(⟨l.toArray⟩:ByteArray))→Calls prog 57 #[.string r.op,.slice (some ⟨g,0,none⟩) 15 15] W (vs w A (mH.contains r.op.data.toList))):=aa fun W g hs hw=>by rw[←FF];exact XU (FE hw (by decide)) hs
  clear h hr;obtain⟨g0,ou⟩: ∃g,g=mH.contains r.op.data.toList:=⟨_,rfl⟩;obtain⟨g1,nf⟩: ∃g,g=iY r.given r.on r.mls r.card r.inc:=⟨_,rfl⟩;simp only[←ou,←nf]at HO HD HV;clear ou nf;go_upto_region 19 with(fail)
  generalize SW:World.alloc _ _=W3;have LW:OB w A W3:=by subst SW;exact lz.out.below ((aV _ _).alloc (aS _) _)
  have hws:cU 0 W3 (.slice (some ⟨W2.heap.size,0,none⟩) 15 15) (mH.map fun l=>(⟨l.toArray⟩:ByteArray)):=Kb (by subst SW;exact aK.new _ _ _) _ rfl _ _ rfl;have Sr:=aa LW;have HWS:=aa hws;have DE:=aT LW.2 HA.out;clear LW hws SW DD;cases kb
  ·go_wp2_with fail;go_ret;exact⟨ah (by rw[HV.out];rfl),Sr.out.1⟩
  cases ub
  ·go_wp2_with fail;go_ret;exact⟨ah (by rw[HV.out];rfl),Sr.out.1⟩
  cases g0
  all_goals
   go_wp2_with (first|(go_at_call 57;(with_reducible refine(HO.out _ _ Sr.out HWS.out).mono ?_);rintro e W5 ⟨rfl,hs⟩;have K0:=aT hs.2 HA.out;have ly:=aa hs;clear hs)|(go_at_call 58;(with_reducible refine(HD.out _ ly.out).mono ?_);rintro e W6 ⟨rfl,hs⟩;have qW:=aa hs;clear hs));go_ret;exact⟨ah (by rw[HV.out];simp),by first|exact qW.out.1|exact ly.out.1⟩
 ·have HV:Hid (B=(kb&&ub&&(ld r.op false))):=aa (by rw[gy.out];unfold az;rw[←jR,←AA,k];rfl);have pk:(0≤r.kids)=(kb=true):=by rw[jR,k];simp[du]
  have pu:(bits BinOp.andNot IntKind.i64 n 1==0)=ub:=by rw[←hU,k];rfl
  rw[k]at DD;clear gy AA jR hU k;have HT:Hid (∀W,OB w A W→Calls prog 52 #[.string r.op] W (XV w A (fB r.op:Nat))):=aa fun W hs=>TJ (o3 W _ hr.op) hs
  have HW:Hid (∀W,OB w A W→Calls prog 53 #[.string r.op] W (vs w A (word r.op.data.toList))):=aa fun W hs=>lU (zO W _ hr.op) hs
  have Oi:Hid (ld r.op false=((((fB r.op:Nat):Int)==1)&& !word r.op.data.toList)):=aa (by
   unfold ld
   congr 1
   rw[eH];simp;omega)
  clear h hr;rw[Oi.out]at HV;clear Oi;generalize word r.op.data.toList=gw at HW HV;generalize fB r.op=tk at HT HV;cases kb
  ·have pk2:(0≤r.kids)=False:=pk.trans (by simp);clear pk;go_wp2_with fail;go_ret;exact⟨ah (by rw[HV.out];rfl),lz.out.1⟩
  have pk2:(0≤r.kids)=True:=pk.trans (by simp);clear pk;cases ub
  ·go_wp2_with fail;go_ret;exact⟨ah (by rw[HV.out];rfl),lz.out.1⟩
  rcases IW (((tk:Nat):Int)==1)with t1|t1
  all_goals
   go_wp2_with (first|(go_at_call 52;(with_reducible refine(HT.out _ lz.out).mono ?_);rintro e W5 ⟨rfl,hs⟩;have K0:=aT hs.2 HA.out;have ly:=aa hs;clear hs)|(go_at_call 53;(with_reducible refine(HW.out _ ly.out).mono ?_);rintro e W6 ⟨rfl,hs⟩;have qW:=aa hs;clear hs));go_ret;exact⟨ah (by rw[HV.out,t1];simp),by first|exact qW.out.1|exact ly.out.1⟩
 ·have HV:Hid (B=(kb&&ub&&(mI.contains r.op.data.toList&&bJ r.labels))):=aa (by rw[gy.out];unfold az;rw[←jR,←AA,k];rfl);have pk:((r.kids==1)=false∧(r.kids==2)=false∧kb=false)∨((r.kids==1)=false∧(r.kids==2)=true∧kb=true)∨((r.kids==1)=true∧kb=true):=by
   have h1:kb=((r.kids==1)||(r.kids==2)):=by rw[jR,k,eH];simp[du]
   rw[h1];generalize (r.kids==1)=x;generalize (r.kids==2)=y;cases x<;>cases y<;>simp
  have pu:(bits BinOp.andNot IntKind.i64 n 769==0)=ub:=by rw[←hU,k];rfl
  rw[k]at DD;clear gy AA jR hU k;have HD:Hid (∀W,OB w A W→Calls prog 59 #[.slice al nl cl] W (vs w A (bJ r.labels))):=aa fun W hs=>lU (uZ (h.2.2.2.below hs.1) hr.abc hr.lab) hs
  have HO:Hid (∀W g,OB w A W→cU 0 W (.slice (some ⟨g,0,none⟩) 12 12) (mI.map fun l=>(⟨l.toArray⟩:ByteArray))→Calls prog 57 #[.string r.op,.slice (some ⟨g,0,none⟩) 12 12] W (vs w A (mI.contains r.op.data.toList))):=aa fun W g hs hw=>by rw[←FF];exact XU (FE hw (by decide)) hs
  clear h hr;obtain⟨g0,ou⟩: ∃g,g=mI.contains r.op.data.toList:=⟨_,rfl⟩;obtain⟨g1,nf⟩: ∃g,g=bJ r.labels:=⟨_,rfl⟩;simp only[←ou,←nf]at HO HD HV;clear ou nf;go_upto_region 24 with(fail)
  generalize SW:World.alloc _ _=W3;have LW:OB w A W3:=by subst SW;exact lz.out.below ((aV _ _).alloc (aS _) _)
  have hws:cU 0 W3 (.slice (some ⟨W2.heap.size,0,none⟩) 12 12) (mI.map fun l=>(⟨l.toArray⟩:ByteArray)):=Kb (by subst SW;exact aK.new _ _ _) _ rfl _ _ rfl;have Sr:=aa LW;have HWS:=aa hws;have DE:=aT LW.2 HA.out;clear LW hws SW DD;rcases pk with⟨k1,k2,rfl⟩|⟨k1,k2,rfl⟩|⟨k1,rfl⟩
  ·go_wp2_with fail;go_ret;exact⟨ah (by rw[HV.out];rfl),Sr.out.1⟩
  all_goals
   cases ub
   ·go_wp2_with fail;go_ret;exact⟨ah (by rw[HV.out];rfl),Sr.out.1⟩
  all_goals (cases g0)
  all_goals
   go_wp2_with (first|(go_at_call 57;(with_reducible refine(HO.out _ _ Sr.out HWS.out).mono ?_);rintro e W5 ⟨rfl,hs⟩;have K0:=aT hs.2 HA.out;have ly:=aa hs;clear hs)|(go_at_call 59;(with_reducible refine(HD.out _ ly.out).mono ?_);rintro e W6 ⟨rfl,hs⟩;have qW:=aa hs;clear hs));go_ret;exact⟨ah (by rw[HV.out];simp),by first|exact qW.out.1|exact ly.out.1⟩
theorem RE (h:bw b w r m o i l) (hr:iZ r):
  Calls prog 29 #[jB r m o i l] w (aG w (az r)):=by
 have h':=h.lo (dQ _);obtain⟨⟨_,_,rfl,_⟩,⟨_,_,rfl,_⟩,⟨_,_,rfl,_⟩,⟨_,_,rfl,_⟩⟩:=h;exact Ee w r _ _ _ _ _ _ _ _ _ _ _ _ h' hr
