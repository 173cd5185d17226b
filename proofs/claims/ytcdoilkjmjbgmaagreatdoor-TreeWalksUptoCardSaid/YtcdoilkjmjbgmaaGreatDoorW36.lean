import Derived.Test.YtcdoilkjmjbgmaaGreatDoorW14
import Derived.Test.YtcdoilkjmjbgmaaGreatDoorW35
import Derived.Test.YtcdoilkjmjbgmaaGreatDoorW25
/- Part of the proof of YtcdoilkjmjbgmaaGreatDoorCardX: TvG TvH. -/
set_option maxRecDepth 100000
set_option maxHeartbeats 4000000
set_option linter.unusedVariables false
set_option linter.unusedSimpArgs false
namespace Go.Proofs.YtcdoilkjmjbgmaaGreatDoor
open Go.RowKit
open Go.Proofs.Tryz
variable {w W:World} {A args cs:Array Value} {n:Int} {b g:Nat} {t:TypeId} {r:PR} {m o i l:Value}
theorem Ru: ∀b0 b1 b2 b3 b4 b5 b6 b7 b8 b9:Bool,(bits BinOp.andNot IntKind.i64 (vL b0 b1 b2 b3 b4 b5 b6 b7 b8 b9) 2==0)=(!b0&& !b2&& !b3&& !b4&& !b5&& !b6&& !b7&& !b8&& !b9):=by decide+kernel
theorem VR: ∀b0 b1 b2 b3 b4 b5 b6 b7 b8 b9:Bool,(bits BinOp.andNot IntKind.i64 (vL b0 b1 b2 b3 b4 b5 b6 b7 b8 b9) 38==0)=(!b0&& !b3&& !b4&& !b6&& !b7&& !b8&& !b9):=by decide+kernel
theorem VS: ∀b0 b1 b2 b3 b4 b5 b6 b7 b8 b9:Bool,(bits BinOp.andNot IntKind.i64 (vL b0 b1 b2 b3 b4 b5 b6 b7 b8 b9) 8==0)=(!b0&& !b1&& !b2&& !b4&& !b5&& !b6&& !b7&& !b8&& !b9):=by decide+kernel
theorem VT: ∀b0 b1 b2 b3 b4 b5 b6 b7 b8 b9:Bool,(bits BinOp.andNot IntKind.i64 (vL b0 b1 b2 b3 b4 b5 b6 b7 b8 b9) 56==0)=(!b0&& !b1&& !b2&& !b6&& !b7&& !b8&& !b9):=by decide+kernel
theorem Zl: ∀b0 b1 b2 b3 b4 b5 b6 b7 b8 b9:Bool,(bits BinOp.andNot IntKind.i64 (vL b0 b1 b2 b3 b4 b5 b6 b7 b8 b9) 1==0)=(!b1&& !b2&& !b3&& !b4&& !b5&& !b6&& !b7&& !b8&& !b9):=by decide+kernel
theorem VU: ∀b0 b1 b2 b3 b4 b5 b6 b7 b8 b9:Bool,(bits BinOp.andNot IntKind.i64 (vL b0 b1 b2 b3 b4 b5 b6 b7 b8 b9) 193==0)=(!b1&& !b2&& !b3&& !b4&& !b5&& !b8&& !b9):=by decide+kernel
theorem VV: ∀b0 b1 b2 b3 b4 b5 b6 b7 b8 b9:Bool,(bits BinOp.andNot IntKind.i64 (vL b0 b1 b2 b3 b4 b5 b6 b7 b8 b9) 769==0)=(!b1&& !b2&& !b3&& !b4&& !b5&& !b6&& !b7):=by decide+kernel
def sy (r:PR):Int:=vL (!LQ r) (!rI r) (!F6 r) (!yO r) (!qe r) (!qf r) r.bool (!fA r) r.without (!jC r)
def Ml (k:Int):Int:=if k=1∨k=2 then 2 else if k=3 then 38 else if k=4 then 8 else if k=5 then 56 else if k=6∨k=8 then 1 else if k=7 then 193 else 769
theorem KP (r:PR) (h:qL r.kind):(bits BinOp.andNot IntKind.i64 (sy r) (Ml r.kind)==0)=lP r:=by
 unfold qL at h;unfold lP sy Ml;rcases h with k|k|k|k|k|k|k|k|k<;>rw[k]<;>simp[Ru,VR,VS,VT,Zl,VU,VV]
def Yh (w:World) (A:Array Value) (n:Int) (e:Ending) (W':World):Prop:=e= .returned (.int .i64 n)∧OB w A W'
theorem TP {f:FuncId} (h:Calls prog f args W fun e W'=>e= .returned (.int .i64 n)∧Below W.heap.size W W') (hs:OB w A W):Calls prog f args W (Yh w A n):=h.mono fun e W' ⟨h1,h2⟩=>⟨h1,hs.below h2⟩
theorem Nw (w:World) (r:PR) (A:Array Value) {m o i l:Value} (h:bw b w r m o i l) (hA:A=dN r m o i l) (h1: ∀u∈A.toList,u.oneCell'=true):
  Calls prog 49 #[.agg A] w fun e w'=>e= .returned (.int .i64 (sy r))∧Below w.heap.size w w':=by
 obtain⟨⟨am,cm,rfl,_⟩,⟨ao,co,rfl,_⟩,⟨ai,ci,rfl,_⟩,⟨al,cl,rfl,_⟩⟩:=h;have hs: ∀x:ByteArray,x.toList.isEmpty= !!dy x:=fun x=>by rw[bU,dy];simp
 have hl: ∀{α:Type} (l:List α),decide (0<l.length)= !l.isEmpty:=fun l=>by cases l<;>simp
 have:=Km w r A am ao ai al _ cm _ co _ ci _ cl hA h1 (!LQ r) (!rI r) (!F6 r) (!yO r) (!qe r) (!jC r) (!dy r.off) (!dy r.tim) r.given r.on (!r.mls.isEmpty) (r.card != 0) (!r.inc.isEmpty) (hs _) (hs _) (hl _) (hs _) (hs _) (hs _) (hs _) rfl rfl (hl _) rfl (hl _) (hl _);have e1:(!dy r.off|| !dy r.tim)= !qf r:=by unfold qf;rw[Bool.not_and]
 have e2:(r.given||r.on|| !r.mls.isEmpty||(r.card != 0)|| !r.inc.isEmpty)= !fA r:=by
  unfold fA;rw[eE];simp
 rw[e1,e2]at this;exact this
theorem JS (h:aH W g t cs) (ss:List ByteArray) (hc:cs=(ss.map Value.string).toArray) (n c:Nat) (hn:n=ss.length):cL 0 W (.slice (some ⟨g,0,none⟩) n c) ss:=by
 subst hc hn;refine⟨_,c,rfl,fun j hj=>⟨g,0,rfl,aT _,h.lt,?_⟩⟩;rw[mw,h.cell];simp[hj]
theorem Fy (L:List (List UInt8)) (s:ByteArray):((L.map fun l=>(⟨l.toArray⟩:ByteArray)).any fun x=>x.data.toList==s.data.toList)=L.contains s.data.toList:=by
 rw[List.any_map,List.contains_eq_any_beq]
 congr 1
 funext l;simp only[IM];rw[eE,cn,cn];exact eq_comm
set_option maxHeartbeats 8000000 in
theorem D5 (w:World) (r:PR) (am ao ai al:Option Addr) (nm cm no co ni ci nl cl:Nat) (h:bw 0 w r (.slice am nm cm) (.slice ao no co) (.slice ai ni ci) (.slice al nl cl)) (hr:jU r):
  Calls prog 29 #[.agg #[.int .i64 r.kind,.int .i64 r.kids,.string r.op,.string r.text,.slice am nm cm,.string r.bQ,.string r.step,.string r.off,.string r.tim,.bool r.bool,.bool r.given,.bool r.on,.slice ao no co,.int .i64 r.card,.slice ai ni ci,.bool r.without,.slice al nl cl]] w (aC w (ax r)):=by
 obtain⟨A,hA⟩: ∃A,A=dN r (.slice am nm cm) (.slice ao no co) (.slice ai ni ci) (.slice al nl cl):=⟨_,rfl⟩;have HA:=aa hA;have HH:=aa h;have HR:=aa hr;have H1:Hid (∀u∈A.toList,u.oneCell'=true):=aa (by rw[hA];exact uN h);have HFI:Hid (∀W,OB w A W→Calls prog 49 #[.agg A] W (Yh w A (sy r))):=aa fun W hs=>TP (Nw W r A (h.below hs.1) hA H1.out) hs
 have WG:Hid ((prog.info? 46).map (·.size)=some A.size):=aa (by rw[hA];exact aN);rw[Mj (r:=r) hA];obtain⟨B,hB⟩: ∃B,B=ax r:=⟨_,rfl⟩;rw[←hB];have fY:=aa hB;have HU:Hid (qL r.kind→(bits BinOp.andNot IntKind.i64 (sy r) (Ml r.kind)==0)=lP r):=aa (KP r);generalize sy r=n at HFI HU;clear h hr hA hB;go_enter func29,ntmps29;go_upto_region 2 with(first|(refine jG rfl 46 (.tmp 0) rfl A rfl H1.out ?_;intro WA Sm FP SU;have HOA:=aa (show OB w A WA from⟨FP,Sm⟩);clear Sm FP SU)|(refine dx rfl 46 (.tmp 1) rfl w.heap.size rfl HOA.out.2 underlying46 WG.out ?_)|(go_at_call 49;(with_reducible refine(HFI.out _ HOA.out).mono ?_);rintro e W2 ⟨rfl,hs⟩;have DD:=aQ hs.2 HA.out;have ld:=aa hs;clear hs))
 by_cases h9:qL r.kind
 rotate_left
 ·unfold qL at h9;have HV:Hid (B=false):=aa (by
   rw[fY.out];unfold ax;cases hk:de r.kind r.kids with
   |false=>rfl
   |true=>exact absurd (qq hk) (by unfold qL;exact h9))
  have q1:(r.kind==1)=false:=by rw[bK];omega
  have q2:(r.kind==2)=false:=by rw[bK];omega
  have q3:(r.kind==3)=false:=by rw[bK];omega
  have q4:(r.kind==4)=false:=by rw[bK];omega
  have q5:(r.kind==5)=false:=by rw[bK];omega
  have q6:(r.kind==6)=false:=by rw[bK];omega
  have q7:(r.kind==7)=false:=by rw[bK];omega
  have q8:(r.kind==8)=false:=by rw[bK];omega
  have q9:(r.kind==9)=false:=by rw[bK];omega
  clear h9;go_wp2_with fail;go_ret;exact⟨ah (by rw[HV.out]),ld.out.1⟩
 have hU:=HU.out h9;obtain⟨kb,jJ⟩: ∃b,b=de r.kind r.kids:=⟨_,rfl⟩;obtain⟨ub,As⟩: ∃b,b=lP r:=⟨_,rfl⟩;rw[←As]at hU;clear HU;have hr:=HR.out;have h:=HH.out;unfold qL at h9;rcases h9 with k|k|k|k|k|k|k|k|k
 ·have HV:Hid (B=(kb&&ub&&(ix r.text))):=aa (by rw[fY.out];unfold ax;rw[←jJ,←As,k];rfl);have pk:(r.kids==0)=kb:=by rw[jJ,k,eE];simp[de]
  have pu:(bits BinOp.andNot IntKind.i64 n 2==0)=ub:=by rw[←hU,k];rfl
  rw[k]at DD;clear fY As jJ hU k;have HC:Hid (∀W,OB w A W→Calls prog 50 #[.string r.text] W (uW w A (ix r.text))):=aa fun W hs=>lL (Nl W _ hr.text) hs
  clear h hr;obtain⟨g0,oA⟩: ∃g,g=ix r.text:=⟨_,rfl⟩;simp only[←oA]at HC HV;clear oA;cases kb
  ·go_wp2_with fail;go_ret;exact⟨ah (by rw[HV.out];rfl),ld.out.1⟩
  cases ub
  ·go_wp2_with fail;go_ret;exact⟨ah (by rw[HV.out];rfl),ld.out.1⟩
  all_goals
   go_wp2_with (first|(go_at_call 50;(with_reducible refine(HC.out _ (by first|exact ld.out)).mono ?_);rintro e W5 ⟨rfl,hs⟩;have K0:=aQ hs.2 HA.out;have la:=aa hs;clear hs))
   all_goals
    go_ret;exact⟨ah (by rw[HV.out];try first|rfl|(simp)),by first|exact la.out.1|exact ld.out.1⟩
 ·have HV:Hid (B=(kb&&ub&&(valid r.text.data.toList))):=aa (by rw[fY.out];unfold ax;rw[←jJ,←As,k];rfl);have pk:(r.kids==0)=kb:=by rw[jJ,k,eE];simp[de]
  have pu:(bits BinOp.andNot IntKind.i64 n 2==0)=ub:=by rw[←hU,k];rfl
  rw[k]at DD;clear fY As jJ hU k;have HC:Hid (∀W,OB w A W→Calls prog 51 #[.string r.text] W (uW w A (valid r.text.data.toList))):=aa fun W hs=>lL (j6 r.text W (by have:=hr.text;omega)) hs
  clear h hr;obtain⟨g0,oA⟩: ∃g,g=valid r.text.data.toList:=⟨_,rfl⟩;simp only[←oA]at HC HV;clear oA;cases kb
  ·go_wp2_with fail;go_ret;exact⟨ah (by rw[HV.out];rfl),ld.out.1⟩
  cases ub
  ·go_wp2_with fail;go_ret;exact⟨ah (by rw[HV.out];rfl),ld.out.1⟩
  all_goals
   go_wp2_with (first|(go_at_call 51;(with_reducible refine(HC.out _ (by first|exact ld.out)).mono ?_);rintro e W5 ⟨rfl,hs⟩;have K0:=aQ hs.2 HA.out;have la:=aa hs;clear hs))
   all_goals
    go_ret;exact⟨ah (by rw[HV.out];try first|rfl|(simp)),by first|exact la.out.1|exact ld.out.1⟩
 ·have HV:Hid (B=(kb&&ub&&((dy r.text||kP r.text true)&&iG r.off r.tim&&r.ms.all cF))):=aa (by rw[fY.out];unfold ax;rw[←jJ,←As,k];rfl);have pk:(r.kids==0)=kb:=by rw[jJ,k,eE];simp[de]
  have pu:(bits BinOp.andNot IntKind.i64 n 38==0)=ub:=by rw[←hU,k];rfl
  rw[k]at DD;clear fY As jJ hU k;have HT:Hid (∀W,OB w A W→Calls prog 52 #[.string r.text] W (Yh w A (fw r.text:Nat))):=aa fun W hs=>TP (pq W _ hr.text) hs
  have HW:Hid (∀W,OB w A W→Calls prog 53 #[.string r.text] W (uW w A (word r.text.data.toList))):=aa fun W hs=>lL (zD W _ hr.text) hs
  have HM:Hid (∀W,OB w A W→Calls prog 54 #[.slice am nm cm] W (uW w A (r.ms.all cF))):=aa fun W hs=>lL (He (h.1.below hs.1) hr.msn hr.ms) hs
  have HE:Hid (∀W,OB w A W→Calls prog 55 #[.agg #[.string r.off,.string r.tim]] W (uW w A (iG r.off r.tim))):=aa fun W hs=>lL (JR W _ _ hr.off hr.tim) hs
  clear h hr;obtain⟨nb,yq⟩: ∃g,g=(dy r.text||kP r.text true):=⟨_,rfl⟩;obtain⟨g1,pD⟩: ∃g,g=iG r.off r.tim:=⟨_,rfl⟩;obtain⟨g2,tm⟩: ∃g,g=r.ms.all cF:=⟨_,rfl⟩;simp only[←pD,←tm]at HE HM;rw[←yq,←pD,←tm]at HV;clear pD tm;have NY:Hid (nb=(decide (r.text.toList=[])||((((fw r.text:Nat):Int)==1)||(((fw r.text:Nat):Int)==2))&& !word r.text.data.toList)):=aa (by
   rw[yq,jn];unfold kP
   congr 2
   rw[eE];simp;omega)
  clear yq;generalize word r.text.data.toList=gw at HW NY;generalize fw r.text=tk at HT NY;go_upto_region 9 with(go_at_call 52;(with_reducible refine(HT.out _ ld.out).mono ?_);rintro e W5 ⟨rfl,hs⟩;have K0:=aQ hs.2 HA.out;have la:=aa hs;clear hs)
  go_cut [5]from 47 to 63 (fun t5 wx=>t5= .bool nb∧Hid (OB w A wx))
  case first=>
   have ht:(((tk:Nat):Int)==1)=true∨((((tk:Nat):Int)==1)=false∧(((tk:Nat):Int)==2)=true)∨((((tk:Nat):Int)==1)=false∧(((tk:Nat):Int)==2)=false):=by
    cases ((tk:Nat):Int)==1<;>cases ((tk:Nat):Int)==2<;>simp
   rcases Mg r.text with⟨u1,u2⟩|⟨u1,u2⟩<;>rcases ht with t1|⟨t1,t2⟩|⟨t1,t2⟩<;>cases gw
   all_goals
    go_wp2_with (go_at_call 53;(with_reducible refine(HW.out _ la.out).mono ?_);rintro e W6 ⟨rfl,hs⟩;have qB:=aa hs;clear hs);go_meet;exact⟨by rw[NY.out];simp[u1,fS, *],by first|exact qB|exact la⟩
  case rest=>
   obtain⟨rfl,LG⟩:=hcut;have DE:=aQ LG.out.2 HA.out;have Sv:=aa LG.out;clear DD K0 LG;cases kb
   ·go_wp2_with fail;go_ret;exact⟨ah (by rw[HV.out];rfl),Sv.out.1⟩
   cases ub
   ·go_wp2_with fail;go_ret;exact⟨ah (by rw[HV.out];rfl),Sv.out.1⟩
   cases nb
   ·go_wp2_with fail;go_ret;exact⟨ah (by rw[HV.out];rfl),Sv.out.1⟩
   cases g2
   all_goals
    go_wp2_with (first|(go_at_call 54;(with_reducible refine(HM.out _ Sv.out).mono ?_);rintro e W7 ⟨rfl,hs⟩;have K2:=aQ hs.2 HA.out;have lD:=aa hs;clear hs)|(go_at_call 55;(with_reducible refine(HE.out _ lD.out).mono ?_);rintro e W8 ⟨rfl,hs⟩;have sV:=aa hs;clear hs));go_ret;exact⟨ah (by rw[HV.out];simp),by first|exact sV.out.1|exact lD.out.1⟩
 ·have HV:Hid (B=(kb&&ub&&(fx r.bQ))):=aa (by rw[fY.out];unfold ax;rw[←jJ,←As,k];rfl);have pk:(r.kids==1)=kb:=by rw[jJ,k,eE];simp[de]
  have pu:(bits BinOp.andNot IntKind.i64 n 8==0)=ub:=by rw[←hU,k];rfl
  rw[k]at DD;clear fY As jJ hU k;have HC:Hid (∀W,OB w A W→Calls prog 56 #[.string r.bQ] W (uW w A (fx r.bQ))):=aa fun W hs=>lL (lT W _ hr.bQ) hs
  clear h hr;obtain⟨g0,oA⟩: ∃g,g=fx r.bQ:=⟨_,rfl⟩;simp only[←oA]at HC HV;clear oA;cases kb
  ·go_wp2_with fail;go_ret;exact⟨ah (by rw[HV.out];rfl),ld.out.1⟩
  cases ub
  ·go_wp2_with fail;go_ret;exact⟨ah (by rw[HV.out];rfl),ld.out.1⟩
  all_goals
   go_wp2_with (first|(go_at_call 56;(with_reducible refine(HC.out _ (by first|exact ld.out)).mono ?_);rintro e W5 ⟨rfl,hs⟩;have K0:=aQ hs.2 HA.out;have la:=aa hs;clear hs))
   all_goals
    go_ret;exact⟨ah (by rw[HV.out];try first|rfl|(simp)),by first|exact la.out.1|exact ld.out.1⟩
 ·have HV:Hid (B=(kb&&ub&&(fx r.bQ&&(dy r.step||fx r.step)&&iG r.off r.tim))):=aa (by rw[fY.out];unfold ax;rw[←jJ,←As,k];rfl);have pk:(r.kids==1)=kb:=by rw[jJ,k,eE];simp[de]
  have pu:(bits BinOp.andNot IntKind.i64 n 56==0)=ub:=by rw[←hU,k];rfl
  rw[k]at DD;clear fY As jJ hU k;have HC:Hid (∀W,OB w A W→Calls prog 56 #[.string r.bQ] W (uW w A (fx r.bQ))):=aa fun W hs=>lL (lT W _ hr.bQ) hs
  have HD:Hid (∀W,OB w A W→Calls prog 56 #[.string r.step] W (uW w A (fx r.step))):=aa fun W hs=>lL (lT W _ hr.step) hs
  have HE:Hid (∀W,OB w A W→Calls prog 55 #[.agg #[.string r.off,.string r.tim]] W (uW w A (iG r.off r.tim))):=aa fun W hs=>lL (JR W _ _ hr.off hr.tim) hs
  clear h hr;obtain⟨g0,oA⟩: ∃g,g=fx r.bQ:=⟨_,rfl⟩;obtain⟨g1,pD⟩: ∃g,g=fx r.step:=⟨_,rfl⟩;obtain⟨g2,tm⟩: ∃g,g=iG r.off r.tim:=⟨_,rfl⟩;simp only[←oA,←pD,←tm]at HC HD HE HV;clear oA pD tm;cases kb
  ·go_wp2_with fail;go_ret;exact⟨ah (by rw[HV.out];rfl),ld.out.1⟩
  cases ub
  ·go_wp2_with fail;go_ret;exact⟨ah (by rw[HV.out];rfl),ld.out.1⟩
  have zN:Hid (dy r.step=decide (r.step.toList=[])):=aa (jn _);rcases Mg r.step with⟨u1,u2⟩|⟨u1,u2⟩<;>cases g0<;>cases g1
  all_goals
   go_wp2_with (first|(go_at_call 56;(with_reducible refine(HC.out _ (by first|exact ld.out)).mono ?_);rintro e W5 ⟨rfl,hs⟩;have K0:=aQ hs.2 HA.out;have la:=aa hs;clear hs)|(go_at_call 56;(with_reducible refine(HD.out _ (by first|exact la.out|exact ld.out)).mono ?_);rintro e W6 ⟨rfl,hs⟩;have K1:=aQ hs.2 HA.out;have qB:=aa hs;clear hs)|(go_at_call 55;(with_reducible refine(HE.out _ (by first|exact qB.out|exact la.out|exact ld.out)).mono ?_);rintro e W7 ⟨rfl,hs⟩;have K2:=aQ hs.2 HA.out;have lD:=aa hs;clear hs))
   all_goals
    go_ret;exact⟨ah (by rw[HV.out];try first|rfl|(rw[zN.out];simp[u1,fS])),by first|exact lD.out.1|exact qB.out.1|exact la.out.1|exact ld.out.1⟩
 ·have HV:Hid (B=(kb&&ub&&(nf [43] r.op||nf [45] r.op))):=aa (by rw[fY.out];unfold ax;rw[←jJ,←As,k];rfl);have pk:(r.kids==1)=kb:=by rw[jJ,k,eE];simp[de]
  have pu:(bits BinOp.andNot IntKind.i64 n 1==0)=ub:=by rw[←hU,k];rfl
  rw[k]at DD;clear fY As jJ hU k;clear h hr;cases kb
  ·go_wp2_with fail;go_ret;exact⟨ah (by rw[HV.out];rfl),ld.out.1⟩
  cases ub
  ·go_wp2_with fail;go_ret;exact⟨ah (by rw[HV.out];rfl),ld.out.1⟩
  have zN:Hid (nf [43] r.op=(r.op.toList==[43])):=aa (by rw[bU];rfl);have Sq:Hid (nf [45] r.op=(r.op.toList==[45])):=aa (by rw[bU];rfl)
  all_goals
   go_wp2_with (first|fail)
   all_goals
    go_ret;exact⟨ah (by rw[HV.out];try first|rfl|(rw[zN.out,Sq.out];try simp_all)),by first|exact ld.out.1⟩
 ·have HV:Hid (B=(kb&&ub&&(mH.contains r.op.data.toList&&iY r.given r.on r.mls r.card r.inc))):=aa (by rw[fY.out];unfold ax;rw[←jJ,←As,k];rfl);have pk:(r.kids==2)=kb:=by rw[jJ,k,eE];simp[de]
  have pu:(bits BinOp.andNot IntKind.i64 n 193==0)=ub:=by rw[←hU,k];rfl
  rw[k]at DD;clear fY As jJ hU k;have HD:Hid (∀W,OB w A W→Calls prog 58 #[.agg #[.bool r.given,.bool r.on,.slice ao no co,.int .i64 r.card,.slice ai ni ci]] W (uW w A (iY r.given r.on r.mls r.card r.inc))):=aa fun W hs=>lL (Hg r.given r.on r.card (h.2.1.below hs.1) (h.2.2.1.below hs.1) hr.abH hr.abI hr.mls hr.inc) hs
  have HO:Hid (∀W g,OB w A W→cL 0 W (.slice (some ⟨g,0,none⟩) 15 15) (mH.map fun l=>(⟨l.toArray⟩:ByteArray))→Calls prog 57 #[.string r.op,.slice (some ⟨g,0,none⟩) 15 15] W (uW w A (mH.contains r.op.data.toList))):=aa fun W g hs hw=>by rw[←Fy];exact Yg (Fw hw (by decide)) hs
  clear h hr;obtain⟨g0,oA⟩: ∃g,g=mH.contains r.op.data.toList:=⟨_,rfl⟩;obtain⟨g1,pD⟩: ∃g,g=iY r.given r.on r.mls r.card r.inc:=⟨_,rfl⟩;simp only[←oA,←pD]at HO HD HV;clear oA pD;go_upto_region 19 with(fail)
  generalize S7:World.alloc _ _=W3;have LG:OB w A W3:=by subst S7;exact ld.out.below ((aS _ _).alloc (aP _) _)
  have hws:cL 0 W3 (.slice (some ⟨W2.heap.size,0,none⟩) 15 15) (mH.map fun l=>(⟨l.toArray⟩:ByteArray)):=JS (by subst S7;exact aH.new _ _ _) _ rfl _ _ rfl;have Sv:=aa LG;have HWS:=aa hws;have DE:=aQ LG.2 HA.out;clear LG hws S7 DD;cases kb
  ·go_wp2_with fail;go_ret;exact⟨ah (by rw[HV.out];rfl),Sv.out.1⟩
  cases ub
  ·go_wp2_with fail;go_ret;exact⟨ah (by rw[HV.out];rfl),Sv.out.1⟩
  cases g0
  all_goals
   go_wp2_with (first|(go_at_call 57;(with_reducible refine(HO.out _ _ Sv.out HWS.out).mono ?_);rintro e W5 ⟨rfl,hs⟩;have K0:=aQ hs.2 HA.out;have la:=aa hs;clear hs)|(go_at_call 58;(with_reducible refine(HD.out _ la.out).mono ?_);rintro e W6 ⟨rfl,hs⟩;have qB:=aa hs;clear hs));go_ret;exact⟨ah (by rw[HV.out];simp),by first|exact qB.out.1|exact la.out.1⟩
 ·have HV:Hid (B=(kb&&ub&&(kP r.op false))):=aa (by rw[fY.out];unfold ax;rw[←jJ,←As,k];rfl);have pk:(0≤r.kids)=(kb=true):=by rw[jJ,k];simp[de]
  have pu:(bits BinOp.andNot IntKind.i64 n 1==0)=ub:=by rw[←hU,k];rfl
  rw[k]at DD;clear fY As jJ hU k;have HT:Hid (∀W,OB w A W→Calls prog 52 #[.string r.op] W (Yh w A (fw r.op:Nat))):=aa fun W hs=>TP (pq W _ hr.op) hs
  have HW:Hid (∀W,OB w A W→Calls prog 53 #[.string r.op] W (uW w A (word r.op.data.toList))):=aa fun W hs=>lL (zD W _ hr.op) hs
  have NY:Hid (kP r.op false=((((fw r.op:Nat):Int)==1)&& !word r.op.data.toList)):=aa (by
   unfold kP
   congr 1
   rw[eE];simp;omega)
  clear h hr;rw[NY.out]at HV;clear NY;generalize word r.op.data.toList=gw at HW HV;generalize fw r.op=tk at HT HV;cases kb
  ·have pk2:(0≤r.kids)=False:=pk.trans (by simp);clear pk;go_wp2_with fail;go_ret;exact⟨ah (by rw[HV.out];rfl),ld.out.1⟩
  have pk2:(0≤r.kids)=True:=pk.trans (by simp);clear pk;cases ub
  ·go_wp2_with fail;go_ret;exact⟨ah (by rw[HV.out];rfl),ld.out.1⟩
  rcases IE (((tk:Nat):Int)==1)with t1|t1
  all_goals
   go_wp2_with (first|(go_at_call 52;(with_reducible refine(HT.out _ ld.out).mono ?_);rintro e W5 ⟨rfl,hs⟩;have K0:=aQ hs.2 HA.out;have la:=aa hs;clear hs)|(go_at_call 53;(with_reducible refine(HW.out _ la.out).mono ?_);rintro e W6 ⟨rfl,hs⟩;have qB:=aa hs;clear hs));go_ret;exact⟨ah (by rw[HV.out,t1];simp),by first|exact qB.out.1|exact la.out.1⟩
 ·have HV:Hid (B=(kb&&ub&&(mI.contains r.op.data.toList&&bG r.labels))):=aa (by rw[fY.out];unfold ax;rw[←jJ,←As,k];rfl);have pk:((r.kids==1)=false∧(r.kids==2)=false∧kb=false)∨((r.kids==1)=false∧(r.kids==2)=true∧kb=true)∨((r.kids==1)=true∧kb=true):=by
   have h1:kb=((r.kids==1)||(r.kids==2)):=by rw[jJ,k,eE];simp[de]
   rw[h1];generalize (r.kids==1)=x;generalize (r.kids==2)=y;cases x<;>cases y<;>simp
  have pu:(bits BinOp.andNot IntKind.i64 n 769==0)=ub:=by rw[←hU,k];rfl
  rw[k]at DD;clear fY As jJ hU k;have HD:Hid (∀W,OB w A W→Calls prog 59 #[.slice al nl cl] W (uW w A (bG r.labels))):=aa fun W hs=>lL (uM (h.2.2.2.below hs.1) hr.abJ hr.lab) hs
  have HO:Hid (∀W g,OB w A W→cL 0 W (.slice (some ⟨g,0,none⟩) 12 12) (mI.map fun l=>(⟨l.toArray⟩:ByteArray))→Calls prog 57 #[.string r.op,.slice (some ⟨g,0,none⟩) 12 12] W (uW w A (mI.contains r.op.data.toList))):=aa fun W g hs hw=>by rw[←Fy];exact Yg (Fw hw (by decide)) hs
  clear h hr;obtain⟨g0,oA⟩: ∃g,g=mI.contains r.op.data.toList:=⟨_,rfl⟩;obtain⟨g1,pD⟩: ∃g,g=bG r.labels:=⟨_,rfl⟩;simp only[←oA,←pD]at HO HD HV;clear oA pD;go_upto_region 24 with(fail)
  generalize S7:World.alloc _ _=W3;have LG:OB w A W3:=by subst S7;exact ld.out.below ((aS _ _).alloc (aP _) _)
  have hws:cL 0 W3 (.slice (some ⟨W2.heap.size,0,none⟩) 12 12) (mI.map fun l=>(⟨l.toArray⟩:ByteArray)):=JS (by subst S7;exact aH.new _ _ _) _ rfl _ _ rfl;have Sv:=aa LG;have HWS:=aa hws;have DE:=aQ LG.2 HA.out;clear LG hws S7 DD;rcases pk with⟨k1,k2,rfl⟩|⟨k1,k2,rfl⟩|⟨k1,rfl⟩
  ·go_wp2_with fail;go_ret;exact⟨ah (by rw[HV.out];rfl),Sv.out.1⟩
  all_goals
   cases ub
   ·go_wp2_with fail;go_ret;exact⟨ah (by rw[HV.out];rfl),Sv.out.1⟩
  all_goals (cases g0)
  all_goals
   go_wp2_with (first|(go_at_call 57;(with_reducible refine(HO.out _ _ Sv.out HWS.out).mono ?_);rintro e W5 ⟨rfl,hs⟩;have K0:=aQ hs.2 HA.out;have la:=aa hs;clear hs)|(go_at_call 59;(with_reducible refine(HD.out _ la.out).mono ?_);rintro e W6 ⟨rfl,hs⟩;have qB:=aa hs;clear hs));go_ret;exact⟨ah (by rw[HV.out];simp),by first|exact qB.out.1|exact la.out.1⟩
theorem Rv (h:bw b w r m o i l) (hr:jU r):
  Calls prog 29 #[jP r m o i l] w (aC w (ax r)):=by
 have h':=h.lo (aT _);obtain⟨⟨_,_,rfl,_⟩,⟨_,_,rfl,_⟩,⟨_,_,rfl,_⟩,⟨_,_,rfl,_⟩⟩:=h;exact D5 w r _ _ _ _ _ _ _ _ _ _ _ _ h' hr
