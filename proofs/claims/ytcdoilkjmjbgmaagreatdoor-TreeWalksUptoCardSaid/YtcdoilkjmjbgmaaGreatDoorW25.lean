import Derived.Test.YtcdoilkjmjbgmaaGreatDoorW23
import Derived.Test.YtcdoilkjmjbgmaaGreatDoorW24
/- Part of the proof of YtcdoilkjmjbgmaaGreatDoorCardX: TvC TvE. -/
set_option maxRecDepth 100000
set_option maxHeartbeats 4000000
set_option linter.unusedVariables false
set_option linter.unusedSimpArgs false
namespace Go.Proofs.YtcdoilkjmjbgmaaGreatDoor
open Go.RowKit
open Go.Proofs.Tryz
variable {x:ByteArray} {b nl cl ni ci:Nat} {w:World} {al ai:Option Addr} {ls inc:List ByteArray}
theorem KG:fx ⟨#[45]⟩=false:=by decide+kernel
theorem Mg (x:ByteArray):(x.toList=[]∧x.toList.isEmpty=true)∨((x.toList=[])=False∧x.toList.isEmpty=false):=by cases x.toList<;>simp
theorem Ui (h:x.size=0):x.toList=[]∧x.toList.isEmpty=true:=by
 have:x.data.toList.length=0:=by rw[ab];exact h
 rw[nW,pH.1 this];exact⟨rfl,rfl⟩
theorem Mh (h:0<x.size):(x.toList=[])=False∧x.toList.isEmpty=false:=by
 rcases Mg x with⟨h1,_⟩|h1
 ·have:=ab x;rw[nW]at h1;rw[h1]at this;simp at this;omega
 ·exact h1
theorem Ro (off:ByteArray):(off.size=0∧iL off=off)∨(∃h:0<off.size,off[0].toNat≠45∧iL off=off)∨(∃h:0<off.size,off[0].toNat=45∧off.size=1∧fx (iL off)=false∧0<(iL off).size)∨(∃h:0<off.size,off[0].toNat=45∧1<off.size∧iL off=off.extract 1 off.size):=by
 rcases jK off.size with h0|h0
 ·exact .inl ⟨h0,pv off fun h=>by omega⟩
 ·by_cases h2:off[0].toNat=45
  ·by_cases h1:1<off.size
   ·exact .inr (.inr (.inr ⟨h0,h2,h1,by unfold iL;rw[ar ⟨h1,by rw[wB off h0];exact h2⟩]⟩))
   ·have hu:iL off=off:=pv off fun h=>h1 h.1
    have ho:off=⟨#[45]⟩:=by
     have hl:off.data.toList.length=1:=by rw[ab];omega
     obtain⟨c,hc⟩: ∃c,off.data.toList=[c]:=by
      cases hd:off.data.toList with
      |nil=>rw[hd]at hl;cases hl
      |cons c r=>cases r with
       |nil=>exact⟨c,rfl⟩
       |cons d r=>rw[hd]at hl;simp at hl
     have h3:off[0]=c:=head_eq hc h0;rw[h3]at h2;rw[←mk_data off,hc,cD (n:=45) (by omega) h2];rfl
    exact .inr (.inr (.inl ⟨h0,h2,by omega,by rw[hu,ho];exact KG,by rw[hu];exact h0⟩))
  ·exact .inr (.inl ⟨h0,h2,pv off fun h=>h2 (by rw[←wB off h0];exact h.2)⟩)
theorem JR (w:World) (off tim:ByteArray) (ho:off.size≤1048576) (ht:tim.size≤1048576):
  Calls prog 55 #[.agg #[.string off,.string tim]] w (aC w (iG off tim)):=by
 have HDU:Hid (∀W x,x.size≤1048576→Calls prog 56 #[.string x] W (aC W (fx x))):=aa fun W x hx=>lT W x hx
 have HK:Hid (∀W,Calls prog 52 #[.string tim] W (ko W (fw tim))):=aa fun W=>pq W tim ht
 have bZ:Hid (Below w.heap.size w (w.alloc (.cells #[.string off,.string tim] 41))):=aa ((aS _ w).alloc (aP _) _);have HW:=aa (wA off tim _ rfl);have e1:(tim.toList==[115,116,97,114,116])=nf [115,116,97,114,116] tim:=by rw[bU];rfl
 have e2:(tim.toList==[101,110,100])=nf [101,110,100] tim:=by rw[bU];rfl
 have HX:Hid ((off.extract 1 off.size).size≤1048576):=aa (by simp;omega);rcases Ro off with⟨h0,hu⟩|⟨h0,h2,hu⟩|⟨h0,h2,h1,hd,hp⟩|⟨h0,h2,h1,hu⟩
 case' inl=>
  have t1:((0:Int)<(off.size:Int))=False:=bL (by omega);obtain⟨u1,u2⟩:=Ui h0;rw[hu]at HW
 case' inr.inl=>
  have t1:((0:Int)<(off.size:Int))=True:=az (by omega);have t2:((off[0].toNat:Int)==45)=false:=bK.2 (by omega);obtain⟨u1,u2⟩:=Mh h0;rw[hu]at HW
 case' inr.inr.inl=>
  have t1:((0:Int)<(off.size:Int))=True:=az (by omega);have t2:((off[0].toNat:Int)==45)=true:=cn.2 (by omega);obtain⟨u1,u2⟩:=Ui (x:=off.extract 1 off.size) (by simp;omega);have HF:Hid (iG off tim=false):=aa (by rw[HW.out,hd,gp (of_eq_false (Mh hp).1)];rfl);clear hd hp
 case' inr.inr.inr=>
  have t1:((0:Int)<(off.size:Int))=True:=az (by omega);have t2:((off[0].toNat:Int)==45)=true:=cn.2 (by omega);obtain⟨u1,u2⟩:=Mh (x:=off.extract 1 off.size) (by simp;omega);rw[hu]at HW
 all_goals (try clear hu)
 all_goals
  obtain⟨bo,Ik⟩: ∃b,b=fx off:=⟨_,rfl⟩;obtain⟨bx,Lf⟩: ∃b,b=fx (off.extract 1 off.size):=⟨_,rfl⟩;have HDO:Hid (∀W,Calls prog 56 #[.string off] W (aC W bo)):=aa fun W=>by rw[Ik];exact HDU.out W off ho
  have HDX:Hid (∀W,Calls prog 56 #[.string (off.extract 1 off.size)] W (aC W bx)):=aa fun W=>by rw[Lf];exact HDU.out W _ HX.out
  try simp only[←Ik,←Lf]at HW
  clear Ik Lf;cases bo<;>cases bx
 all_goals
  go_enter func55,ntmps55;go_wp2_with (first|(go_at_call 56;(first|(with_reducible refine(HDO.out _).mono ?_)|(with_reducible refine(HDX.out _).mono ?_));rintro e w2 ⟨rfl,aM⟩;have c1:w2.cell? ⟨w.heap.size,1,none⟩=some (.string tim):=(aM.cell (p:=⟨w.heap.size,1,none⟩) (by simp)).trans (by rw[zS _ _ _ _ rfl];rfl);have bD:=aa (bZ.out.trans (aM.mono bZ.out.size));clear aM)|(go_at_call 52;(with_reducible refine(HK.out _).mono ?_);rintro e w3 ⟨rfl,cr⟩;have iR:=aa ((by first|exact bD.out|exact bZ.out:Below w.heap.size w _).trans (cr.mono (by first|exact bD.out.size|exact bZ.out.size)));clear cr))
  all_goals
   go_ret;exact⟨ah (by first|(rw[HF.out];done)|(rw[HF.out];rfl)|(rw[HW.out];simp[fS, *])),by first|exact iR.out|exact bD.out|exact bZ.out⟩
theorem Hg (gi on:Bool) (card:Int) (ho:cL b w (.slice al nl cl) ls) (hi:cL b w (.slice ai ni ci) inc) (hn:ls.length≤1048576) (xf:inc.length≤1048576) (hs: ∀s∈ls,s.size≤1048576) (uV: ∀s∈inc,s.size≤1048576):
  Calls prog 58 #[.agg #[.bool gi,.bool on,.slice al nl cl,.int .i64 card,.slice ai ni ci]] w (aC w (iY gi on ls card inc)):=by
 obtain rfl:nl=ls.length:=by obtain⟨_,_,h,_⟩:=ho;injection h
 obtain rfl:ni=inc.length:=by obtain⟨_,_,h,_⟩:=hi;injection h
 have HO:Hid (∀W,Below w.heap.size w W→Calls prog 59 #[.slice al ls.length cl] W (aC W (bG ls))):=aa fun W hb=>uM (ho.below hb) hn hs
 have HI:Hid (∀W,Below w.heap.size w W→Calls prog 59 #[.slice ai inc.length ci] W (aC W (bG inc))):=aa fun W hb=>uM (hi.below hb) xf uV
 have bZ:Hid (∀cs,Below w.heap.size w (w.alloc (.cells cs 44))):=aa fun cs=>(aS _ w).alloc (aP _) _
 have HD:Hid (iY gi on ls card inc=if gi=false then !on&&decide (ls.length=0)&&decide (card=0)&&decide (inc.length=0)else decide (0≤card)&&decide (card≤2)&& !(decide (card=0)&& !decide (inc.length=0))&&bG ls&&bG inc):=aa (by unfold iY;rw[nR,nR]);have Sq:Hid (ls.length=0→bG ls=true):=aa fun h=>by rw[pH.1 h];rfl
 have HE2:Hid (inc.length=0→bG inc=true):=aa fun h=>by rw[pH.1 h];rfl
 clear ho hi;generalize iY gi on ls card inc=mb at HD ⊢
 generalize bG ls=bl at HO HD Sq;generalize bG inc=bi at HI HD HE2;generalize ls.length=nl at*
 generalize inc.length=ni at*
 have hw:(gi=false∧on=true)∨(gi=false∧on=false∧0<nl)∨(gi=false∧on=false∧nl=0∧card≠0)∨(gi=false∧on=false∧nl=0∧card=0∧0<ni)∨(gi=false∧on=false∧nl=0∧card=0∧ni=0)∨(gi=true∧card<0)∨(gi=true∧2<card)∨(gi=true∧card=0∧0<ni)∨(gi=true∧card=0∧ni=0)∨(gi=true∧0<card∧card≤2):=by
  cases gi<;>cases on<;>simp<;>omega
 rcases hw with⟨rfl,rfl⟩|⟨rfl,rfl,h⟩|⟨rfl,rfl,rfl,h⟩|⟨rfl,rfl,rfl,rfl,h⟩|⟨rfl,rfl,rfl,rfl,rfl⟩|⟨rfl,h⟩|⟨rfl,h⟩|⟨rfl,rfl,h⟩|⟨rfl,rfl,rfl⟩|⟨rfl,h,h2⟩
 case' inl=>have HF:Hid (mb=false):=aa (by rw[HD.out];rfl)
 case' inr.inl=>
  have HF:Hid (mb=false):=aa (by rw[HD.out];simp[show ¬nl=0 by omega]);have p1:((0:Int)<(nl:Int))=True:=az (by omega);have p2:(0<nl)=True:=az h
 case' inr.inr.inl=>
  have HF:Hid (mb=false):=aa (by rw[HD.out];simp[h]);have p1:(card==0)=false:=bK.2 h;have p2:(card != 0)=true:=by rw[bne,p1];rfl
 case' inr.inr.inr.inl=>
  have HF:Hid (mb=false):=aa (by rw[HD.out];simp[show ¬ni=0 by omega]);have p1:((0:Int)<(ni:Int))=True:=az (by omega);have p2:(0<ni)=True:=az h
 case' inr.inr.inr.inr.inl=>
  obtain rfl:=Sq.out rfl;obtain rfl:=HE2.out rfl;have HF:Hid (mb=true):=aa (by rw[HD.out];rfl)
 case' inr.inr.inr.inr.inr.inl=>
  have HF:Hid (mb=false):=aa (by rw[HD.out];simp[show ¬0≤card by omega]);have p1:(card<0)=True:=az h
 case' inr.inr.inr.inr.inr.inr.inl=>
  have HF:Hid (mb=false):=aa (by rw[HD.out];simp[show ¬card≤2 by omega]);have p1:(card<0)=False:=bL (by omega);have p2:(2<card)=True:=az h
 case' inr.inr.inr.inr.inr.inr.inr.inl=>
  have HF:Hid (mb=false):=aa (by rw[HD.out];simp[show ¬ni=0 by omega]);have p1:((0:Int)<(ni:Int))=True:=az (by omega);have p2:(0<ni)=True:=az h
 case' inr.inr.inr.inr.inr.inr.inr.inr.inl=>
  obtain rfl:=HE2.out rfl;have HF:Hid (mb=bl):=aa (by rw[HD.out];simp)
 case' inr.inr.inr.inr.inr.inr.inr.inr.inr=>
  have HF:Hid (mb=(bl&&bi)):=aa (by rw[HD.out];simp[show 0≤card by omega,h2,show ¬card=0 by omega]);have p1:(card<0)=False:=bL (by omega);have p2:(2<card)=False:=bL (by omega);have p3:(card==0)=false:=by rw[bK];omega
 all_goals
  clear HD Sq HE2
  try clear h
  try clear h2
  try cases bl
 all_goals (try cases bi)
 all_goals
  go_enter func58,ntmps58;go_wp2_with (first|(go_at_call 59;(with_reducible refine(HO.out _ (bZ.out _)).mono ?_);rintro e w2 ⟨rfl,aM⟩;have c4:w2.cell? ⟨w.heap.size,4,none⟩=some (.slice ai _ ci):=(aM.cell (p:=⟨w.heap.size,4,none⟩) (by simp)).trans (by rw[zS _ _ _ _ rfl];rfl);have bD:=aa ((bZ.out _).trans (aM.mono (bZ.out _).size));clear aM)|(go_at_call 59;(with_reducible refine(HI.out _ bD.out).mono ?_);rintro e w3 ⟨rfl,cr⟩;have iR:=aa (bD.out.trans (cr.mono bD.out.size));clear cr));go_ret;exact⟨ah (by rw[HF.out];try rfl),by first|exact iR.out|exact bD.out|exact bZ.out _⟩
