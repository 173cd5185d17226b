import Derived.Test.YtcdoilkjmjbgmaaGreatDoorS33
import Derived.Test.YtcdoilkjmjbgmaaGreatDoorS12
/- Part of the proof of YtcdoilkjmjbgmaaGreatDoorCardY: TvC TvE. -/
set_option maxRecDepth 100000
set_option maxHeartbeats 4000000
set_option linter.unusedVariables false
set_option linter.unusedSimpArgs false
namespace Go.Proofs.YtcdoilkjmjbgmaaGreatDoor
open Go.RowKit
open Go.Proofs.Tryz
variable {x:ByteArray} {b nl cl ni ci:Nat} {w:World} {al ai:Option Addr} {ls inc:List ByteArray}
theorem Ky:fz ⟨#[45]⟩=false:=by decide+kernel
theorem Ma (x:ByteArray):(x.toList=[]∧x.toList.isEmpty=true)∨((x.toList=[])=False∧x.toList.isEmpty=false):=by cases x.toList<;>simp
theorem T6 (h:x.size=0):x.toList=[]∧x.toList.isEmpty=true:=by
 have:x.data.toList.length=0:=by rw[af];exact h
 rw[nM,o6.1 this];exact⟨rfl,rfl⟩
theorem Mc (h:0<x.size):(x.toList=[])=False∧x.toList.isEmpty=false:=by
 rcases Ma x with⟨h1,_⟩|h1
 ·have:=af x;rw[nM]at h1;rw[h1]at this;simp at this;omega
 ·exact h1
theorem Rf (off:ByteArray):(off.size=0∧iC off=off)∨(∃h:0<off.size,off[0].toNat≠45∧iC off=off)∨(∃h:0<off.size,off[0].toNat=45∧off.size=1∧fz (iC off)=false∧0<(iC off).size)∨(∃h:0<off.size,off[0].toNat=45∧1<off.size∧iC off=off.extract 1 off.size):=by
 rcases jL off.size with h0|h0
 ·exact .inl ⟨h0,oR off fun h=>by omega⟩
 ·by_cases h2:off[0].toNat=45
  ·by_cases h1:1<off.size
   ·exact .inr (.inr (.inr ⟨h0,h2,h1,by unfold iC;rw[az ⟨h1,by rw[wm off h0];exact h2⟩]⟩))
   ·have hu:iC off=off:=oR off fun h=>h1 h.1
    have ho:off=⟨#[45]⟩:=by
     have hl:off.data.toList.length=1:=by rw[af];omega
     obtain⟨c,hc⟩: ∃c,off.data.toList=[c]:=by
      cases hd:off.data.toList with
      |nil=>rw[hd]at hl;cases hl
      |cons c r=>cases r with
       |nil=>exact⟨c,rfl⟩
       |cons d r=>rw[hd]at hl;simp at hl
     have h3:off[0]=c:=head_eq hc h0;rw[h3]at h2;rw[←mk_data off,hc,cJ (n:=45) (by omega) h2];rfl
    exact .inr (.inr (.inl ⟨h0,h2,by omega,by rw[hu,ho];exact Ky,by rw[hu];exact h0⟩))
  ·exact .inr (.inl ⟨h0,h2,oR off fun h=>h2 (by rw[←wm off h0];exact h.2)⟩)
theorem JG (w:World) (off tim:ByteArray) (ho:off.size≤1048576) (ht:tim.size≤1048576):
  Calls prog 55 #[.agg #[.string off,.string tim]] w (aF w (ix off tim)):=by
 have HDU:Hid (∀W x,x.size≤1048576→Calls prog 56 #[.string x] W (aF W (fz x))):=ae fun W x hx=>lU W x hx
 have HK:Hid (∀W,Calls prog 52 #[.string tim] W (kt W (fy tim))):=ae fun W=>oU W tim ht
 have cF:Hid (Below w.heap.size w (w.alloc (.cells #[.string off,.string tim] 41))):=ae ((aU _ w).alloc (aS _) _);have HW:=ae (wj off tim _ rfl);have e1:(tim.toList==[115,116,97,114,116])=mV [115,116,97,114,116] tim:=by rw[bY];rfl
 have e2:(tim.toList==[101,110,100])=mV [101,110,100] tim:=by rw[bY];rfl
 have HX:Hid ((off.extract 1 off.size).size≤1048576):=ae (by simp;omega);rcases Rf off with⟨h0,hu⟩|⟨h0,h2,hu⟩|⟨h0,h2,h1,hd,hp⟩|⟨h0,h2,h1,hu⟩
 case' inl=>
  have t1:((0:Int)<(off.size:Int))=False:=bT (by omega);obtain⟨u1,u2⟩:=T6 h0;rw[hu]at HW
 case' inr.inl=>
  have t1:((0:Int)<(off.size:Int))=True:=aD (by omega);have t2:((off[0].toNat:Int)==45)=false:=bN.2 (by omega);obtain⟨u1,u2⟩:=Mc h0;rw[hu]at HW
 case' inr.inr.inl=>
  have t1:((0:Int)<(off.size:Int))=True:=aD (by omega);have t2:((off[0].toNat:Int)==45)=true:=cx.2 (by omega);obtain⟨u1,u2⟩:=T6 (x:=off.extract 1 off.size) (by simp;omega);have HF:Hid (ix off tim=false):=ae (by rw[HW.out,hd,gj (of_eq_false (Mc hp).1)];rfl);clear hd hp
 case' inr.inr.inr=>
  have t1:((0:Int)<(off.size:Int))=True:=aD (by omega);have t2:((off[0].toNat:Int)==45)=true:=cx.2 (by omega);obtain⟨u1,u2⟩:=Mc (x:=off.extract 1 off.size) (by simp;omega);rw[hu]at HW
 all_goals (try clear hu)
 all_goals
  obtain⟨bo,H6⟩: ∃b,b=fz off:=⟨_,rfl⟩;obtain⟨bx,Lj⟩: ∃b,b=fz (off.extract 1 off.size):=⟨_,rfl⟩;have HDO:Hid (∀W,Calls prog 56 #[.string off] W (aF W bo)):=ae fun W=>by rw[H6];exact HDU.out W off ho
  have HDX:Hid (∀W,Calls prog 56 #[.string (off.extract 1 off.size)] W (aF W bx)):=ae fun W=>by rw[Lj];exact HDU.out W _ HX.out
  try simp only[←H6,←Lj]at HW
  clear H6 Lj;cases bo<;>cases bx
 all_goals
  go_enter func55,ntmps55;go_wp2_with (first|(go_at_call 56;(first|(with_reducible refine(HDO.out _).mono ?_)|(with_reducible refine(HDX.out _).mono ?_));rintro e w2 ⟨rfl,aQ⟩;have c1:w2.cell? ⟨w.heap.size,1,none⟩=some (.string tim):=(aQ.cell (p:=⟨w.heap.size,1,none⟩) (by simp)).trans (by rw[xf _ _ _ _ rfl];rfl);have bF:=ae (cF.out.trans (aQ.mono cF.out.size));clear aQ)|(go_at_call 52;(with_reducible refine(HK.out _).mono ?_);rintro e w3 ⟨rfl,cu⟩;have fZ:=ae ((by first|exact bF.out|exact cF.out:Below w.heap.size w _).trans (cu.mono (by first|exact bF.out.size|exact cF.out.size)));clear cu))
  all_goals
   go_ret;exact⟨ar (by first|(rw[HF.out];done)|(rw[HF.out];rfl)|(rw[HW.out];simp[fU, *])),by first|exact fZ.out|exact bF.out|exact cF.out⟩
theorem G8 (gi on:Bool) (card:Int) (ho:cO b w (.slice al nl cl) ls) (hi:cO b w (.slice ai ni ci) inc) (hn:ls.length≤1048576) (xd:inc.length≤1048576) (hs: ∀s∈ls,s.size≤1048576) (uP: ∀s∈inc,s.size≤1048576):
  Calls prog 58 #[.agg #[.bool gi,.bool on,.slice al nl cl,.int .i64 card,.slice ai ni ci]] w (aF w (iP gi on ls card inc)):=by
 obtain rfl:nl=ls.length:=by obtain⟨_,_,h,_⟩:=ho;injection h
 obtain rfl:ni=inc.length:=by obtain⟨_,_,h,_⟩:=hi;injection h
 have HO:Hid (∀W,Below w.heap.size w W→Calls prog 59 #[.slice al ls.length cl] W (aF W (bH ls))):=ae fun W hb=>uF (ho.below hb) hn hs
 have HI:Hid (∀W,Below w.heap.size w W→Calls prog 59 #[.slice ai inc.length ci] W (aF W (bH inc))):=ae fun W hb=>uF (hi.below hb) xd uP
 have cF:Hid (∀cs,Below w.heap.size w (w.alloc (.cells cs 44))):=ae fun cs=>(aU _ w).alloc (aS _) _
 have HD:Hid (iP gi on ls card inc=if gi=false then !on&&decide (ls.length=0)&&decide (card=0)&&decide (inc.length=0)else decide (0≤card)&&decide (card≤2)&& !(decide (card=0)&& !decide (inc.length=0))&&bH ls&&bH inc):=ae (by unfold iP;rw[nH,nH]);have R1:Hid (ls.length=0→bH ls=true):=ae fun h=>by rw[o6.1 h];rfl
 have HE2:Hid (inc.length=0→bH inc=true):=ae fun h=>by rw[o6.1 h];rfl
 clear ho hi;generalize iP gi on ls card inc=mb at HD ⊢
 generalize bH ls=bl at HO HD R1;generalize bH inc=bi at HI HD HE2;generalize ls.length=nl at*
 generalize inc.length=ni at*
 have hw:(gi=false∧on=true)∨(gi=false∧on=false∧0<nl)∨(gi=false∧on=false∧nl=0∧card≠0)∨(gi=false∧on=false∧nl=0∧card=0∧0<ni)∨(gi=false∧on=false∧nl=0∧card=0∧ni=0)∨(gi=true∧card<0)∨(gi=true∧2<card)∨(gi=true∧card=0∧0<ni)∨(gi=true∧card=0∧ni=0)∨(gi=true∧0<card∧card≤2):=by
  cases gi<;>cases on<;>simp<;>omega
 rcases hw with⟨rfl,rfl⟩|⟨rfl,rfl,h⟩|⟨rfl,rfl,rfl,h⟩|⟨rfl,rfl,rfl,rfl,h⟩|⟨rfl,rfl,rfl,rfl,rfl⟩|⟨rfl,h⟩|⟨rfl,h⟩|⟨rfl,rfl,h⟩|⟨rfl,rfl,rfl⟩|⟨rfl,h,h2⟩
 case' inl=>have HF:Hid (mb=false):=ae (by rw[HD.out];rfl)
 case' inr.inl=>
  have HF:Hid (mb=false):=ae (by rw[HD.out];simp[show ¬nl=0 by omega]);have p1:((0:Int)<(nl:Int))=True:=aD (by omega);have p2:(0<nl)=True:=aD h
 case' inr.inr.inl=>
  have HF:Hid (mb=false):=ae (by rw[HD.out];simp[h]);have p1:(card==0)=false:=bN.2 h;have p2:(card != 0)=true:=by rw[bne,p1];rfl
 case' inr.inr.inr.inl=>
  have HF:Hid (mb=false):=ae (by rw[HD.out];simp[show ¬ni=0 by omega]);have p1:((0:Int)<(ni:Int))=True:=aD (by omega);have p2:(0<ni)=True:=aD h
 case' inr.inr.inr.inr.inl=>
  obtain rfl:=R1.out rfl;obtain rfl:=HE2.out rfl;have HF:Hid (mb=true):=ae (by rw[HD.out];rfl)
 case' inr.inr.inr.inr.inr.inl=>
  have HF:Hid (mb=false):=ae (by rw[HD.out];simp[show ¬0≤card by omega]);have p1:(card<0)=True:=aD h
 case' inr.inr.inr.inr.inr.inr.inl=>
  have HF:Hid (mb=false):=ae (by rw[HD.out];simp[show ¬card≤2 by omega]);have p1:(card<0)=False:=bT (by omega);have p2:(2<card)=True:=aD h
 case' inr.inr.inr.inr.inr.inr.inr.inl=>
  have HF:Hid (mb=false):=ae (by rw[HD.out];simp[show ¬ni=0 by omega]);have p1:((0:Int)<(ni:Int))=True:=aD (by omega);have p2:(0<ni)=True:=aD h
 case' inr.inr.inr.inr.inr.inr.inr.inr.inl=>
  obtain rfl:=HE2.out rfl;have HF:Hid (mb=bl):=ae (by rw[HD.out];simp)
 case' inr.inr.inr.inr.inr.inr.inr.inr.inr=>
  have HF:Hid (mb=(bl&&bi)):=ae (by rw[HD.out];simp[show 0≤card by omega,h2,show ¬card=0 by omega]);have p1:(card<0)=False:=bT (by omega);have p2:(2<card)=False:=bT (by omega);have p3:(card==0)=false:=by rw[bN];omega
 all_goals
  clear HD R1 HE2
  try clear h
  try clear h2
  try cases bl
 all_goals (try cases bi)
 all_goals
  go_enter func58,ntmps58;go_wp2_with (first|(go_at_call 59;(with_reducible refine(HO.out _ (cF.out _)).mono ?_);rintro e w2 ⟨rfl,aQ⟩;have c4:w2.cell? ⟨w.heap.size,4,none⟩=some (.slice ai _ ci):=(aQ.cell (p:=⟨w.heap.size,4,none⟩) (by simp)).trans (by rw[xf _ _ _ _ rfl];rfl);have bF:=ae ((cF.out _).trans (aQ.mono (cF.out _).size));clear aQ)|(go_at_call 59;(with_reducible refine(HI.out _ bF.out).mono ?_);rintro e w3 ⟨rfl,cu⟩;have fZ:=ae (bF.out.trans (cu.mono bF.out.size));clear cu));go_ret;exact⟨ar (by rw[HF.out];try rfl),by first|exact fZ.out|exact bF.out|exact cF.out _⟩
