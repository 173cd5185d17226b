import Derived.Test.YtcdoilkjmjbgmaaGreatDoorW11
/- Part of the proof of YtcdoilkjmjbgmaaGreatDoorCardX: TrO TrQ TrXa TgP. -/
set_option maxRecDepth 100000
set_option maxHeartbeats 4000000
set_option linter.unusedVariables false
set_option linter.unusedSimpArgs false
namespace Go.Proofs.YtcdoilkjmjbgmaaGreatDoor
open Go.RowKit
open Go.Proofs.Tryz
variable {T:Nat→World→Prop} {b nl cl ni ci:Nat} {w:World} {al ai:Option Addr} {ls inc:List ByteArray} {v:Value} {ms:List PM}
theorem bU (s:ByteArray):s.toList=s.data.toList:=nW s
theorem jn (x:ByteArray):dy x=decide (x.toList=[]):=by
 unfold dy;rw[bU];cases x.data.toList<;>simp
theorem wA (off tim u:ByteArray) (hu:iL off=u):iG off tim=((decide (u.toList=[])||fx u)&&(decide (tim.toList=[])||nf [115,116,97,114,116] tim||nf [101,110,100] tim||((fw tim:Nat):Int)==3)):=by
 unfold iG;rw[hu,jn,jn]
 congr 2
 rw[eE];simp;omega
theorem pv (s:ByteArray) (h: ¬(1<s.size∧(an s.data.toList 0).toNat=45)):iL s=s:=by unfold iL;rw[af h]
theorem wB (s:ByteArray) (h:0<s.size):an s.data.toList 0=s[0]:=by
 have h2:0<s.data.toList.length:=by rw[ab];exact h
 rw[←gl s 0 h2];unfold an;rw[lf,lB h2];rfl
theorem fS (l:List UInt8):l.isEmpty=decide (l=[]):=by cases l<;>simp
theorem KC (hT:pT (fun _=>True) T) (w:World) (off tim:ByteArray) (ho:off.size≤1048576) (ht:tim.size≤1048576) (kD:T w.heap.size w) (h1:1<off.size) (h2:(off[0]).toNat=45):
  Calls prog 81 #[.agg #[.string off,.string tim]] w (aC w (iG off tim)):=by
 have la: ∀x W,x.size≤1048576→Below w.heap.size w W→Calls prog 85 #[.string x] W (aC W (fx x)):=fun x W hx hb=>gD hT W x hx (hT.mono (hT.fN kD hb) hb.size)
 have HK:Hid (∀W,Below w.heap.size w W→Calls prog 101 #[.string tim] W (ko W (fw tim))):=aa fun W hb=>kd hT W tim ht (hT.mono (hT.fN kD hb) hb.size)
 have aU:Below w.heap.size w (w.alloc (.cells #[.string off,.string tim] 41)):=(aS _ w).alloc (aP _) _;have bZ:=aa aU;have hu:iL off=off.extract 1 off.size:=by unfold iL;rw[ar ⟨h1,by rw[wB off (by omega)];exact h2⟩]
 have t1:((1:Int)<(off.size:Int))=True:=az (by omega);have t2:((off[0].toNat:Int)==45)=true:=by rw[cn];omega
 have h3:(off.extract 1 off.size).size≤1048576:=by simp;omega
 have HW:=aa (wA off tim _ hu);have H3:=aa h3;have e1:(tim.toList==[115,116,97,114,116])=nf [115,116,97,114,116] tim:=by rw[bU];rfl
 have e2:(tim.toList==[101,110,100])=nf [101,110,100] tim:=by rw[bU];rfl
 have HO:Hid (∀W,Below w.heap.size w W→Calls prog 85 #[.string (off.extract 1 off.size)] W (aC W (fx (off.extract 1 off.size)))):=aa fun W hb=>la _ W h3 hb
 clear kD aU hu h3 la;generalize fx (off.extract 1 off.size)=bd at HO HW;have hue:((off.extract 1 off.size).toList=[]∧(off.extract 1 off.size).toList.isEmpty=true)∨(((off.extract 1 off.size).toList=[])=False∧(off.extract 1 off.size).toList.isEmpty=false):=by cases (off.extract 1 off.size).toList<;>simp
 rcases hue with⟨u1,u2⟩|⟨u1,u2⟩<;>cases bd
 all_goals
  go_enter func81,ntmps81;go_wp2_with (first|(go_at_call 85;(with_reducible refine(HO.out _ bZ.out).mono ?_);rintro e w2 ⟨rfl,aM⟩;have c1:w2.cell? ⟨w.heap.size,1,none⟩=some (.string tim):=(aM.cell (p:=⟨w.heap.size,1,none⟩) (by simp)).trans (by rw[zS _ _ _ _ rfl];rfl);have bD:=aa (bZ.out.trans (aM.mono bZ.out.size));clear aM)|(go_at_call 101;(with_reducible refine(HK.out _ (by first|exact bD.out|exact bZ.out)).mono ?_);rintro e w3 ⟨rfl,cr⟩;have iR:=aa ((by first|exact bD.out|exact bZ.out:Below w.heap.size w _).trans (cr.mono (by first|exact bD.out.size|exact bZ.out.size)));clear cr))
  all_goals
   go_ret;exact⟨ah (by rw[HW.out];simp[fS, *]),by first|exact iR.out|exact bD.out|exact bZ.out⟩
theorem KD (hT:pT (fun _=>True) T) (w:World) (off tim:ByteArray) (ho:off.size≤1048576) (ht:tim.size≤1048576) (kD:T w.heap.size w) (h1:1<off.size) (h2: ¬(off[0]).toNat=45):
  Calls prog 81 #[.agg #[.string off,.string tim]] w (aC w (iG off tim)):=by
 have la: ∀x W,x.size≤1048576→Below w.heap.size w W→Calls prog 85 #[.string x] W (aC W (fx x)):=fun x W hx hb=>gD hT W x hx (hT.mono (hT.fN kD hb) hb.size)
 have HK:Hid (∀W,Below w.heap.size w W→Calls prog 101 #[.string tim] W (ko W (fw tim))):=aa fun W hb=>kd hT W tim ht (hT.mono (hT.fN kD hb) hb.size)
 have aU:Below w.heap.size w (w.alloc (.cells #[.string off,.string tim] 41)):=(aS _ w).alloc (aP _) _;have bZ:=aa aU;have hu:iL off=off:=pv off fun h=>h2 (by rw[←wB off (by omega)];exact h.2)
 have t1:((1:Int)<(off.size:Int))=True:=az (by omega);have t2:((off[0].toNat:Int)==45)=false:=by rw[bK];omega
 have h3:off.size≤1048576:=ho;have HW:=aa (wA off tim _ hu);have H3:=aa h3;have e1:(tim.toList==[115,116,97,114,116])=nf [115,116,97,114,116] tim:=by rw[bU];rfl
 have e2:(tim.toList==[101,110,100])=nf [101,110,100] tim:=by rw[bU];rfl
 have HO:Hid (∀W,Below w.heap.size w W→Calls prog 85 #[.string off] W (aC W (fx off))):=aa fun W hb=>la _ W h3 hb
 clear kD aU hu h3 la;generalize fx off=bd at HO HW;have hue:(off.toList=[]∧off.toList.isEmpty=true)∨((off.toList=[])=False∧off.toList.isEmpty=false):=by cases off.toList<;>simp
 rcases hue with⟨u1,u2⟩|⟨u1,u2⟩<;>cases bd
 all_goals
  go_enter func81,ntmps81;go_wp2_with (first|(go_at_call 85;(with_reducible refine(HO.out _ bZ.out).mono ?_);rintro e w2 ⟨rfl,aM⟩;have c1:w2.cell? ⟨w.heap.size,1,none⟩=some (.string tim):=(aM.cell (p:=⟨w.heap.size,1,none⟩) (by simp)).trans (by rw[zS _ _ _ _ rfl];rfl);have bD:=aa (bZ.out.trans (aM.mono bZ.out.size));clear aM)|(go_at_call 101;(with_reducible refine(HK.out _ (by first|exact bD.out|exact bZ.out)).mono ?_);rintro e w3 ⟨rfl,cr⟩;have iR:=aa ((by first|exact bD.out|exact bZ.out:Below w.heap.size w _).trans (cr.mono (by first|exact bD.out.size|exact bZ.out.size)));clear cr))
  all_goals
   go_ret;exact⟨ah (by rw[HW.out];simp[fS, *]),by first|exact iR.out|exact bD.out|exact bZ.out⟩
theorem KE (hT:pT (fun _=>True) T) (w:World) (off tim:ByteArray) (ho:off.size≤1048576) (ht:tim.size≤1048576) (kD:T w.heap.size w) (h1: ¬1<off.size):
  Calls prog 81 #[.agg #[.string off,.string tim]] w (aC w (iG off tim)):=by
 have la: ∀x W,x.size≤1048576→Below w.heap.size w W→Calls prog 85 #[.string x] W (aC W (fx x)):=fun x W hx hb=>gD hT W x hx (hT.mono (hT.fN kD hb) hb.size)
 have HK:Hid (∀W,Below w.heap.size w W→Calls prog 101 #[.string tim] W (ko W (fw tim))):=aa fun W hb=>kd hT W tim ht (hT.mono (hT.fN kD hb) hb.size)
 have aU:Below w.heap.size w (w.alloc (.cells #[.string off,.string tim] 41)):=(aS _ w).alloc (aP _) _;have bZ:=aa aU;have hu:iL off=off:=pv off fun h=>h1 h.1
 have t1:((1:Int)<(off.size:Int))=False:=bL (by omega);have h3:off.size≤1048576:=ho;have HW:=aa (wA off tim _ hu);have H3:=aa h3;have e1:(tim.toList==[115,116,97,114,116])=nf [115,116,97,114,116] tim:=by rw[bU];rfl
 have e2:(tim.toList==[101,110,100])=nf [101,110,100] tim:=by rw[bU];rfl
 have HO:Hid (∀W,Below w.heap.size w W→Calls prog 85 #[.string off] W (aC W (fx off))):=aa fun W hb=>la _ W h3 hb
 clear kD aU hu h3 la;generalize fx off=bd at HO HW;have hue:(off.toList=[]∧off.toList.isEmpty=true)∨((off.toList=[])=False∧off.toList.isEmpty=false):=by cases off.toList<;>simp
 rcases hue with⟨u1,u2⟩|⟨u1,u2⟩<;>cases bd
 all_goals
  go_enter func81,ntmps81;go_wp2_with (first|(go_at_call 85;(with_reducible refine(HO.out _ bZ.out).mono ?_);rintro e w2 ⟨rfl,aM⟩;have c1:w2.cell? ⟨w.heap.size,1,none⟩=some (.string tim):=(aM.cell (p:=⟨w.heap.size,1,none⟩) (by simp)).trans (by rw[zS _ _ _ _ rfl];rfl);have bD:=aa (bZ.out.trans (aM.mono bZ.out.size));clear aM)|(go_at_call 101;(with_reducible refine(HK.out _ (by first|exact bD.out|exact bZ.out)).mono ?_);rintro e w3 ⟨rfl,cr⟩;have iR:=aa ((by first|exact bD.out|exact bZ.out:Below w.heap.size w _).trans (cr.mono (by first|exact bD.out.size|exact bZ.out.size)));clear cr))
  all_goals
   go_ret;exact⟨ah (by rw[HW.out];simp[fS, *]),by first|exact iR.out|exact bD.out|exact bZ.out⟩
theorem sd (hT:pT (fun _=>True) T) (w:World) (off tim:ByteArray) (ho:off.size≤1048576) (ht:tim.size≤1048576) (kD:T w.heap.size w):
  Calls prog 81 #[.agg #[.string off,.string tim]] w (aC w (iG off tim)):=by
 by_cases h1:1<off.size
 ·by_cases h2:(off[0]).toNat=45
  ·exact KC hT w off tim ho ht kD h1 h2
  ·exact KD hT w off tim ho ht kD h1 h2
 ·exact KE hT w off tim ho ht kD h1
theorem qA (w:World) (k n:Int):Calls prog 76 #[.int .i64 k,.int .i64 n] w fun e w'=>e= .returned (.bool (de k n))∧w=w':=by
 go_enter func76,ntmps76;go_wp2_with fail
 all_goals
  go_ret;exact⟨ah (by unfold de;rw[eE];simp_all<;>omega),rfl⟩
theorem D2 (w:World) (s:ByteArray):Calls prog 86 #[.string s] w fun e w'=>e= .returned (.bool (mH.contains s.data.toList))∧w=w':=by
 have HS:=aa (bU s);go_enter func86,ntmps86;go_wp2_with fail
 all_goals
  go_ret;exact⟨ah (by rw[←HS.out];unfold mH;simp_all),rfl⟩
theorem yl (w:World) (s:ByteArray):Calls prog 88 #[.string s] w fun e w'=>e= .returned (.bool (mI.contains s.data.toList))∧w=w':=by
 have HS:=aa (bU s);go_enter func88,ntmps88;go_wp2_with fail
 all_goals
  go_ret;exact⟨ah (by rw[←HS.out];unfold mI;simp_all),rfl⟩
def iY (gi on:Bool) (ls:List ByteArray) (card:Int) (inc:List ByteArray):Bool:=
 if gi=false then !on&&ls.isEmpty&&decide (card=0)&&inc.isEmpty
 else decide (0≤card)&&decide (card≤2)&& !(decide (card=0)&& !inc.isEmpty)&&bG ls&&bG inc
theorem nR {α:Type} (l:List α):l.isEmpty=decide (l.length=0):=by cases l<;>simp
theorem uT (gi on:Bool) (card:Int) (ho:cL b w (.slice al nl cl) ls) (hi:cL b w (.slice ai ni ci) inc) (hn:ls.length≤1048576) (xf:inc.length≤1048576) (hs: ∀s∈ls,s.size≤1048576) (uV: ∀s∈inc,s.size≤1048576):
  Calls prog 87 #[.agg #[.bool gi,.bool on,.slice al nl cl,.int .i64 card,.slice ai ni ci]] w (aC w (iY gi on ls card inc)):=by
 obtain rfl:nl=ls.length:=by obtain⟨_,_,h,_⟩:=ho;injection h
 obtain rfl:ni=inc.length:=by obtain⟨_,_,h,_⟩:=hi;injection h
 have HO:Hid (∀W,Below w.heap.size w W→Calls prog 89 #[.slice al ls.length cl] W (aC W (bG ls))):=aa fun W hb=>ly (ho.below hb) hn hs
 have HI:Hid (∀W,Below w.heap.size w W→Calls prog 89 #[.slice ai inc.length ci] W (aC W (bG inc))):=aa fun W hb=>ly (hi.below hb) xf uV
 have bZ:Hid (∀cs,Below w.heap.size w (w.alloc (.cells cs 44))):=aa fun cs=>(aS _ w).alloc (aP _) _
 have HD:Hid (iY gi on ls card inc=if gi=false then !on&&decide (ls.length=0)&&decide (card=0)&&decide (inc.length=0)else decide (0≤card)&&decide (card≤2)&& !(decide (card=0)&& !decide (inc.length=0))&&bG ls&&bG inc):=aa (by unfold iY;rw[nR,nR]);clear ho hi;generalize iY gi on ls card inc=mb at HD ⊢
 generalize bG ls=bl at HO HD;generalize bG inc=bi at HI HD;generalize ls.length=nl at*
 generalize inc.length=ni at*
 cases gi
 ·go_enter func87,ntmps87;go_wp2_with fail
  all_goals
   go_ret;exact⟨ah (by rw[HD.out,eE];simp_all<;>omega),bZ.out _⟩
 ·cases bl
  all_goals
   go_enter func87,ntmps87;go_wp2_with (first|(go_at_call 89;(with_reducible refine(HO.out _ (bZ.out _)).mono ?_);rintro e w2 ⟨rfl,aM⟩;have c4:w2.cell? ⟨w.heap.size,4,none⟩=some (.slice ai ni ci):=(aM.cell (p:=⟨w.heap.size,4,none⟩) (by simp)).trans (by rw[zS _ _ _ _ rfl];rfl);have bD:=aa ((bZ.out _).trans (aM.mono (bZ.out _).size));clear aM)|(go_at_call 89;(with_reducible refine(HI.out _ bD.out).mono ?_);rintro e w3 ⟨rfl,cr⟩;have iR:=aa (bD.out.trans (cr.mono bD.out.size));clear cr))
   all_goals
    go_ret;exact⟨ah (by rw[HD.out,eE];simp_all<;>omega),by first|exact iR.out|exact bD.out|exact bZ.out _⟩
theorem KF (w:World) (m:PM) (hn:m.name.size≤1048576) (hv:m.value.size≤1048576):
  Calls prog 83 #[.agg #[.string m.name,.int .i64 m.op,.string m.value]] w (aC w (!cF m)):=by
 have HC:=aa fun(W:World)=>w8 W m hn hv
 have bZ:=aa fun X=>(aS _ w).alloc (aP _) X
 generalize cF m=b at HC ⊢
 go_enter func83,ntmps83;go_wp2_with fail;refine(HC _).mono ?_;rintro e w2 ⟨rfl,hb⟩;have bD:=aa ((bZ _).trans (hb.mono (bZ _).size));clear hb;go_wp2_with fail;go_ret;exact⟨rfl,bD⟩
theorem index_none (a:Option Addr) (c:Nat) (fv:Value) (w:World):Calls prog 104 #[.slice a 0 c,fv] w fun e w'=>e= .returned (.int .i64 (-1))∧w=w':=by
 go_enter func104,ntmps104;go_wp2_with fail;go_loopw [8] (fun t wr=>t= .int .i64 0∧wr=w) (fun _ _=>0)
 case atStart=>exact⟨rfl,rfl⟩
 case round=>
  obtain⟨rfl,rfl⟩:=hrel;go_wp2_with fail;go_ret;exact⟨rfl,rfl⟩
theorem tU (a:Option Addr) (c:Nat) (fv:Value) (w:World):Calls prog 82 #[.slice a 0 c,fv] w (aC w false):=by
 go_enter func82,ntmps82;go_wp2_with fail;refine(index_none a c fv _).mono ?_;rintro e w' ⟨rfl,rfl⟩;go_wp2_with fail;go_ret;exact⟨rfl,aS _ _⟩
def smC (x:SmM):List Value:=[.string x.m.name,.int .i64 x.m.op,.string x.m.value]
theorem Hf (h:fU b w v ms) (hn:ms.length≤1048576) (hs: ∀m∈ms,m.name.size≤1048576∧m.value.size≤1048576):
  Calls prog 82 #[v,.func (.func 83) #[] #[]] w (aC w (!ms.all cF)):=by
 obtain⟨ao,c,rfl,hc⟩:=h;obtain⟨zs,rfl⟩:=YT ms hs;have abr:(!(zs.map (·.m)).all cF)=zs.any fun x=> !cF x.m:=by
  rw[List.all_map,List.any_eq_not_all_not];simp[IM]
 rw[abr];cases ao with
 |none=>
  have h0:zs=[]:=by
   cases zs with
   |nil=>rfl
   |cons m ms=>obtain⟨g,o,h,_⟩:=hc 0 (by simp);cases h
  subst h0;exact tU none c _ w
 |some a=>
  rcases jK zs.length with h0|h0
  ·have h1:zs=[]:=pH.1 h0;subst h1;exact tU (some a) c _ w
  ·obtain⟨g,o,he,_,au,_⟩:=hc 0 (by simpa using h0);obtain rfl:a=⟨g,o,none⟩:=yE he;rw[kG]at hn ⊢
   refine(AnyQ.slices_ContainsFunc (α:=SmM) Tryz.QO 3 Tryz.isAgg65 Tryz.sizeOf65 smC (fun _=>rfl) (fun x=> !cF x.m) 83 #[] (enters_of func83 (by kernel_rfl) rfl) g o zs.length c zs w ?_ (aP _) (by omega) au ?_).mono ?_
   ·intro W x hb;exact(KF W x.m x.h.1 x.h.2).mono fun _ _ h=>⟨h.1,hb.trans (h.2.mono hb.size)⟩
   ·intro j hj i v hi;obtain⟨g',o',he,_,_,x,y,z⟩:=hc j (by simpa using hj);cases he;rw[getElem!_pos zs j hj]at hi;rw[List.getElem_map]at x y z
    match i,hi with
    |0,hi=>injection hi with hi;subst hi;exact x
    |1,hi=>injection hi with hi;subst hi;exact y
    |2,hi=>injection hi with hi;subst hi;exact z
   ·rintro e w' ⟨rfl,hb⟩;exact⟨by rw[rh],hb⟩
end Go.Proofs.YtcdoilkjmjbgmaaGreatDoor
namespace Go.Proofs.YtcdoilkjmjbgmaaGreatDoor
variable {rs:List PR}
theorem ir (h:dz rs=true):trees 1 rs=true∧rs.all ax=true∧cZ rs=true:=by
 unfold dz at h;simp only[kF]at h;exact⟨h.1.1,h.1.2,h.2⟩
theorem mR:cx rs=0↔dz rs=true∧iM rs≤128:=by
 unfold cx;by_cases h:dz rs=true
 ·rw[ar h];by_cases k:128<iM rs
  ·rw[ar k];simp[h];omega
  ·rw[af k];simp[h];omega
 ·rw[af h];simp[h]
theorem CD (h:dz rs=true) (k:128<iM rs):cx rs=3:=by
 unfold cx;rw[ar h,ar k]
def Gj:PR:=⟨7,2,⟨#[43]⟩,⟨#[]⟩,[],⟨#[]⟩,⟨#[]⟩,⟨#[]⟩,⟨#[]⟩,false,false,false,[],0,[],false,[]⟩
def Gk:PR:=⟨1,0,⟨#[]⟩,⟨#[49]⟩,[],⟨#[]⟩,⟨#[]⟩,⟨#[]⟩,⟨#[]⟩,false,false,false,[],0,[],false,[]⟩
def Gl:PR:=⟨3,0,⟨#[]⟩,⟨#[117,112]⟩,[],⟨#[]⟩,⟨#[]⟩,⟨#[]⟩,⟨#[]⟩,false,false,false,[],0,[],false,[]⟩
def xH:List PR:=[Gj,Gk,Gl]
theorem jo:cx xH=0:=by decide+kernel
theorem Nn:iM xH=2:=by decide+kernel
