import Derived.Test.YtcdoilkjmjbgmaaGreatDoorR12
/- Part of the proof of YtcdoilkjmjbgmaaGreatDoorCardR: TrO TrQ TrXa TgP. -/
set_option maxRecDepth 100000
set_option maxHeartbeats 4000000
set_option linter.unusedVariables false
set_option linter.unusedSimpArgs false
namespace Go.Proofs.YtcdoilkjmjbgmaaGreatDoor
open Go.RowKit
open Tryz
variable {T:Nat→World→Prop} {b nl cl ni ci:Nat} {w:World} {al ai:Option Addr} {ls inc:List ByteArray} {v:Value} {ms:List PM}
theorem cq (s:ByteArray):s.toList=s.data.toList:=nS s
theorem jq (x:ByteArray):dB x=decide (x.toList=[]):=by
 unfold dB;rw[cq];cases x.data.toList<;>simp
theorem wT (off tim u:ByteArray) (hu:iN off=u):iH off tim=((decide (u.toList=[])||fC u)&&(decide (tim.toList=[])||mZ [115,116,97,114,116] tim||mZ [101,110,100] tim||((fB tim:Nat):Int)==3)):=by
 unfold iH;rw[hu,jq,jq]
 congr 2
 rw[eH];simp;omega
theorem o5 (s:ByteArray) (h: ¬(1<s.size∧(aq s.data.toList 0).toNat=45)):iN s=s:=by unfold iN;rw[af h]
theorem wU (s:ByteArray) (h:0<s.size):aq s.data.toList 0=s[0]:=by
 have h2:0<s.data.toList.length:=by rw[ab];exact h
 rw[←gl s 0 h2];unfold aq;rw[lA,eG h2];rfl
theorem gj (l:List UInt8):l.isEmpty=decide (l=[]):=by cases l<;>simp
theorem KW (hT:pK (fun _=>True) T) (w:World) (off tim:ByteArray) (ho:off.size≤1048576) (ht:tim.size≤1048576) (kL:T w.heap.size w) (h1:1<off.size) (h2:(off[0]).toNat=45):
  Calls prog 81 #[.agg #[.string off,.string tim]] w (aG w (iH off tim)):=by
 have ly: ∀x W,x.size≤1048576→Below w.heap.size w W→Calls prog 85 #[.string x] W (aG W (fC x)):=fun x W hx hb=>gJ hT W x hx (hT.mono (hT.fY kL hb) hb.size)
 have HK:Hid (∀W,Below w.heap.size w W→Calls prog 101 #[.string tim] W (fN W (fB tim))):=aa fun W hb=>kj hT W tim ht (hT.mono (hT.fY kL hb) hb.size)
 have aW:Below w.heap.size w (w.alloc (.cells #[.string off,.string tim] 41)):=(aV _ w).alloc (aS _) _;have cn:=aa aW;have hu:iN off=off.extract 1 off.size:=by unfold iN;rw[au ⟨h1,by rw[wU off (by omega)];exact h2⟩]
 have t1:((1:Int)<(off.size:Int))=True:=aA (by omega);have t2:((off[0].toNat:Int)==45)=true:=by rw[cC];omega
 have h3:(off.extract 1 off.size).size≤1048576:=by simp;omega
 have HW:=aa (wT off tim _ hu);have H3:=aa h3;have e1:(tim.toList==[115,116,97,114,116])=mZ [115,116,97,114,116] tim:=by rw[cq];rfl
 have e2:(tim.toList==[101,110,100])=mZ [101,110,100] tim:=by rw[cq];rfl
 have HO:Hid (∀W,Below w.heap.size w W→Calls prog 85 #[.string (off.extract 1 off.size)] W (aG W (fC (off.extract 1 off.size)))):=aa fun W hb=>ly _ W h3 hb
 clear kL aW hu h3 ly;generalize fC (off.extract 1 off.size)=bd at HO HW;have hue:((off.extract 1 off.size).toList=[]∧(off.extract 1 off.size).toList.isEmpty=true)∨(((off.extract 1 off.size).toList=[])=False∧(off.extract 1 off.size).toList.isEmpty=false):=by cases (off.extract 1 off.size).toList<;>simp
 rcases hue with⟨u1,u2⟩|⟨u1,u2⟩<;>cases bd
 all_goals
  go_enter func81,ntmps81;go_wp2_with (first|(go_at_call 85;(with_reducible refine(HO.out _ cn.out).mono ?_);rintro e w2 ⟨rfl,aN⟩;have c1:w2.cell? ⟨w.heap.size,1,none⟩=some (.string tim):=(aN.cell (p:=⟨w.heap.size,1,none⟩) (by simp)).trans (by rw[vC _ _ _ _ rfl];rfl);have bC:=aa (cn.out.trans (aN.mono cn.out.size));clear aN)|(go_at_call 101;(with_reducible refine(HK.out _ (by first|exact bC.out|exact cn.out)).mono ?_);rintro e w3 ⟨rfl,bW⟩;have iF:=aa ((by first|exact bC.out|exact cn.out:Below w.heap.size w _).trans (bW.mono (by first|exact bC.out.size|exact cn.out.size)));clear bW))
  all_goals
   go_ret;exact⟨ah (by rw[HW.out];simp[gj, *]),by first|exact iF.out|exact bC.out|exact cn.out⟩
theorem KX (hT:pK (fun _=>True) T) (w:World) (off tim:ByteArray) (ho:off.size≤1048576) (ht:tim.size≤1048576) (kL:T w.heap.size w) (h1:1<off.size) (h2: ¬(off[0]).toNat=45):
  Calls prog 81 #[.agg #[.string off,.string tim]] w (aG w (iH off tim)):=by
 have ly: ∀x W,x.size≤1048576→Below w.heap.size w W→Calls prog 85 #[.string x] W (aG W (fC x)):=fun x W hx hb=>gJ hT W x hx (hT.mono (hT.fY kL hb) hb.size)
 have HK:Hid (∀W,Below w.heap.size w W→Calls prog 101 #[.string tim] W (fN W (fB tim))):=aa fun W hb=>kj hT W tim ht (hT.mono (hT.fY kL hb) hb.size)
 have aW:Below w.heap.size w (w.alloc (.cells #[.string off,.string tim] 41)):=(aV _ w).alloc (aS _) _;have cn:=aa aW;have hu:iN off=off:=o5 off fun h=>h2 (by rw[←wU off (by omega)];exact h.2)
 have t1:((1:Int)<(off.size:Int))=True:=aA (by omega);have t2:((off[0].toNat:Int)==45)=false:=by rw[bN];omega
 have h3:off.size≤1048576:=ho;have HW:=aa (wT off tim _ hu);have H3:=aa h3;have e1:(tim.toList==[115,116,97,114,116])=mZ [115,116,97,114,116] tim:=by rw[cq];rfl
 have e2:(tim.toList==[101,110,100])=mZ [101,110,100] tim:=by rw[cq];rfl
 have HO:Hid (∀W,Below w.heap.size w W→Calls prog 85 #[.string off] W (aG W (fC off))):=aa fun W hb=>ly _ W h3 hb
 clear kL aW hu h3 ly;generalize fC off=bd at HO HW;have hue:(off.toList=[]∧off.toList.isEmpty=true)∨((off.toList=[])=False∧off.toList.isEmpty=false):=by cases off.toList<;>simp
 rcases hue with⟨u1,u2⟩|⟨u1,u2⟩<;>cases bd
 all_goals
  go_enter func81,ntmps81;go_wp2_with (first|(go_at_call 85;(with_reducible refine(HO.out _ cn.out).mono ?_);rintro e w2 ⟨rfl,aN⟩;have c1:w2.cell? ⟨w.heap.size,1,none⟩=some (.string tim):=(aN.cell (p:=⟨w.heap.size,1,none⟩) (by simp)).trans (by rw[vC _ _ _ _ rfl];rfl);have bC:=aa (cn.out.trans (aN.mono cn.out.size));clear aN)|(go_at_call 101;(with_reducible refine(HK.out _ (by first|exact bC.out|exact cn.out)).mono ?_);rintro e w3 ⟨rfl,bW⟩;have iF:=aa ((by first|exact bC.out|exact cn.out:Below w.heap.size w _).trans (bW.mono (by first|exact bC.out.size|exact cn.out.size)));clear bW))
  all_goals
   go_ret;exact⟨ah (by rw[HW.out];simp[gj, *]),by first|exact iF.out|exact bC.out|exact cn.out⟩
theorem KY (hT:pK (fun _=>True) T) (w:World) (off tim:ByteArray) (ho:off.size≤1048576) (ht:tim.size≤1048576) (kL:T w.heap.size w) (h1: ¬1<off.size):
  Calls prog 81 #[.agg #[.string off,.string tim]] w (aG w (iH off tim)):=by
 have ly: ∀x W,x.size≤1048576→Below w.heap.size w W→Calls prog 85 #[.string x] W (aG W (fC x)):=fun x W hx hb=>gJ hT W x hx (hT.mono (hT.fY kL hb) hb.size)
 have HK:Hid (∀W,Below w.heap.size w W→Calls prog 101 #[.string tim] W (fN W (fB tim))):=aa fun W hb=>kj hT W tim ht (hT.mono (hT.fY kL hb) hb.size)
 have aW:Below w.heap.size w (w.alloc (.cells #[.string off,.string tim] 41)):=(aV _ w).alloc (aS _) _;have cn:=aa aW;have hu:iN off=off:=o5 off fun h=>h1 h.1
 have t1:((1:Int)<(off.size:Int))=False:=bU (by omega);have h3:off.size≤1048576:=ho;have HW:=aa (wT off tim _ hu);have H3:=aa h3;have e1:(tim.toList==[115,116,97,114,116])=mZ [115,116,97,114,116] tim:=by rw[cq];rfl
 have e2:(tim.toList==[101,110,100])=mZ [101,110,100] tim:=by rw[cq];rfl
 have HO:Hid (∀W,Below w.heap.size w W→Calls prog 85 #[.string off] W (aG W (fC off))):=aa fun W hb=>ly _ W h3 hb
 clear kL aW hu h3 ly;generalize fC off=bd at HO HW;have hue:(off.toList=[]∧off.toList.isEmpty=true)∨((off.toList=[])=False∧off.toList.isEmpty=false):=by cases off.toList<;>simp
 rcases hue with⟨u1,u2⟩|⟨u1,u2⟩<;>cases bd
 all_goals
  go_enter func81,ntmps81;go_wp2_with (first|(go_at_call 85;(with_reducible refine(HO.out _ cn.out).mono ?_);rintro e w2 ⟨rfl,aN⟩;have c1:w2.cell? ⟨w.heap.size,1,none⟩=some (.string tim):=(aN.cell (p:=⟨w.heap.size,1,none⟩) (by simp)).trans (by rw[vC _ _ _ _ rfl];rfl);have bC:=aa (cn.out.trans (aN.mono cn.out.size));clear aN)|(go_at_call 101;(with_reducible refine(HK.out _ (by first|exact bC.out|exact cn.out)).mono ?_);rintro e w3 ⟨rfl,bW⟩;have iF:=aa ((by first|exact bC.out|exact cn.out:Below w.heap.size w _).trans (bW.mono (by first|exact bC.out.size|exact cn.out.size)));clear bW))
  all_goals
   go_ret;exact⟨ah (by rw[HW.out];simp[gj, *]),by first|exact iF.out|exact bC.out|exact cn.out⟩
theorem sB (hT:pK (fun _=>True) T) (w:World) (off tim:ByteArray) (ho:off.size≤1048576) (ht:tim.size≤1048576) (kL:T w.heap.size w):
  Calls prog 81 #[.agg #[.string off,.string tim]] w (aG w (iH off tim)):=by
 by_cases h1:1<off.size
 ·by_cases h2:(off[0]).toNat=45
  ·exact KW hT w off tim ho ht kL h1 h2
  ·exact KX hT w off tim ho ht kL h1 h2
 ·exact KY hT w off tim ho ht kL h1
theorem qq (w:World) (k n:Int):Calls prog 76 #[.int .i64 k,.int .i64 n] w fun e w'=>e= .returned (.bool (du k n))∧w=w':=by
 go_enter func76,ntmps76;go_wp2_with fail
 all_goals
  go_ret;exact⟨ah (by unfold du;rw[eH];simp_all<;>omega),rfl⟩
theorem Eb (w:World) (s:ByteArray):Calls prog 86 #[.string s] w fun e w'=>e= .returned (.bool (mH.contains s.data.toList))∧w=w':=by
 have HS:=aa (cq s);go_enter func86,ntmps86;go_wp2_with fail
 all_goals
  go_ret;exact⟨ah (by rw[←HS.out];unfold mH;simp_all),rfl⟩
theorem yy (w:World) (s:ByteArray):Calls prog 88 #[.string s] w fun e w'=>e= .returned (.bool (mI.contains s.data.toList))∧w=w':=by
 have HS:=aa (cq s);go_enter func88,ntmps88;go_wp2_with fail
 all_goals
  go_ret;exact⟨ah (by rw[←HS.out];unfold mI;simp_all),rfl⟩
def iY (gi on:Bool) (ls:List ByteArray) (card:Int) (inc:List ByteArray):Bool:=
 if gi=false then !on&&ls.isEmpty&&decide (card=0)&&inc.isEmpty
 else decide (0≤card)&&decide (card≤2)&& !(decide (card=0)&& !inc.isEmpty)&&bJ ls&&bJ inc
theorem nM {α:Type} (l:List α):l.isEmpty=decide (l.length=0):=by cases l<;>simp
theorem vh (gi on:Bool) (card:Int) (ho:cU b w (.slice al nl cl) ls) (hi:cU b w (.slice ai ni ci) inc) (hn:ls.length≤1048576) (xz:inc.length≤1048576) (hs: ∀s∈ls,s.size≤1048576) (vq: ∀s∈inc,s.size≤1048576):
  Calls prog 87 #[.agg #[.bool gi,.bool on,.slice al nl cl,.int .i64 card,.slice ai ni ci]] w (aG w (iY gi on ls card inc)):=by
 obtain rfl:nl=ls.length:=by obtain⟨_,_,h,_⟩:=ho;injection h
 obtain rfl:ni=inc.length:=by obtain⟨_,_,h,_⟩:=hi;injection h
 have HO:Hid (∀W,Below w.heap.size w W→Calls prog 89 #[.slice al ls.length cl] W (aG W (bJ ls))):=aa fun W hb=>lM (ho.below hb) hn hs
 have HI:Hid (∀W,Below w.heap.size w W→Calls prog 89 #[.slice ai inc.length ci] W (aG W (bJ inc))):=aa fun W hb=>lM (hi.below hb) xz vq
 have cn:Hid (∀cs,Below w.heap.size w (w.alloc (.cells cs 44))):=aa fun cs=>(aV _ w).alloc (aS _) _
 have HD:Hid (iY gi on ls card inc=if gi=false then !on&&decide (ls.length=0)&&decide (card=0)&&decide (inc.length=0)else decide (0≤card)&&decide (card≤2)&& !(decide (card=0)&& !decide (inc.length=0))&&bJ ls&&bJ inc):=aa (by unfold iY;rw[nM,nM]);clear ho hi;generalize iY gi on ls card inc=mb at HD ⊢
 generalize bJ ls=bl at HO HD;generalize bJ inc=bi at HI HD;generalize ls.length=nl at*
 generalize inc.length=ni at*
 cases gi
 ·go_enter func87,ntmps87;go_wp2_with fail
  all_goals
   go_ret;exact⟨ah (by rw[HD.out,eH];simp_all<;>omega),cn.out _⟩
 ·cases bl
  all_goals
   go_enter func87,ntmps87;go_wp2_with (first|(go_at_call 89;(with_reducible refine(HO.out _ (cn.out _)).mono ?_);rintro e w2 ⟨rfl,aN⟩;have c4:w2.cell? ⟨w.heap.size,4,none⟩=some (.slice ai ni ci):=(aN.cell (p:=⟨w.heap.size,4,none⟩) (by simp)).trans (by rw[vC _ _ _ _ rfl];rfl);have bC:=aa ((cn.out _).trans (aN.mono (cn.out _).size));clear aN)|(go_at_call 89;(with_reducible refine(HI.out _ bC.out).mono ?_);rintro e w3 ⟨rfl,bW⟩;have iF:=aa (bC.out.trans (bW.mono bC.out.size));clear bW))
   all_goals
    go_ret;exact⟨ah (by rw[HD.out,eH];simp_all<;>omega),by first|exact iF.out|exact bC.out|exact cn.out _⟩
theorem KZ (w:World) (m:PM) (hn:m.name.size≤1048576) (hv:m.value.size≤1048576):
  Calls prog 83 #[.agg #[.string m.name,.int .i64 m.op,.string m.value]] w (aG w (!cP m)):=by
 have HC:=aa fun(W:World)=>xr W m hn hv
 have cn:=aa fun X=>(aV _ w).alloc (aS _) X
 generalize cP m=b at HC ⊢
 go_enter func83,ntmps83;go_wp2_with fail;refine(HC _).mono ?_;rintro e w2 ⟨rfl,hb⟩;have bC:=aa ((cn _).trans (hb.mono (cn _).size));clear hb;go_wp2_with fail;go_ret;exact⟨rfl,bC⟩
theorem index_none (a:Option Addr) (c:Nat) (fv:Value) (w:World):Calls prog 104 #[.slice a 0 c,fv] w fun e w'=>e= .returned (.int .i64 (-1))∧w=w':=by
 go_enter func104,ntmps104;go_wp2_with fail;go_loopw [8] (fun t wr=>t= .int .i64 0∧wr=w) (fun _ _=>0)
 case atStart=>exact⟨rfl,rfl⟩
 case round=>
  obtain⟨rfl,rfl⟩:=hrel;go_wp2_with fail;go_ret;exact⟨rfl,rfl⟩
theorem uk (a:Option Addr) (c:Nat) (fv:Value) (w:World):Calls prog 82 #[.slice a 0 c,fv] w (aG w false):=by
 go_enter func82,ntmps82;go_wp2_with fail;refine(index_none a c fv _).mono ?_;rintro e w' ⟨rfl,rfl⟩;go_wp2_with fail;go_ret;exact⟨rfl,aV _ _⟩
def smC (x:SmM):List Value:=[.string x.m.name,.int .i64 x.m.op,.string x.m.value]
theorem Hs (h:eI b w v ms) (hn:ms.length≤1048576) (hs: ∀m∈ms,m.name.size≤1048576∧m.value.size≤1048576):
  Calls prog 82 #[v,.func (.func 83) #[] #[]] w (aG w (!ms.all cP)):=by
 obtain⟨ao,c,rfl,hc⟩:=h;obtain⟨zs,rfl⟩:=Yw ms hs;have aaV:(!(zs.map (·.m)).all cP)=zs.any fun x=> !cP x.m:=by
  rw[List.all_map,List.any_eq_not_all_not];simp[I4]
 rw[aaV];cases ao with
 |none=>
  have h0:zs=[]:=by
   cases zs with
   |nil=>rfl
   |cons m ms=>obtain⟨g,o,h,_⟩:=hc 0 (by simp);cases h
  subst h0;exact uk none c _ w
 |some a=>
  rcases jS zs.length with h0|h0
  ·have h1:zs=[]:=pv.1 h0;subst h1;exact uk (some a) c _ w
  ·obtain⟨g,o,he,_,ax,_⟩:=hc 0 (by simpa using h0);obtain rfl:a=⟨g,o,none⟩:=yR he;rw[jW]at hn ⊢
   refine(AnyQ.slices_ContainsFunc (α:=SmM) Tryz.QX 3 Tryz.isAgg65 Tryz.sizeOf65 smC (fun _=>rfl) (fun x=> !cP x.m) 83 #[] (enters_of func83 (by kernel_rfl) rfl) g o zs.length c zs w ?_ (aS _) (by omega) ax ?_).mono ?_
   ·intro W x hb;exact(KZ W x.m x.h.1 x.h.2).mono fun _ _ h=>⟨h.1,hb.trans (h.2.mono hb.size)⟩
   ·intro j hj i v hi;obtain⟨g',o',he,_,_,x,y,z⟩:=hc j (by simpa using hj);cases he;rw[getElem!_pos zs j hj]at hi;rw[List.getElem_map]at x y z
    match i,hi with
    |0,hi=>injection hi with hi;subst hi;exact x
    |1,hi=>injection hi with hi;subst hi;exact y
    |2,hi=>injection hi with hi;subst hi;exact z
   ·rintro e w' ⟨rfl,hb⟩;exact⟨by rw[qO],hb⟩
end Go.Proofs.YtcdoilkjmjbgmaaGreatDoor
namespace Go.Proofs.YtcdoilkjmjbgmaaGreatDoor
variable {rs:List PR}
theorem jr (h:dC rs=true):trees 1 rs=true∧rs.all az=true∧dh rs=true:=by
 unfold dC at h;simp only[kN]at h;exact⟨h.1.1,h.1.2,h.2⟩
theorem oQ:bA rs=0↔dC rs=true∧ie rs≤128:=by
 unfold bA;by_cases h:dC rs=true
 ·rw[au h];by_cases k:128<ie rs
  ·rw[au k];simp[h];omega
  ·rw[af k];simp[h];omega
 ·rw[af h];simp[h]
theorem CV (h:dC rs=true) (k:128<ie rs):bA rs=3:=by
 unfold bA;rw[au h,au k]
def Gv:PR:=⟨7,2,⟨#[43]⟩,⟨#[]⟩,[],⟨#[]⟩,⟨#[]⟩,⟨#[]⟩,⟨#[]⟩,false,false,false,[],0,[],false,[]⟩
def Gw:PR:=⟨1,0,⟨#[]⟩,⟨#[49]⟩,[],⟨#[]⟩,⟨#[]⟩,⟨#[]⟩,⟨#[]⟩,false,false,false,[],0,[],false,[]⟩
def Gx:PR:=⟨3,0,⟨#[]⟩,⟨#[117,112]⟩,[],⟨#[]⟩,⟨#[]⟩,⟨#[]⟩,⟨#[]⟩,false,false,false,[],0,[],false,[]⟩
def xV:List PR:=[Gv,Gw,Gx]
theorem js:bA xV=0:=by decide+kernel
theorem NA:ie xV=2:=by decide+kernel
