import Derived.Test.YtcdoilkjmjbgmaaGreatDoorS09
import Derived.Test.YtcdoilkjmjbgmaaGreatDoorS10
/- Part of the proof of YtcdoilkjmjbgmaaGreatDoorCardY: TrN TrO TrQ TrXa TgP. -/
set_option maxRecDepth 100000
set_option maxHeartbeats 4000000
set_option linter.unusedVariables false
set_option linter.unusedSimpArgs false
namespace Go.Proofs.YtcdoilkjmjbgmaaGreatDoor
open Go.RowKit
open Go.Proofs.Tryz
variable {T:Nat→World→Prop} {b nl cl ni ci:Nat} {w:World} {v:Value} {ss ls inc:List ByteArray} {al ai:Option Addr} {ms:List PM}
theorem rW (hT:pv (fun _=>True) T) (w:World) (s:ByteArray) (pG:Bool) (hs:s.size≤1048576) (kp:T w.heap.size w):
  Calls prog 80 #[.string s,.bool pG] w (aF w (kQ s pG)):=by
 have HC:=ae (kf hT w s hs kp);have HWd:Hid (∀W,Calls prog 103 #[.string s] W fun e w'=>e= .returned (.tuple #[.string (kr s.data.toList),.bool (word s.data.toList)])∧Below W.heap.size W w'):=ae fun W=>Uo s W (by unfold maxLen;omega)
 have HD:Hid (kQ s pG=((fy s==1||(pG&&fy s==2))&& !word s.data.toList)):=ae rfl;clear kp;generalize kQ s pG=nb at HD ⊢
 generalize fy s=k at HC HD;generalize word s.data.toList=wd at HWd HD;generalize kr s.data.toList=wo at HWd;go_enter func80,ntmps80;go_wp2_with fail;refine HC.out.mono ?_;rintro e w2 ⟨rfl,hb⟩;have HB:=ae hb;clear hb;go_wp2_with fail;refine(HWd.out w2).mono ?_;rintro e w3 ⟨rfl,cu⟩;have fZ:=ae (HB.out.trans (cu.mono HB.out.size));clear cu HC HWd;have h1:k=1∨(¬k=1∧((k:Int)==1)=false):=by by_cases h:k=1;exact .inl h;exact .inr ⟨h,by rw[bN];omega⟩
 have h2:k=2∨(¬k=2∧((k:Int)==2)=false):=by by_cases h:k=2;exact .inl h;exact .inr ⟨h,by rw[bN];omega⟩
 rcases h1 with rfl|⟨n1,i1⟩
 ·cases wd
  all_goals
   go_wp2_with fail;go_ret;exact⟨by rw[HD.out];rfl,fZ.out⟩
 ·have H1:=ae n1;clear n1;rcases h2 with rfl|⟨n2,i2⟩
  ·cases pG<;>cases wd
   all_goals
    go_wp2_with fail;go_ret;exact⟨by rw[HD.out];rfl,fZ.out⟩
  ·have H2:=ae n2;clear n2;have HF:Hid (nb=false):=ae (by rw[HD.out];simp[H1.out,H2.out]);cases pG
   all_goals
    go_wp2_with fail;go_ret;exact⟨by rw[HF.out];rfl,fZ.out⟩
structure SmB where
 s:ByteArray
 h:s.size≤1048576
structure SmM where
 m:PM
 h:m.name.size≤1048576∧m.value.size≤1048576
instance:Inhabited SmB:=⟨⟨⟨#[]⟩,by decide⟩⟩
instance:Inhabited SmM:=⟨⟨⟨⟨#[]⟩,0,⟨#[]⟩⟩,by decide,by decide⟩⟩
theorem YF (l:List ByteArray) (h: ∀x∈l,x.size≤1048576): ∃l':List SmB,l'.map (·.s)=l:=by
 induction l with
 |nil=>exact⟨[],rfl⟩
 |cons x l ih=>
  obtain⟨l',hl⟩:=ih fun y hy=>h y (AX _ hy)
  exact⟨⟨x,h x (List.mem_cons_self ..)⟩::l',by rw[mq,hl]⟩
theorem YG (l:List PM) (h: ∀x∈l,x.name.size≤1048576∧x.value.size≤1048576): ∃l':List SmM,l'.map (·.m)=l:=by
 induction l with
 |nil=>exact⟨[],rfl⟩
 |cons x l ih=>
  obtain⟨l',hl⟩:=ih fun y hy=>h y (AX _ hy)
  exact⟨⟨x,h x (List.mem_cons_self ..)⟩::l',by rw[mq,hl]⟩
theorem QK (s:ByteArray) (w:World) (hs:s.size≤1048576):Calls prog 107 #[.string s] w fun e w'=>e= .returned (.bool (!dM s.data.toList))∧w=w':=by
 have HC:=ae fun(W:World)=>yM s W (by unfold maxLen;omega)
 generalize dM s.data.toList=b at HC ⊢
 go_enter func107,ntmps107;go_wp2_with fail;refine(HC w).mono ?_;rintro e w' ⟨rfl,rfl⟩;go_wp2_with fail;go_ret;exact⟨rfl,rfl⟩
theorem GV (h:cO b w v ss) (hn:ss.length≤1048576) (hs: ∀s∈ss,s.size≤1048576):
  Calls prog 106 #[v,.func (.func 107) #[] #[]] w fun e w'=>e= .returned (.bool (!bH ss))∧Below w.heap.size w w':=by
 obtain⟨ao,c,rfl,hc⟩:=h;obtain⟨zs,rfl⟩:=YF ss hs;have ab6:(!bH (zs.map (·.s)))=zs.any fun x=> !dM x.s.data.toList:=by
  unfold bH;rw[List.all_map,List.any_eq_not_all_not];simp[Iz]
 rw[ab6];cases ao with
 |none=>
  have h0:zs=[]:=by
   cases zs with
   |nil=>rfl
   |cons m ms=>obtain⟨g,o,h,_⟩:=hc 0 (by simp);cases h
  subst h0;refine(AnyE.slices_ContainsFunc_empty Tryz.xK none c _ w).mono ?_;rintro e w' ⟨rfl,rfl⟩;exact⟨rfl,aU _ _⟩
 |some a=>
  rcases jL zs.length with h0|h0
  ·have h1:zs=[]:=o6.1 h0;subst h1;refine(AnyE.slices_ContainsFunc_empty Tryz.xK (some a) c _ w).mono ?_;rintro e w' ⟨rfl,rfl⟩;exact⟨rfl,aU _ _⟩
  ·obtain⟨g,o,he,_⟩:=hc 0 (by simpa using h0);obtain rfl:a=⟨g,o,none⟩:=yy he;rw[ln]at hn ⊢
   refine(AnyE.slices_ContainsFunc (α:=SmB) Tryz.xK (fun x=>.string x.s) (fun x=> !dM x.s.data.toList) 107 #[] (enters_of func107 (by kernel_rfl) rfl) g o zs.length c zs w ?_ (aS _) (by omega) ?_).mono ?_
   ·intro W x _;refine(QK x.s W x.h).mono ?_;rintro e w' ⟨rfl,rfl⟩;exact⟨rfl,0,rfl⟩
   ·intro j hj;obtain⟨g',o',he,_,_,hx⟩:=hc j (by simpa using hj);cases he;rw[hx];rw[List.getElem_map,getElem!_pos zs j hj]
   ·rintro e w' ⟨rfl,q,rfl⟩;exact⟨by rw[qO],bZ (aU _ _) q⟩
theorem lB (h:cO b w v ss) (hn:ss.length≤1048576) (hs: ∀s∈ss,s.size≤1048576):
  Calls prog 89 #[v] w (aF w (bH ss)):=by
 have HC:=ae (GV h hn hs);clear h;generalize bH ss=lb at HC ⊢
 go_enter func89,ntmps89;go_wp2_with fail;refine HC.mono ?_;rintro e w' ⟨rfl,hb⟩;have HB:=ae hb;clear hb HC;go_wp2_with fail;go_ret;exact⟨by simp,HB⟩
theorem wX (w:World) (m:PM) (hn:m.name.size≤1048576) (hv:m.value.size≤1048576):
  Calls prog 84 #[.agg #[.string m.name,.int .i64 m.op,.string m.value]] w (aF w (cL m)):=by
 have HL:Hid (∀W,Calls prog 105 #[.string m.name] W fun e w'=>e= .returned (.bool (dM m.name.data.toList))∧W=w'):=ae fun W=>yM m.name W (by unfold maxLen;omega)
 have HV:Hid (∀W,Calls prog 79 #[.string m.value] W fun e w'=>e= .returned (.bool (valid m.value.data.toList))∧Below W.heap.size W w'):=ae fun W=>jW m.value W (by omega)
 have HD:Hid (cL m=(dM m.name.data.toList&&decide (1≤m.op)&&decide (m.op≤4)&&valid m.value.data.toList)):=ae rfl;generalize cL m=mb at HD ⊢
 generalize dM m.name.data.toList=bl at HL HD;generalize valid m.value.data.toList=bv at HV HD;generalize m.op=op at HD ⊢
 generalize m.name=nm at HL ⊢
 generalize m.value=vl at HV ⊢
 have aY:Below w.heap.size w (w.alloc (.cells #[.string nm,.int .i64 op,.string vl] 65)):=(aU _ w).alloc (aS _) _;have cF:=ae aY;clear aY;go_enter func84,ntmps84;go_wp2_with fail;refine(HL.out _).mono ?_;rintro e w' ⟨rfl,rfl⟩;cases bl
 ·go_wp2_with fail;go_ret;exact⟨by rw[HD.out];rfl,cF.out⟩
 ·by_cases h1:1≤op
  ·by_cases h2:op≤4
   ·have HF:Hid (mb=bv):=ae (by rw[HD.out];simp[h1,h2]);go_wp2_with fail;refine(HV.out _).mono ?_;rintro e w3 ⟨rfl,cu⟩;have fZ:=ae (cF.out.trans (cu.mono cF.out.size));clear cu;go_wp2_with fail;go_ret;exact⟨by rw[HF.out];rfl,fZ.out⟩
   ·have HF:Hid (mb=false):=ae (by rw[HD.out];simp[h1,h2]);have p2:(op≤4)=False:=bT h2;clear h2;go_wp2_with fail;go_ret;exact⟨by rw[HF.out];rfl,cF.out⟩
  ·have HF:Hid (mb=false):=ae (by rw[HD.out];simp[h1]);have p1:(1≤op)=False:=bT h1;clear h1;go_wp2_with fail;go_ret;exact⟨by rw[HF.out];rfl,cF.out⟩
theorem bY (s:ByteArray):s.toList=s.data.toList:=nM s
theorem jf (x:ByteArray):dA x=decide (x.toList=[]):=by
 unfold dA;rw[bY];cases x.data.toList<;>simp
theorem wj (off tim u:ByteArray) (hu:iC off=u):ix off tim=((decide (u.toList=[])||fz u)&&(decide (tim.toList=[])||mV [115,116,97,114,116] tim||mV [101,110,100] tim||((fy tim:Nat):Int)==3)):=by
 unfold ix;rw[hu,jf,jf]
 congr 2
 rw[eo];simp;omega
theorem oR (s:ByteArray) (h: ¬(1<s.size∧(au s.data.toList 0).toNat=45)):iC s=s:=by unfold iC;rw[ah h]
theorem wm (s:ByteArray) (h:0<s.size):au s.data.toList 0=s[0]:=by
 have h2:0<s.data.toList.length:=by rw[af];exact h
 rw[←gl s 0 h2];unfold au;rw[lf,lJ h2];rfl
theorem fU (l:List UInt8):l.isEmpty=decide (l=[]):=by cases l<;>simp
theorem J7 (hT:pv (fun _=>True) T) (w:World) (off tim:ByteArray) (ho:off.size≤1048576) (ht:tim.size≤1048576) (kp:T w.heap.size w) (h1:1<off.size) (h2:(off[0]).toNat=45):
  Calls prog 81 #[.agg #[.string off,.string tim]] w (aF w (ix off tim)):=by
 have la: ∀x W,x.size≤1048576→Below w.heap.size w W→Calls prog 85 #[.string x] W (aF W (fz x)):=fun x W hx hb=>gB hT W x hx (hT.mono (hT.fQ kp hb) hb.size)
 have HK:Hid (∀W,Below w.heap.size w W→Calls prog 101 #[.string tim] W (kt W (fy tim))):=ae fun W hb=>kf hT W tim ht (hT.mono (hT.fQ kp hb) hb.size)
 have aY:Below w.heap.size w (w.alloc (.cells #[.string off,.string tim] 41)):=(aU _ w).alloc (aS _) _;have cF:=ae aY;have hu:iC off=off.extract 1 off.size:=by unfold iC;rw[az ⟨h1,by rw[wm off (by omega)];exact h2⟩]
 have t1:((1:Int)<(off.size:Int))=True:=aD (by omega);have t2:((off[0].toNat:Int)==45)=true:=by rw[cx];omega
 have h3:(off.extract 1 off.size).size≤1048576:=by simp;omega
 have HW:=ae (wj off tim _ hu);have H3:=ae h3;have e1:(tim.toList==[115,116,97,114,116])=mV [115,116,97,114,116] tim:=by rw[bY];rfl
 have e2:(tim.toList==[101,110,100])=mV [101,110,100] tim:=by rw[bY];rfl
 have HO:Hid (∀W,Below w.heap.size w W→Calls prog 85 #[.string (off.extract 1 off.size)] W (aF W (fz (off.extract 1 off.size)))):=ae fun W hb=>la _ W h3 hb
 clear kp aY hu h3 la;generalize fz (off.extract 1 off.size)=bd at HO HW;have hue:((off.extract 1 off.size).toList=[]∧(off.extract 1 off.size).toList.isEmpty=true)∨(((off.extract 1 off.size).toList=[])=False∧(off.extract 1 off.size).toList.isEmpty=false):=by cases (off.extract 1 off.size).toList<;>simp
 rcases hue with⟨u1,u2⟩|⟨u1,u2⟩<;>cases bd
 all_goals
  go_enter func81,ntmps81;go_wp2_with (first|(go_at_call 85;(with_reducible refine(HO.out _ cF.out).mono ?_);rintro e w2 ⟨rfl,aQ⟩;have c1:w2.cell? ⟨w.heap.size,1,none⟩=some (.string tim):=(aQ.cell (p:=⟨w.heap.size,1,none⟩) (by simp)).trans (by rw[xf _ _ _ _ rfl];rfl);have bF:=ae (cF.out.trans (aQ.mono cF.out.size));clear aQ)|(go_at_call 101;(with_reducible refine(HK.out _ (by first|exact bF.out|exact cF.out)).mono ?_);rintro e w3 ⟨rfl,cu⟩;have fZ:=ae ((by first|exact bF.out|exact cF.out:Below w.heap.size w _).trans (cu.mono (by first|exact bF.out.size|exact cF.out.size)));clear cu))
  all_goals
   go_ret;exact⟨ar (by rw[HW.out];simp[fU, *]),by first|exact fZ.out|exact bF.out|exact cF.out⟩
theorem J8 (hT:pv (fun _=>True) T) (w:World) (off tim:ByteArray) (ho:off.size≤1048576) (ht:tim.size≤1048576) (kp:T w.heap.size w) (h1:1<off.size) (h2: ¬(off[0]).toNat=45):
  Calls prog 81 #[.agg #[.string off,.string tim]] w (aF w (ix off tim)):=by
 have la: ∀x W,x.size≤1048576→Below w.heap.size w W→Calls prog 85 #[.string x] W (aF W (fz x)):=fun x W hx hb=>gB hT W x hx (hT.mono (hT.fQ kp hb) hb.size)
 have HK:Hid (∀W,Below w.heap.size w W→Calls prog 101 #[.string tim] W (kt W (fy tim))):=ae fun W hb=>kf hT W tim ht (hT.mono (hT.fQ kp hb) hb.size)
 have aY:Below w.heap.size w (w.alloc (.cells #[.string off,.string tim] 41)):=(aU _ w).alloc (aS _) _;have cF:=ae aY;have hu:iC off=off:=oR off fun h=>h2 (by rw[←wm off (by omega)];exact h.2)
 have t1:((1:Int)<(off.size:Int))=True:=aD (by omega);have t2:((off[0].toNat:Int)==45)=false:=by rw[bN];omega
 have h3:off.size≤1048576:=ho;have HW:=ae (wj off tim _ hu);have H3:=ae h3;have e1:(tim.toList==[115,116,97,114,116])=mV [115,116,97,114,116] tim:=by rw[bY];rfl
 have e2:(tim.toList==[101,110,100])=mV [101,110,100] tim:=by rw[bY];rfl
 have HO:Hid (∀W,Below w.heap.size w W→Calls prog 85 #[.string off] W (aF W (fz off))):=ae fun W hb=>la _ W h3 hb
 clear kp aY hu h3 la;generalize fz off=bd at HO HW;have hue:(off.toList=[]∧off.toList.isEmpty=true)∨((off.toList=[])=False∧off.toList.isEmpty=false):=by cases off.toList<;>simp
 rcases hue with⟨u1,u2⟩|⟨u1,u2⟩<;>cases bd
 all_goals
  go_enter func81,ntmps81;go_wp2_with (first|(go_at_call 85;(with_reducible refine(HO.out _ cF.out).mono ?_);rintro e w2 ⟨rfl,aQ⟩;have c1:w2.cell? ⟨w.heap.size,1,none⟩=some (.string tim):=(aQ.cell (p:=⟨w.heap.size,1,none⟩) (by simp)).trans (by rw[xf _ _ _ _ rfl];rfl);have bF:=ae (cF.out.trans (aQ.mono cF.out.size));clear aQ)|(go_at_call 101;(with_reducible refine(HK.out _ (by first|exact bF.out|exact cF.out)).mono ?_);rintro e w3 ⟨rfl,cu⟩;have fZ:=ae ((by first|exact bF.out|exact cF.out:Below w.heap.size w _).trans (cu.mono (by first|exact bF.out.size|exact cF.out.size)));clear cu))
  all_goals
   go_ret;exact⟨ar (by rw[HW.out];simp[fU, *]),by first|exact fZ.out|exact bF.out|exact cF.out⟩
theorem J9 (hT:pv (fun _=>True) T) (w:World) (off tim:ByteArray) (ho:off.size≤1048576) (ht:tim.size≤1048576) (kp:T w.heap.size w) (h1: ¬1<off.size):
  Calls prog 81 #[.agg #[.string off,.string tim]] w (aF w (ix off tim)):=by
 have la: ∀x W,x.size≤1048576→Below w.heap.size w W→Calls prog 85 #[.string x] W (aF W (fz x)):=fun x W hx hb=>gB hT W x hx (hT.mono (hT.fQ kp hb) hb.size)
 have HK:Hid (∀W,Below w.heap.size w W→Calls prog 101 #[.string tim] W (kt W (fy tim))):=ae fun W hb=>kf hT W tim ht (hT.mono (hT.fQ kp hb) hb.size)
 have aY:Below w.heap.size w (w.alloc (.cells #[.string off,.string tim] 41)):=(aU _ w).alloc (aS _) _;have cF:=ae aY;have hu:iC off=off:=oR off fun h=>h1 h.1
 have t1:((1:Int)<(off.size:Int))=False:=bT (by omega);have h3:off.size≤1048576:=ho;have HW:=ae (wj off tim _ hu);have H3:=ae h3;have e1:(tim.toList==[115,116,97,114,116])=mV [115,116,97,114,116] tim:=by rw[bY];rfl
 have e2:(tim.toList==[101,110,100])=mV [101,110,100] tim:=by rw[bY];rfl
 have HO:Hid (∀W,Below w.heap.size w W→Calls prog 85 #[.string off] W (aF W (fz off))):=ae fun W hb=>la _ W h3 hb
 clear kp aY hu h3 la;generalize fz off=bd at HO HW;have hue:(off.toList=[]∧off.toList.isEmpty=true)∨((off.toList=[])=False∧off.toList.isEmpty=false):=by cases off.toList<;>simp
 rcases hue with⟨u1,u2⟩|⟨u1,u2⟩<;>cases bd
 all_goals
  go_enter func81,ntmps81;go_wp2_with (first|(go_at_call 85;(with_reducible refine(HO.out _ cF.out).mono ?_);rintro e w2 ⟨rfl,aQ⟩;have c1:w2.cell? ⟨w.heap.size,1,none⟩=some (.string tim):=(aQ.cell (p:=⟨w.heap.size,1,none⟩) (by simp)).trans (by rw[xf _ _ _ _ rfl];rfl);have bF:=ae (cF.out.trans (aQ.mono cF.out.size));clear aQ)|(go_at_call 101;(with_reducible refine(HK.out _ (by first|exact bF.out|exact cF.out)).mono ?_);rintro e w3 ⟨rfl,cu⟩;have fZ:=ae ((by first|exact bF.out|exact cF.out:Below w.heap.size w _).trans (cu.mono (by first|exact bF.out.size|exact cF.out.size)));clear cu))
  all_goals
   go_ret;exact⟨ar (by rw[HW.out];simp[fU, *]),by first|exact fZ.out|exact bF.out|exact cF.out⟩
theorem rY (hT:pv (fun _=>True) T) (w:World) (off tim:ByteArray) (ho:off.size≤1048576) (ht:tim.size≤1048576) (kp:T w.heap.size w):
  Calls prog 81 #[.agg #[.string off,.string tim]] w (aF w (ix off tim)):=by
 by_cases h1:1<off.size
 ·by_cases h2:(off[0]).toNat=45
  ·exact J7 hT w off tim ho ht kp h1 h2
  ·exact J8 hT w off tim ho ht kp h1 h2
 ·exact J9 hT w off tim ho ht kp h1
theorem pZ (w:World) (k n:Int):Calls prog 76 #[.int .i64 k,.int .i64 n] w fun e w'=>e= .returned (.bool (du k n))∧w=w':=by
 go_enter func76,ntmps76;go_wp2_with fail
 all_goals
  go_ret;exact⟨ar (by unfold du;rw[eo];simp_all<;>omega),rfl⟩
theorem DN (w:World) (s:ByteArray):Calls prog 86 #[.string s] w fun e w'=>e= .returned (.bool (mD.contains s.data.toList))∧w=w':=by
 have HS:=ae (bY s);go_enter func86,ntmps86;go_wp2_with fail
 all_goals
  go_ret;exact⟨ar (by rw[←HS.out];unfold mD;simp_all),rfl⟩
theorem xZ (w:World) (s:ByteArray):Calls prog 88 #[.string s] w fun e w'=>e= .returned (.bool (mE.contains s.data.toList))∧w=w':=by
 have HS:=ae (bY s);go_enter func88,ntmps88;go_wp2_with fail
 all_goals
  go_ret;exact⟨ar (by rw[←HS.out];unfold mE;simp_all),rfl⟩
def iP (gi on:Bool) (ls:List ByteArray) (card:Int) (inc:List ByteArray):Bool:=
 if gi=false then !on&&ls.isEmpty&&decide (card=0)&&inc.isEmpty
 else decide (0≤card)&&decide (card≤2)&& !(decide (card=0)&& !inc.isEmpty)&&bH ls&&bH inc
theorem nH {α:Type} (l:List α):l.isEmpty=decide (l.length=0):=by cases l<;>simp
theorem uM (gi on:Bool) (card:Int) (ho:cO b w (.slice al nl cl) ls) (hi:cO b w (.slice ai ni ci) inc) (hn:ls.length≤1048576) (xd:inc.length≤1048576) (hs: ∀s∈ls,s.size≤1048576) (uP: ∀s∈inc,s.size≤1048576):
  Calls prog 87 #[.agg #[.bool gi,.bool on,.slice al nl cl,.int .i64 card,.slice ai ni ci]] w (aF w (iP gi on ls card inc)):=by
 obtain rfl:nl=ls.length:=by obtain⟨_,_,h,_⟩:=ho;injection h
 obtain rfl:ni=inc.length:=by obtain⟨_,_,h,_⟩:=hi;injection h
 have HO:Hid (∀W,Below w.heap.size w W→Calls prog 89 #[.slice al ls.length cl] W (aF W (bH ls))):=ae fun W hb=>lB (ho.below hb) hn hs
 have HI:Hid (∀W,Below w.heap.size w W→Calls prog 89 #[.slice ai inc.length ci] W (aF W (bH inc))):=ae fun W hb=>lB (hi.below hb) xd uP
 have cF:Hid (∀cs,Below w.heap.size w (w.alloc (.cells cs 44))):=ae fun cs=>(aU _ w).alloc (aS _) _
 have HD:Hid (iP gi on ls card inc=if gi=false then !on&&decide (ls.length=0)&&decide (card=0)&&decide (inc.length=0)else decide (0≤card)&&decide (card≤2)&& !(decide (card=0)&& !decide (inc.length=0))&&bH ls&&bH inc):=ae (by unfold iP;rw[nH,nH]);clear ho hi;generalize iP gi on ls card inc=mb at HD ⊢
 generalize bH ls=bl at HO HD;generalize bH inc=bi at HI HD;generalize ls.length=nl at*
 generalize inc.length=ni at*
 cases gi
 ·go_enter func87,ntmps87;go_wp2_with fail
  all_goals
   go_ret;exact⟨ar (by rw[HD.out,eo];simp_all<;>omega),cF.out _⟩
 ·cases bl
  all_goals
   go_enter func87,ntmps87;go_wp2_with (first|(go_at_call 89;(with_reducible refine(HO.out _ (cF.out _)).mono ?_);rintro e w2 ⟨rfl,aQ⟩;have c4:w2.cell? ⟨w.heap.size,4,none⟩=some (.slice ai ni ci):=(aQ.cell (p:=⟨w.heap.size,4,none⟩) (by simp)).trans (by rw[xf _ _ _ _ rfl];rfl);have bF:=ae ((cF.out _).trans (aQ.mono (cF.out _).size));clear aQ)|(go_at_call 89;(with_reducible refine(HI.out _ bF.out).mono ?_);rintro e w3 ⟨rfl,cu⟩;have fZ:=ae (bF.out.trans (cu.mono bF.out.size));clear cu))
   all_goals
    go_ret;exact⟨ar (by rw[HD.out,eo];simp_all<;>omega),by first|exact fZ.out|exact bF.out|exact cF.out _⟩
theorem Ka (w:World) (m:PM) (hn:m.name.size≤1048576) (hv:m.value.size≤1048576):
  Calls prog 83 #[.agg #[.string m.name,.int .i64 m.op,.string m.value]] w (aF w (!cL m)):=by
 have HC:=ae fun(W:World)=>wX W m hn hv
 have cF:=ae fun X=>(aU _ w).alloc (aS _) X
 generalize cL m=b at HC ⊢
 go_enter func83,ntmps83;go_wp2_with fail;refine(HC _).mono ?_;rintro e w2 ⟨rfl,hb⟩;have bF:=ae ((cF _).trans (hb.mono (cF _).size));clear hb;go_wp2_with fail;go_ret;exact⟨rfl,bF⟩
theorem index_none (a:Option Addr) (c:Nat) (fv:Value) (w:World):Calls prog 104 #[.slice a 0 c,fv] w fun e w'=>e= .returned (.int .i64 (-1))∧w=w':=by
 go_enter func104,ntmps104;go_wp2_with fail;go_loopw [8] (fun t wr=>t= .int .i64 0∧wr=w) (fun _ _=>0)
 case atStart=>exact⟨rfl,rfl⟩
 case round=>
  obtain⟨rfl,rfl⟩:=hrel;go_wp2_with fail;go_ret;exact⟨rfl,rfl⟩
theorem tO (a:Option Addr) (c:Nat) (fv:Value) (w:World):Calls prog 82 #[.slice a 0 c,fv] w (aF w false):=by
 go_enter func82,ntmps82;go_wp2_with fail;refine(index_none a c fv _).mono ?_;rintro e w' ⟨rfl,rfl⟩;go_wp2_with fail;go_ret;exact⟨rfl,aU _ _⟩
def smC (x:SmM):List Value:=[.string x.m.name,.int .i64 x.m.op,.string x.m.value]
theorem GW (h:fV b w v ms) (hn:ms.length≤1048576) (hs: ∀m∈ms,m.name.size≤1048576∧m.value.size≤1048576):
  Calls prog 82 #[v,.func (.func 83) #[] #[]] w (aF w (!ms.all cL)):=by
 obtain⟨ao,c,rfl,hc⟩:=h;obtain⟨zs,rfl⟩:=YG ms hs;have ab6:(!(zs.map (·.m)).all cL)=zs.any fun x=> !cL x.m:=by
  rw[List.all_map,List.any_eq_not_all_not];simp[Iz]
 rw[ab6];cases ao with
 |none=>
  have h0:zs=[]:=by
   cases zs with
   |nil=>rfl
   |cons m ms=>obtain⟨g,o,h,_⟩:=hc 0 (by simp);cases h
  subst h0;exact tO none c _ w
 |some a=>
  rcases jL zs.length with h0|h0
  ·have h1:zs=[]:=o6.1 h0;subst h1;exact tO (some a) c _ w
  ·obtain⟨g,o,he,_,aA,_⟩:=hc 0 (by simpa using h0);obtain rfl:a=⟨g,o,none⟩:=yy he;rw[ln]at hn ⊢
   refine(AnyQ.slices_ContainsFunc (α:=SmM) Tryz.QF 3 Tryz.isAgg65 Tryz.sizeOf65 smC (fun _=>rfl) (fun x=> !cL x.m) 83 #[] (enters_of func83 (by kernel_rfl) rfl) g o zs.length c zs w ?_ (aS _) (by omega) aA ?_).mono ?_
   ·intro W x hb;exact(Ka W x.m x.h.1 x.h.2).mono fun _ _ h=>⟨h.1,hb.trans (h.2.mono hb.size)⟩
   ·intro j hj i v hi;obtain⟨g',o',he,_,_,x,y,z⟩:=hc j (by simpa using hj);cases he;rw[getElem!_pos zs j hj]at hi;rw[List.getElem_map]at x y z
    match i,hi with
    |0,hi=>injection hi with hi;subst hi;exact x
    |1,hi=>injection hi with hi;subst hi;exact y
    |2,hi=>injection hi with hi;subst hi;exact z
   ·rintro e w' ⟨rfl,hb⟩;exact⟨by rw[qO],hb⟩
end Go.Proofs.YtcdoilkjmjbgmaaGreatDoor
namespace Go.Proofs.YtcdoilkjmjbgmaaGreatDoor
variable {rs:List PR}
theorem jg (h:dB rs=true):trees 1 rs=true∧rs.all aC=true∧dc rs=true:=by
 unfold dB at h;simp only[kH]at h;exact⟨h.1.1,h.1.2,h.2⟩
theorem rG:cE rs=0↔dB rs=true∧iD rs≤128:=by
 unfold cE;by_cases h:dB rs=true
 ·rw[az h];by_cases k:128<iD rs
  ·rw[az k];simp[h];omega
  ·rw[ah k];simp[h];omega
 ·rw[ah h];simp[h]
theorem Ct (h:dB rs=true) (k:128<iD rs):cE rs=3:=by
 unfold cE;rw[az h,az k]
def F7:PR:=⟨7,2,⟨#[43]⟩,⟨#[]⟩,[],⟨#[]⟩,⟨#[]⟩,⟨#[]⟩,⟨#[]⟩,false,false,false,[],0,[],false,[]⟩
def F8:PR:=⟨1,0,⟨#[]⟩,⟨#[49]⟩,[],⟨#[]⟩,⟨#[]⟩,⟨#[]⟩,⟨#[]⟩,false,false,false,[],0,[],false,[]⟩
def F9:PR:=⟨3,0,⟨#[]⟩,⟨#[117,112]⟩,[],⟨#[]⟩,⟨#[]⟩,⟨#[]⟩,⟨#[]⟩,false,false,false,[],0,[],false,[]⟩
def xA:List PR:=[F7,F8,F9]
theorem jh:cE xA=0:=by decide+kernel
theorem MV:iD xA=2:=by decide+kernel
