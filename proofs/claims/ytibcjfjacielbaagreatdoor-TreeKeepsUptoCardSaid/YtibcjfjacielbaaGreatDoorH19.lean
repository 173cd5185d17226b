import Derived.Test.YtibcjfjacielbaaGreatDoorH04
import Derived.Test.YtibcjfjacielbaaGreatDoorH18
/- Part of the proof of YtibcjfjacielbaaGreatDoorCardH: TrN TrO TrQ TrXa Src. -/
set_option maxRecDepth 100000
set_option maxHeartbeats 4000000
set_option linter.unusedVariables false
set_option linter.unusedSimpArgs false
namespace Go.Proofs.YtibcjfjacielbaaGreatDoor
open Go.RowKit
theorem tree_plainName {T:Nat→World→Prop} (hT:NumT (fun _=>True) T) (w:World) (s:ByteArray) (metric:Bool) (hs:s.size≤1048576) (hTw:T w.heap.size w):
  Calls Tryz.prog 173 #[.string s,.bool metric] w (BoolPost w (nameB s metric)):=by
 have HC:=Lib.hid (tree_token hT w s hs hTw);have HWd:Hid (∀W,Calls Tryz.prog 151 #[.string s] W fun e w'=>e= .returned (.tuple #[.string (wordOut s.data.toList),.bool (word s.data.toList)])∧Below W.heap.size W w'):=Lib.hid fun W=>lex_word s W (by unfold maxLen;omega)
 have HD:Hid (nameB s metric=((tokK s==1||(metric&&tokK s==2))&& !word s.data.toList)):=Lib.hid rfl;clear hTw;generalize nameB s metric=nb at HD ⊢
 generalize tokK s=k at HC HD;generalize word s.data.toList=wd at HWd HD;generalize wordOut s.data.toList=wo at HWd;go_enter Tryz.func173,Tryz.ntmps173;go_wp2_with fail;refine HC.out.mono ?_;rintro e w2 ⟨rfl,hb⟩;have HB:=Lib.hid hb;clear hb;go_wp2_with fail;refine(HWd.out w2).mono ?_;rintro e w3 ⟨rfl,hb3⟩;have HB3:=Lib.hid (HB.out.trans (hb3.mono HB.out.size));clear hb3 HC HWd;have h1:k=1∨(¬k=1∧((k:Int)==1)=false):=by by_cases h:k=1;exact .inl h;exact .inr ⟨h,by rw[beq_eq_false_iff_ne];omega⟩
 have h2:k=2∨(¬k=2∧((k:Int)==2)=false):=by by_cases h:k=2;exact .inl h;exact .inr ⟨h,by rw[beq_eq_false_iff_ne];omega⟩
 rcases h1 with rfl|⟨n1,i1⟩
 ·cases wd
  all_goals
   go_wp2_with fail;go_ret;exact⟨by rw[HD.out];rfl,HB3.out⟩
 ·have H1:=Lib.hid n1;clear n1;rcases h2 with rfl|⟨n2,i2⟩
  ·cases metric<;>cases wd
   all_goals
    go_wp2_with fail;go_ret;exact⟨by rw[HD.out];rfl,HB3.out⟩
  ·have H2:=Lib.hid n2;clear n2;have HF:Hid (nb=false):=Lib.hid (by rw[HD.out];simp[H1.out,H2.out]);cases metric
   all_goals
    go_wp2_with fail;go_ret;exact⟨by rw[HF.out];rfl,HB3.out⟩
structure SmB where
 s:ByteArray
 h:s.size≤1048576
structure SmM where
 m:PM
 h:m.name.size≤1048576∧m.value.size≤1048576
instance:Inhabited SmB:=⟨⟨⟨#[]⟩,by decide⟩⟩
instance:Inhabited SmM:=⟨⟨⟨⟨#[]⟩,0,⟨#[]⟩⟩,by decide,by decide⟩⟩
theorem attachB (l:List ByteArray) (h: ∀x∈l,x.size≤1048576): ∃l':List SmB,l'.map (·.s)=l:=by
 induction l with
 |nil=>exact⟨[],rfl⟩
 |cons x l ih=>
  obtain⟨l',hl⟩:=ih fun y hy=>h y (List.mem_cons_of_mem _ hy)
  exact⟨⟨x,h x (List.mem_cons_self ..)⟩::l',by rw[List.map_cons,hl]⟩
theorem attachM (l:List PM) (h: ∀x∈l,x.name.size≤1048576∧x.value.size≤1048576): ∃l':List SmM,l'.map (·.m)=l:=by
 induction l with
 |nil=>exact⟨[],rfl⟩
 |cons x l ih=>
  obtain⟨l',hl⟩:=ih fun y hy=>h y (List.mem_cons_of_mem _ hy)
  exact⟨⟨x,h x (List.mem_cons_self ..)⟩::l',by rw[List.map_cons,hl]⟩
theorem label_not (s:ByteArray) (w:World) (hs:s.size≤1048576):Calls Tryz.prog 219 #[.string s] w fun e w'=>e= .returned (.bool (!isLabel s.data.toList))∧w=w':=by
 have HC:Hid (∀W,Calls Tryz.prog 217 #[.string s] W fun e w'=>e= .returned (.bool (isLabel s.data.toList))∧W=w'):=Lib.hid fun W=>lex_isLabel s W (by unfold maxLen;omega)
 generalize isLabel s.data.toList=b at HC ⊢
 go_enter Tryz.func219,Tryz.ntmps219;go_wp2_with fail;refine(HC.out w).mono ?_;rintro e w' ⟨rfl,rfl⟩;go_wp2_with fail;go_ret;exact⟨rfl,rfl⟩
theorem contains_str {b:Nat} {w:World} {v:Value} {ss:List ByteArray} (h:StrS b w v ss) (hn:ss.length≤1048576) (hs: ∀s∈ss,s.size≤1048576):
  Calls Tryz.prog 218 #[v,.func (.func 219) #[] #[]] w fun e w'=>e= .returned (.bool (!labelsB ss))∧Below w.heap.size w w':=by
 obtain⟨ao,c,rfl,hc⟩:=h;obtain⟨zs,rfl⟩:=attachB ss hs;have hlab:(!labelsB (zs.map (·.s)))=zs.any fun x=> !isLabel x.s.data.toList:=by
  unfold labelsB;rw[List.all_map,List.any_eq_not_all_not];simp[Function.comp_def]
 rw[hlab];cases ao with
 |none=>
  have h0:zs=[]:=by
   cases zs with
   |nil=>rfl
   |cons m ms=>obtain⟨g,o,h,_⟩:=hc 0 (by simp);cases h
  subst h0;refine(AnyE.slices_ContainsFunc_empty Tryz.containsS none c _ w).mono ?_;rintro e w' ⟨rfl,rfl⟩;exact⟨rfl,Below.refl _ _⟩
 |some a=>
  rcases Nat.eq_zero_or_pos zs.length with h0|h0
  ·have h1:zs=[]:=List.length_eq_zero_iff.1 h0;subst h1;refine(AnyE.slices_ContainsFunc_empty Tryz.containsS (some a) c _ w).mono ?_;rintro e w' ⟨rfl,rfl⟩;exact⟨rfl,Below.refl _ _⟩
  ·obtain⟨g,o,he,_⟩:=hc 0 (by simpa using h0);obtain rfl:a=⟨g,o,none⟩:=Option.some.inj he;rw[List.length_map]at hn ⊢
   refine(AnyE.slices_ContainsFunc (α:=SmB) Tryz.containsS (fun x=>.string x.s) (fun x=> !isLabel x.s.data.toList) 219 #[] (enters_of Tryz.func219 (by kernel_rfl) rfl) g o zs.length c zs w ?_ (Nat.le_refl _) (by omega) ?_).mono ?_
   ·intro W x _;refine(label_not x.s W x.h).mono ?_;rintro e w' ⟨rfl,rfl⟩;exact⟨rfl,0,rfl⟩
   ·intro j hj;obtain⟨g',o',he,_,_,hx⟩:=hc j (by simpa using hj);cases he;rw[hx];rw[List.getElem_map,getElem!_pos zs j hj]
   ·rintro e w' ⟨rfl,q,rfl⟩;exact⟨by rw[List.take_length],Go.below_drewN (Below.refl _ _) q⟩
theorem tree_labelNames {b:Nat} {w:World} {v:Value} {ss:List ByteArray} (h:StrS b w v ss) (hn:ss.length≤1048576) (hs: ∀s∈ss,s.size≤1048576):
  Calls Tryz.prog 182 #[v] w (BoolPost w (labelsB ss)):=by
 have HC:=Lib.hid (contains_str h hn hs);clear h;generalize labelsB ss=lb at HC ⊢
 go_enter Tryz.func182,Tryz.ntmps182;go_wp2_with fail;refine HC.out.mono ?_;rintro e w' ⟨rfl,hb⟩;have HB:=Lib.hid hb;clear hb HC;go_wp2_with fail;go_ret;exact⟨by simp,HB.out⟩
theorem tree_soundMatcher (w:World) (m:PM) (hn:m.name.size≤1048576) (hv:m.value.size≤1048576):
  Calls Tryz.prog 177 #[.agg #[.string m.name,.int .i64 m.op,.string m.value]] w (BoolPost w (matcherB m)):=by
 have HL:Hid (∀W,Calls Tryz.prog 217 #[.string m.name] W fun e w'=>e= .returned (.bool (isLabel m.name.data.toList))∧W=w'):=Lib.hid fun W=>lex_isLabel m.name W (by unfold maxLen;omega)
 have HV:Hid (∀W,Calls Tryz.prog 172 #[.string m.value] W fun e w'=>e= .returned (.bool (valid m.value.data.toList))∧Below W.heap.size W w'):=Lib.hid fun W=>utf_valid m.value W (by omega)
 have HD:Hid (matcherB m=(isLabel m.name.data.toList&&decide (1≤m.op)&&decide (m.op≤4)&&valid m.value.data.toList)):=Lib.hid rfl;generalize matcherB m=mb at HD ⊢
 generalize isLabel m.name.data.toList=bl at HL HD;generalize valid m.value.data.toList=bv at HV HD;generalize m.op=op at HD ⊢
 generalize m.name=nm at HL ⊢
 generalize m.value=vl at HV ⊢
 have hb1:Below w.heap.size w (w.alloc (.cells #[.string nm,.int .i64 op,.string vl] 38)):=(Below.refl _ w).alloc (Nat.le_refl _) _;have HB1:=Lib.hid hb1;clear hb1;go_enter Tryz.func177,Tryz.ntmps177;go_wp2_with fail;refine(HL.out _).mono ?_;rintro e w' ⟨rfl,rfl⟩;cases bl
 ·go_wp2_with fail;go_ret;exact⟨by rw[HD.out];rfl,HB1.out⟩
 ·by_cases h1:1≤op
  ·by_cases h2:op≤4
   ·have HF:Hid (mb=bv):=Lib.hid (by rw[HD.out];simp[h1,h2]);go_wp2_with fail;refine(HV.out _).mono ?_;rintro e w3 ⟨rfl,hb3⟩;have HB3:=Lib.hid (HB1.out.trans (hb3.mono HB1.out.size));clear hb3;go_wp2_with fail;go_ret;exact⟨by rw[HF.out];rfl,HB3.out⟩
   ·have HF:Hid (mb=false):=Lib.hid (by rw[HD.out];simp[h1,h2]);have p2:(op≤4)=False:=eq_false h2;clear h2;go_wp2_with fail;go_ret;exact⟨by rw[HF.out];rfl,HB1.out⟩
  ·have HF:Hid (mb=false):=Lib.hid (by rw[HD.out];simp[h1]);have p1:(1≤op)=False:=eq_false h1;clear h1;go_wp2_with fail;go_ret;exact⟨by rw[HF.out];rfl,HB1.out⟩
theorem toList_size (s:ByteArray):s.toList=s.data.toList:=ByteArray.toList_eq s
theorem emptyB_list (x:ByteArray):emptyB x=decide (x.toList=[]):=by
 unfold emptyB;rw[toList_size];cases x.data.toList<;>simp
theorem whenB_eq (off tim u:ByteArray) (hu:unsign off=u):whenB off tim=((decide (u.toList=[])||durB u)&&(decide (tim.toList=[])||strB [115,116,97,114,116] tim||strB [101,110,100] tim||((tokK tim:Nat):Int)==3)):=by
 unfold whenB;rw[hu,emptyB_list,emptyB_list]
 congr 2
 rw[Bool.eq_iff_iff];simp;omega
theorem unsign_no (s:ByteArray) (h: ¬(1<s.size∧(atB s.data.toList 0).toNat=45)):unsign s=s:=by unfold unsign;rw[if_neg h]
theorem atB_zero (s:ByteArray) (h:0<s.size):atB s.data.toList 0=s[0]:=by
 have h2:0<s.data.toList.length:=by rw[len_data];exact h
 rw[←gl s 0 h2];unfold atB;rw[List.getD_eq_getElem?_getD,List.getElem?_eq_getElem h2];rfl
theorem isEmpty_dec (l:List UInt8):l.isEmpty=decide (l=[]):=by cases l<;>simp
theorem soundWhen_a {T:Nat→World→Prop} (hT:NumT (fun _=>True) T) (w:World) (off tim:ByteArray) (ho:off.size≤1048576) (ht:tim.size≤1048576) (hTw:T w.heap.size w) (h1:1<off.size) (h2:(off[0]).toNat=45):
  Calls Tryz.prog 174 #[.agg #[.string off,.string tim]] w (BoolPost w (whenB off tim)):=by
 have HO0: ∀x W,x.size≤1048576→Below w.heap.size w W→Calls Tryz.prog 178 #[.string x] W (BoolPost W (durB x)):=fun x W hx hb=>tree_duration hT W x hx (hT.mono (hT.keep hTw hb) hb.size)
 have HK:Hid (∀W,Below w.heap.size w W→Calls Tryz.prog 214 #[.string tim] W (IntPost W (tokK tim))):=Lib.hid fun W hb=>tree_token hT W tim ht (hT.mono (hT.keep hTw hb) hb.size)
 have hb1:Below w.heap.size w (w.alloc (.cells #[.string off,.string tim] 34)):=(Below.refl _ w).alloc (Nat.le_refl _) _;have HB1:=Lib.hid hb1;have hu:unsign off=off.extract 1 off.size:=by unfold unsign;rw[if_pos ⟨h1,by rw[atB_zero off (by omega)];exact h2⟩]
 have t1:((1:Int)<(off.size:Int))=True:=eq_true (by omega);have t2:((off[0].toNat:Int)==45)=true:=by rw[beq_iff_eq];omega
 have h3:(off.extract 1 off.size).size≤1048576:=by simp;omega
 have HW:=Lib.hid (whenB_eq off tim _ hu);have H3:=Lib.hid h3;have e1:(tim.toList==[115,116,97,114,116])=strB [115,116,97,114,116] tim:=by rw[toList_size];rfl
 have e2:(tim.toList==[101,110,100])=strB [101,110,100] tim:=by rw[toList_size];rfl
 have HO:Hid (∀W,Below w.heap.size w W→Calls Tryz.prog 178 #[.string (off.extract 1 off.size)] W (BoolPost W (durB (off.extract 1 off.size)))):=Lib.hid fun W hb=>HO0 _ W h3 hb
 clear hTw hb1 hu h3 HO0;generalize durB (off.extract 1 off.size)=bd at HO HW;have hue:((off.extract 1 off.size).toList=[]∧(off.extract 1 off.size).toList.isEmpty=true)∨(((off.extract 1 off.size).toList=[])=False∧(off.extract 1 off.size).toList.isEmpty=false):=by cases (off.extract 1 off.size).toList<;>simp
 rcases hue with⟨u1,u2⟩|⟨u1,u2⟩<;>cases bd
 all_goals
  go_enter Tryz.func174,Tryz.ntmps174;go_wp2_with (first|(go_at_call 178;(with_reducible refine(HO.out _ HB1.out).mono ?_);rintro e w2 ⟨rfl,hb2⟩;have c1:w2.cell? ⟨w.heap.size,1,none⟩=some (.string tim):=(hb2.cell (p:=⟨w.heap.size,1,none⟩) (by simp)).trans (by rw[World.cell?_alloc_at _ _ _ _ rfl];rfl);have HB2:=Lib.hid (HB1.out.trans (hb2.mono HB1.out.size));clear hb2)|(go_at_call 214;(with_reducible refine(HK.out _ (by first|exact HB2.out|exact HB1.out)).mono ?_);rintro e w3 ⟨rfl,hb3⟩;have HB3:=Lib.hid ((by first|exact HB2.out|exact HB1.out:Below w.heap.size w _).trans (hb3.mono (by first|exact HB2.out.size|exact HB1.out.size)));clear hb3))
  all_goals
   go_ret;exact⟨ret_bool (by rw[HW.out];simp[isEmpty_dec, *]),by first|exact HB3.out|exact HB2.out|exact HB1.out⟩
theorem soundWhen_b {T:Nat→World→Prop} (hT:NumT (fun _=>True) T) (w:World) (off tim:ByteArray) (ho:off.size≤1048576) (ht:tim.size≤1048576) (hTw:T w.heap.size w) (h1:1<off.size) (h2: ¬(off[0]).toNat=45):
  Calls Tryz.prog 174 #[.agg #[.string off,.string tim]] w (BoolPost w (whenB off tim)):=by
 have HO0: ∀x W,x.size≤1048576→Below w.heap.size w W→Calls Tryz.prog 178 #[.string x] W (BoolPost W (durB x)):=fun x W hx hb=>tree_duration hT W x hx (hT.mono (hT.keep hTw hb) hb.size)
 have HK:Hid (∀W,Below w.heap.size w W→Calls Tryz.prog 214 #[.string tim] W (IntPost W (tokK tim))):=Lib.hid fun W hb=>tree_token hT W tim ht (hT.mono (hT.keep hTw hb) hb.size)
 have hb1:Below w.heap.size w (w.alloc (.cells #[.string off,.string tim] 34)):=(Below.refl _ w).alloc (Nat.le_refl _) _;have HB1:=Lib.hid hb1;have hu:unsign off=off:=unsign_no off fun h=>h2 (by rw[←atB_zero off (by omega)];exact h.2)
 have t1:((1:Int)<(off.size:Int))=True:=eq_true (by omega);have t2:((off[0].toNat:Int)==45)=false:=by rw[beq_eq_false_iff_ne];omega
 have h3:off.size≤1048576:=ho;have HW:=Lib.hid (whenB_eq off tim _ hu);have H3:=Lib.hid h3;have e1:(tim.toList==[115,116,97,114,116])=strB [115,116,97,114,116] tim:=by rw[toList_size];rfl
 have e2:(tim.toList==[101,110,100])=strB [101,110,100] tim:=by rw[toList_size];rfl
 have HO:Hid (∀W,Below w.heap.size w W→Calls Tryz.prog 178 #[.string off] W (BoolPost W (durB off))):=Lib.hid fun W hb=>HO0 _ W h3 hb
 clear hTw hb1 hu h3 HO0;generalize durB off=bd at HO HW;have hue:(off.toList=[]∧off.toList.isEmpty=true)∨((off.toList=[])=False∧off.toList.isEmpty=false):=by cases off.toList<;>simp
 rcases hue with⟨u1,u2⟩|⟨u1,u2⟩<;>cases bd
 all_goals
  go_enter Tryz.func174,Tryz.ntmps174;go_wp2_with (first|(go_at_call 178;(with_reducible refine(HO.out _ HB1.out).mono ?_);rintro e w2 ⟨rfl,hb2⟩;have c1:w2.cell? ⟨w.heap.size,1,none⟩=some (.string tim):=(hb2.cell (p:=⟨w.heap.size,1,none⟩) (by simp)).trans (by rw[World.cell?_alloc_at _ _ _ _ rfl];rfl);have HB2:=Lib.hid (HB1.out.trans (hb2.mono HB1.out.size));clear hb2)|(go_at_call 214;(with_reducible refine(HK.out _ (by first|exact HB2.out|exact HB1.out)).mono ?_);rintro e w3 ⟨rfl,hb3⟩;have HB3:=Lib.hid ((by first|exact HB2.out|exact HB1.out:Below w.heap.size w _).trans (hb3.mono (by first|exact HB2.out.size|exact HB1.out.size)));clear hb3))
  all_goals
   go_ret;exact⟨ret_bool (by rw[HW.out];simp[isEmpty_dec, *]),by first|exact HB3.out|exact HB2.out|exact HB1.out⟩
theorem soundWhen_c {T:Nat→World→Prop} (hT:NumT (fun _=>True) T) (w:World) (off tim:ByteArray) (ho:off.size≤1048576) (ht:tim.size≤1048576) (hTw:T w.heap.size w) (h1: ¬1<off.size):
  Calls Tryz.prog 174 #[.agg #[.string off,.string tim]] w (BoolPost w (whenB off tim)):=by
 have HO0: ∀x W,x.size≤1048576→Below w.heap.size w W→Calls Tryz.prog 178 #[.string x] W (BoolPost W (durB x)):=fun x W hx hb=>tree_duration hT W x hx (hT.mono (hT.keep hTw hb) hb.size)
 have HK:Hid (∀W,Below w.heap.size w W→Calls Tryz.prog 214 #[.string tim] W (IntPost W (tokK tim))):=Lib.hid fun W hb=>tree_token hT W tim ht (hT.mono (hT.keep hTw hb) hb.size)
 have hb1:Below w.heap.size w (w.alloc (.cells #[.string off,.string tim] 34)):=(Below.refl _ w).alloc (Nat.le_refl _) _;have HB1:=Lib.hid hb1;have hu:unsign off=off:=unsign_no off fun h=>h1 h.1
 have t1:((1:Int)<(off.size:Int))=False:=eq_false (by omega);have h3:off.size≤1048576:=ho;have HW:=Lib.hid (whenB_eq off tim _ hu);have H3:=Lib.hid h3;have e1:(tim.toList==[115,116,97,114,116])=strB [115,116,97,114,116] tim:=by rw[toList_size];rfl
 have e2:(tim.toList==[101,110,100])=strB [101,110,100] tim:=by rw[toList_size];rfl
 have HO:Hid (∀W,Below w.heap.size w W→Calls Tryz.prog 178 #[.string off] W (BoolPost W (durB off))):=Lib.hid fun W hb=>HO0 _ W h3 hb
 clear hTw hb1 hu h3 HO0;generalize durB off=bd at HO HW;have hue:(off.toList=[]∧off.toList.isEmpty=true)∨((off.toList=[])=False∧off.toList.isEmpty=false):=by cases off.toList<;>simp
 rcases hue with⟨u1,u2⟩|⟨u1,u2⟩<;>cases bd
 all_goals
  go_enter Tryz.func174,Tryz.ntmps174;go_wp2_with (first|(go_at_call 178;(with_reducible refine(HO.out _ HB1.out).mono ?_);rintro e w2 ⟨rfl,hb2⟩;have c1:w2.cell? ⟨w.heap.size,1,none⟩=some (.string tim):=(hb2.cell (p:=⟨w.heap.size,1,none⟩) (by simp)).trans (by rw[World.cell?_alloc_at _ _ _ _ rfl];rfl);have HB2:=Lib.hid (HB1.out.trans (hb2.mono HB1.out.size));clear hb2)|(go_at_call 214;(with_reducible refine(HK.out _ (by first|exact HB2.out|exact HB1.out)).mono ?_);rintro e w3 ⟨rfl,hb3⟩;have HB3:=Lib.hid ((by first|exact HB2.out|exact HB1.out:Below w.heap.size w _).trans (hb3.mono (by first|exact HB2.out.size|exact HB1.out.size)));clear hb3))
  all_goals
   go_ret;exact⟨ret_bool (by rw[HW.out];simp[isEmpty_dec, *]),by first|exact HB3.out|exact HB2.out|exact HB1.out⟩
theorem tree_soundWhen {T:Nat→World→Prop} (hT:NumT (fun _=>True) T) (w:World) (off tim:ByteArray) (ho:off.size≤1048576) (ht:tim.size≤1048576) (hTw:T w.heap.size w):
  Calls Tryz.prog 174 #[.agg #[.string off,.string tim]] w (BoolPost w (whenB off tim)):=by
 by_cases h1:1<off.size
 ·by_cases h2:(off[0]).toNat=45
  ·exact soundWhen_a hT w off tim ho ht hTw h1 h2
  ·exact soundWhen_b hT w off tim ho ht hTw h1 h2
 ·exact soundWhen_c hT w off tim ho ht hTw h1
theorem tree_kidsFit (w:World) (k n:Int):Calls Tryz.prog 169 #[.int .i64 k,.int .i64 n] w fun e w'=>e= .returned (.bool (kidsB k n))∧w=w':=by
 go_enter Tryz.func169,Tryz.ntmps169;go_wp2_with fail
 all_goals
  go_ret;exact⟨ret_bool (by unfold kidsB;rw[Bool.eq_iff_iff];simp_all<;>omega),rfl⟩
theorem tree_binaryOp (w:World) (s:ByteArray):Calls Tryz.prog 179 #[.string s] w fun e w'=>e= .returned (.bool (binOps.contains s.data.toList))∧w=w':=by
 have HS:=Lib.hid (toList_size s);go_enter Tryz.func179,Tryz.ntmps179;go_wp2_with fail
 all_goals
  go_ret;exact⟨ret_bool (by rw[←HS.out];unfold binOps;simp_all),rfl⟩
theorem tree_aggregation (w:World) (s:ByteArray):Calls Tryz.prog 181 #[.string s] w fun e w'=>e= .returned (.bool (aggOps.contains s.data.toList))∧w=w':=by
 have HS:=Lib.hid (toList_size s);go_enter Tryz.func181,Tryz.ntmps181;go_wp2_with fail
 all_goals
  go_ret;exact⟨ret_bool (by rw[←HS.out];unfold aggOps;simp_all),rfl⟩
def matchB (gi on:Bool) (ls:List ByteArray) (card:Int) (inc:List ByteArray):Bool:=
 if gi=false then !on&&ls.isEmpty&&decide (card=0)&&inc.isEmpty
 else decide (0≤card)&&decide (card≤2)&& !(decide (card=0)&& !inc.isEmpty)&&labelsB ls&&labelsB inc
theorem len_isEmpty {α:Type} (l:List α):l.isEmpty=decide (l.length=0):=by cases l<;>simp
theorem tree_soundMatching {b:Nat} {w:World} {al ai:Option Addr} {nl cl ni ci:Nat} {ls inc:List ByteArray} (gi on:Bool) (card:Int) (ho:StrS b w (.slice al nl cl) ls) (hi:StrS b w (.slice ai ni ci) inc) (hn:ls.length≤1048576) (hn2:inc.length≤1048576) (hs: ∀s∈ls,s.size≤1048576) (hs2: ∀s∈inc,s.size≤1048576):
  Calls Tryz.prog 180 #[.agg #[.bool gi,.bool on,.slice al nl cl,.int .i64 card,.slice ai ni ci]] w (BoolPost w (matchB gi on ls card inc)):=by
 obtain rfl:nl=ls.length:=by obtain⟨_,_,h,_⟩:=ho;injection h
 obtain rfl:ni=inc.length:=by obtain⟨_,_,h,_⟩:=hi;injection h
 have HO:Hid (∀W,Below w.heap.size w W→Calls Tryz.prog 182 #[.slice al ls.length cl] W (BoolPost W (labelsB ls))):=Lib.hid fun W hb=>tree_labelNames (ho.below hb) hn hs
 have HI:Hid (∀W,Below w.heap.size w W→Calls Tryz.prog 182 #[.slice ai inc.length ci] W (BoolPost W (labelsB inc))):=Lib.hid fun W hb=>tree_labelNames (hi.below hb) hn2 hs2
 have HB1:Hid (∀cs,Below w.heap.size w (w.alloc (.cells cs 56))):=Lib.hid fun cs=>(Below.refl _ w).alloc (Nat.le_refl _) _
 have HD:Hid (matchB gi on ls card inc=if gi=false then !on&&decide (ls.length=0)&&decide (card=0)&&decide (inc.length=0)else decide (0≤card)&&decide (card≤2)&& !(decide (card=0)&& !decide (inc.length=0))&&labelsB ls&&labelsB inc):=Lib.hid (by unfold matchB;rw[len_isEmpty,len_isEmpty]);clear ho hi;generalize matchB gi on ls card inc=mb at HD ⊢
 generalize labelsB ls=bl at HO HD;generalize labelsB inc=bi at HI HD;generalize ls.length=nl at*
 generalize inc.length=ni at*
 cases gi
 ·go_enter Tryz.func180,Tryz.ntmps180;go_wp2_with fail
  all_goals
   go_ret;exact⟨ret_bool (by rw[HD.out,Bool.eq_iff_iff];simp_all<;>omega),HB1.out _⟩
 ·cases bl
  all_goals
   go_enter Tryz.func180,Tryz.ntmps180;go_wp2_with (first|(go_at_call 182;(with_reducible refine(HO.out _ (HB1.out _)).mono ?_);rintro e w2 ⟨rfl,hb2⟩;have c4:w2.cell? ⟨w.heap.size,4,none⟩=some (.slice ai ni ci):=(hb2.cell (p:=⟨w.heap.size,4,none⟩) (by simp)).trans (by rw[World.cell?_alloc_at _ _ _ _ rfl];rfl);have HB2:=Lib.hid ((HB1.out _).trans (hb2.mono (HB1.out _).size));clear hb2)|(go_at_call 182;(with_reducible refine(HI.out _ HB2.out).mono ?_);rintro e w3 ⟨rfl,hb3⟩;have HB3:=Lib.hid (HB2.out.trans (hb3.mono HB2.out.size));clear hb3))
   all_goals
    go_ret;exact⟨ret_bool (by rw[HD.out,Bool.eq_iff_iff];simp_all<;>omega),by first|exact HB3.out|exact HB2.out|exact HB1.out _⟩
theorem matcher_not (w:World) (m:PM) (hn:m.name.size≤1048576) (hv:m.value.size≤1048576):
  Calls Tryz.prog 176 #[.agg #[.string m.name,.int .i64 m.op,.string m.value]] w (BoolPost w (!matcherB m)):=by
 have HC:Hid (∀W,Calls Tryz.prog 177 #[.agg #[.string m.name,.int .i64 m.op,.string m.value]] W (BoolPost W (matcherB m))):=Lib.hid fun W=>tree_soundMatcher W m hn hv
 have HB1:Hid (∀X,Below w.heap.size w (w.alloc X)):=Lib.hid fun X=>(Below.refl _ w).alloc (Nat.le_refl _) X
 generalize matcherB m=b at HC ⊢
 go_enter Tryz.func176,Tryz.ntmps176;go_wp2_with fail;refine(HC.out _).mono ?_;rintro e w2 ⟨rfl,hb⟩;have HB2:=Lib.hid ((HB1.out _).trans (hb.mono (HB1.out _).size));clear hb;go_wp2_with fail;go_ret;exact⟨rfl,HB2.out⟩
theorem index_none (a:Option Addr) (c:Nat) (fv:Value) (w:World):Calls Tryz.prog 216 #[.slice a 0 c,fv] w fun e w'=>e= .returned (.int .i64 (-1))∧w=w':=by
 go_enter Tryz.func216,Tryz.ntmps216;go_wp2_with fail;go_loopw [8] (fun t wr=>t= .int .i64 0∧wr=w) (fun _ _=>0)
 case atStart=>exact⟨rfl,rfl⟩
 case round=>
  obtain⟨rfl,rfl⟩:=hrel;go_wp2_with fail;go_ret;exact⟨rfl,rfl⟩
theorem contains_none (a:Option Addr) (c:Nat) (fv:Value) (w:World):Calls Tryz.prog 175 #[.slice a 0 c,fv] w (BoolPost w false):=by
 go_enter Tryz.func175,Tryz.ntmps175;go_wp2_with fail;refine(index_none a c fv _).mono ?_;rintro e w' ⟨rfl,rfl⟩;go_wp2_with fail;go_ret;exact⟨rfl,Below.refl _ _⟩
def smC (x:SmM):List Value:=[.string x.m.name,.int .i64 x.m.op,.string x.m.value]
theorem contains_mat {b:Nat} {w:World} {v:Value} {ms:List PM} (h:MatS b w v ms) (hn:ms.length≤1048576) (hs: ∀m∈ms,m.name.size≤1048576∧m.value.size≤1048576):
  Calls Tryz.prog 175 #[v,.func (.func 176) #[] #[]] w (BoolPost w (!ms.all matcherB)):=by
 obtain⟨ao,c,rfl,hc⟩:=h;obtain⟨zs,rfl⟩:=attachM ms hs;have hlab:(!(zs.map (·.m)).all matcherB)=zs.any fun x=> !matcherB x.m:=by
  rw[List.all_map,List.any_eq_not_all_not];simp[Function.comp_def]
 rw[hlab];cases ao with
 |none=>
  have h0:zs=[]:=by
   cases zs with
   |nil=>rfl
   |cons m ms=>obtain⟨g,o,h,_⟩:=hc 0 (by simp);cases h
  subst h0;exact contains_none none c _ w
 |some a=>
  rcases Nat.eq_zero_or_pos zs.length with h0|h0
  ·have h1:zs=[]:=List.length_eq_zero_iff.1 h0;subst h1;exact contains_none (some a) c _ w
  ·obtain⟨g,o,he,_,hlt,_⟩:=hc 0 (by simpa using h0);obtain rfl:a=⟨g,o,none⟩:=Option.some.inj he;rw[List.length_map]at hn ⊢
   refine(AnyQ.slices_ContainsFunc (α:=SmM) Tryz.containsM 3 Tryz.isAgg38 Tryz.sizeOf38 smC (fun _=>rfl) (fun x=> !matcherB x.m) 176 #[] (enters_of Tryz.func176 (by kernel_rfl) rfl) g o zs.length c zs w ?_ (Nat.le_refl _) (by omega) hlt ?_).mono ?_
   ·intro W x hb;exact(matcher_not W x.m x.h.1 x.h.2).mono fun _ _ h=>⟨h.1,hb.trans (h.2.mono hb.size)⟩
   ·intro j hj i v hi;obtain⟨g',o',he,_,_,x,y,z⟩:=hc j (by simpa using hj);cases he;rw[getElem!_pos zs j hj]at hi;rw[List.getElem_map]at x y z
    match i,hi with
    |0,hi=>injection hi with hi;subst hi;exact x
    |1,hi=>injection hi with hi;subst hi;exact y
    |2,hi=>injection hi with hi;subst hi;exact z
   ·rintro e w' ⟨rfl,hb⟩;exact⟨by rw[List.take_length],hb⟩
def SrcV (k:Nat) (w:World) (v:Value) (m:Nat) (news:List Value):Prop:=
 ∃ao c,v= .slice ao m c∧news.length=m*k∧(∀u∈news,u.oneCell'=true)∧((ao=none∧m=0)∨ ∃ad,ao=some ad∧ ∀j u,news[j]? =some u→w.cell? (ad.add j)=some u)
theorem SrcV.below {k m:Nat} {w w':World} {v:Value} {news:List Value} (h:SrcV k w v m news) (hb:Below w.heap.size w w'):SrcV k w' v m news:=by
 obtain⟨ao,c,h1,h2,h3,h4⟩:=h;refine⟨ao,c,h1,h2,h3,h4.imp id ?_⟩;rintro⟨ad,e,h5⟩;refine⟨ad,e,fun j u hu=>?_⟩;have h6:=h5 j u hu;refine(hb.cell ?_).trans h6;rcases Nat.lt_or_ge (ad.add j).block w.heap.size with hlt|hge
 ·exact hlt
 ·unfold World.cell? at h6;rw[Array.getElem?_eq_none hge]at h6;simp at h6
theorem run_append_none_any {P:Program} {w:World} (base:Nat) (t ty e:TypeId) (i:TypeInfo) (size:Nat) (ht:P.underlying t=some (.slice e)) (hi:P.info? e=some i)
  (v:Value) (n c:Nat) (xs:List Value) (hown:w.ownsRow base e size v n xs):
  (Builtin.append_ #[t,t] ty #[v,.slice none 0 c]).run P w= .ok v w:=by
 rcases hown.2 with⟨rfl,rfl⟩|⟨g,cap,cur,rfl,_,_,hnc,_⟩
 ·simp[Builtin.append_,run_underlying ht,sizeOf,typeInfo,hi,Builtin.lenOf,Builtin.firstCells]
 ·simp[Builtin.append_,run_underlying ht,sizeOf,typeInfo,hi,Builtin.lenOf,Builtin.firstCells,hnc,storeCells]
theorem run_append_src {P:Program} (w:World) (base:Nat) (t ty e:TypeId) (z:Value) (size bytes:Nat) (hinfo:(P.info? e).map (fun i=>(i.zero,i.size,i.bytes))=some (some z,size,bytes)) (ht:P.underlying t=some (.slice e))
  (hzs:z.cells.size=size) (hsz:0<size) (v:Value) (n:Nat) (xs:List Value) (hown:w.ownsRow base e size v n xs) (u:Value) (m:Nat) (news:List Value) (hsrc:SrcV size w u m news)
  (hmax:n+m≤maxLen) (hb:(n+m)*bytes≤140737488355328) (hbase:base≤w.heap.size):
  ∃v' w',(Builtin.append_ #[t,t] ty #[v,u]).run P w= .ok v' w'∧w'.ownsRow base e size v' (n+m) (xs++news)∧w.grownBy w' v.ownBlock:=by
 obtain⟨i,hi,hz,hsi,hby⟩:=info_parts hinfo;obtain⟨ao,c,rfl,hl,h1,h2⟩:=hsrc;rcases h2 with⟨rfl,rfl⟩|⟨ad,rfl,hc⟩
 ·have h0:news=[]:=List.length_eq_zero_iff.1 (by simpa using hl);subst h0;refine⟨v,w,run_append_none_any base t ty e i size ht hi v n c xs hown,by simpa using hown,rfl,rfl,rfl,Nat.le_refl _,fun _ _ _=>rfl⟩
 ·obtain⟨v',w',hr,ho,hg,_⟩:=run_append_own (P:=P) w base t ty e i z size bytes ht hi hz hsi hby hzs hsz v n xs hown ad m c news hl hc h1 hmax hb hbase;exact⟨v',w',hr,ho,hg⟩
theorem wpList_append_srcV {P:Program} {w:World} {ops:Array Oper} {rest:List Oper} {o:Oper} {a:Act} {Q:Exit→Act→World→Prop}
  (hg:o.guard=none) (s x:Operand) (t:TypeId) (hop:o.op=Op.call {callee:=Callee.builtin Builtin.append,args:=#[s,x],argTypes:=#[t,t]})
  (base:Nat) (e:TypeId) (z:Value) (size bytes:Nat) (hinfo:(P.info? e).map (fun i=>(i.zero,i.size,i.bytes))=some (some z,size,bytes)) (h1:P.underlying t=some (.slice e)) (hzs:z.cells.size=size) (hsz:0<size)
  (v:Value) (n:Nat) (xs:List Value) (hs:a.eval s=v) (hown:w.ownsRow base e size v n xs) (u:Value) (m:Nat) (news:List Value) (hx:a.eval x=u) (hsrc:SrcV size w u m news)
  (hmax:n+m≤maxLen) (hb:(n+m)*bytes≤140737488355328) (hbase:base≤w.heap.size)
  (hK: ∀v' w',w'.ownsRow base e size v' (n+m) (xs++news)→w.grownBy w' v.ownBlock→wpList P ops Q rest (a.put o.dst v') w'):
  wpList P ops Q (o::rest) a w:=by
 refine wpList_plain hg fun K hKK=>?_
 obtain⟨v',w',hr,r1,r2⟩:=run_append_src (P:=P) w base t o.type e z size bytes hinfo h1 hzs hsz v n xs hown u m news hsrc hmax hb hbase;unfold Oper.wp execOp;simp only[hop,resolve,invoke,builtin,Sem.run_bind,Sem.run_pure,Result.andThen_ok,List.map_toArray,List.map_cons,List.map_nil,hs,hx,hr];exact hKK _ _ (hK v' w' r1 r2)
theorem step_append_srcV {P:Program} {w:World} {ops:Array Oper} {o:Oper} {a:Act} {K:Act→World→Prop} {Q:Exit→Act→World→Prop} {E:Prop}
  (hg:o.guard=none) (s x:Operand) (t:TypeId) (hop:o.op=Op.call {callee:=Callee.builtin Builtin.append,args:=#[s,x],argTypes:=#[t,t]})
  (base:Nat) (e:TypeId) (z:Value) (size bytes:Nat) (hinfo:(P.info? e).map (fun i=>(i.zero,i.size,i.bytes))=some (some z,size,bytes)) (h1:P.underlying t=some (.slice e)) (hzs:z.cells.size=size) (hsz:0<size)
  (v:Value) (n:Nat) (xs:List Value) (hs:a.eval s=v) (hown:w.ownsRow base e size v n xs) (u:Value) (m:Nat) (news:List Value) (hx:a.eval x=u) (hsrc:SrcV size w u m news)
  (hmax:n+m≤maxLen) (hb:(n+m)*bytes≤140737488355328) (hbase:base≤w.heap.size)
  (hK: ∀v' w',w'.ownsRow base e size v' (n+m) (xs++news)→w.grownBy w' v.ownBlock→K (a.put o.dst v') w'):
  if Region.wanted o (yielded ops a.tmps)=true then Oper.wp P o a w K Q else E:=by
 have hw:Region.wanted o (yielded ops a.tmps)=true:=by simp[Region.wanted,hg]
 rw[if_pos hw];obtain⟨v',w',hr,r1,r2⟩:=run_append_src (P:=P) w base t o.type e z size bytes hinfo h1 hzs hsz v n xs hown u m news hsrc hmax hb hbase;unfold Oper.wp execOp;simp only[hop,resolve,invoke,builtin,Sem.run_bind,Sem.run_pure,Result.andThen_ok,List.map_toArray,List.map_cons,List.map_nil,hs,hx,hr];exact hK v' w' r1 r2
theorem MatS.src {b:Nat} {w:World} {v:Value} {ms:List PM} (h:MatS b w v ms):SrcV 3 w v ms.length (ms.flatMap matC):=by
 obtain⟨ao,c,rfl,hc⟩:=h;refine⟨ao,c,rfl,flat_len matC 3 (fun _=>rfl) ms,fun u hu=>?_,?_⟩
 ·obtain⟨m,_,hm⟩:=List.mem_flatMap.1 hu;simp only[matC,List.mem_cons,List.not_mem_nil,or_false]at hm;rcases hm with rfl|rfl|rfl<;>rfl
 ·cases ms with
  |nil=>cases ao with
   |none=>exact .inl ⟨rfl,rfl⟩
   |some a=>exact .inr ⟨a,rfl,fun j u hu=>by simp at hu⟩
  |cons m ms=>
   obtain⟨g,o,rfl,_⟩:=hc 0 (by simp);refine .inr ⟨_,rfl,fun j u hu=>?_⟩;rw[Addr.add_lit];refine flat_cells matC 3 (fun _=>rfl) (by decide) (m::ms) w g o (fun j hj i hi=>?_) j u hu;obtain⟨g',o',he,_,_,x,y,z⟩:=hc j hj;cases he
   match i,hi with
   |0,_=>exact x
   |1,_=>exact y
   |2,_=>exact z
end Go.Proofs.YtibcjfjacielbaaGreatDoor
