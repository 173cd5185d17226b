import Derived.Test.YtcdoilkjmjbgmaaGreatDoorW08
import Derived.Test.YtcdoilkjmjbgmaaGreatDoorW09
/- Part of the proof of YtcdoilkjmjbgmaaGreatDoorCardX: TrN. -/
set_option maxRecDepth 100000
set_option maxHeartbeats 4000000
set_option linter.unusedVariables false
set_option linter.unusedSimpArgs false
namespace Go.Proofs.YtcdoilkjmjbgmaaGreatDoor
open Go.RowKit
open Go.Proofs.Tryz
variable {T:Nat→World→Prop} {b:Nat} {w:World} {v:Value} {ss:List ByteArray}
theorem sc (hT:pT (fun _=>True) T) (w:World) (s:ByteArray) (qd:Bool) (hs:s.size≤1048576) (kD:T w.heap.size w):
  Calls prog 80 #[.string s,.bool qd] w (aC w (kP s qd)):=by
 have HC:=aa (kd hT w s hs kD);have HWd:Hid (∀W,Calls prog 103 #[.string s] W fun e w'=>e= .returned (.tuple #[.string (km s.data.toList),.bool (word s.data.toList)])∧Below W.heap.size W w'):=aa fun W=>Uv s W (by unfold maxLen;omega)
 have HD:Hid (kP s qd=((fw s==1||(qd&&fw s==2))&& !word s.data.toList)):=aa rfl;clear kD;generalize kP s qd=nb at HD ⊢
 generalize fw s=k at HC HD;generalize word s.data.toList=wd at HWd HD;generalize km s.data.toList=wo at HWd;go_enter func80,ntmps80;go_wp2_with fail;refine HC.out.mono ?_;rintro e w2 ⟨rfl,hb⟩;have HB:=aa hb;clear hb;go_wp2_with fail;refine(HWd.out w2).mono ?_;rintro e w3 ⟨rfl,cr⟩;have iR:=aa (HB.out.trans (cr.mono HB.out.size));clear cr HC HWd;have h1:k=1∨(¬k=1∧((k:Int)==1)=false):=by by_cases h:k=1;exact .inl h;exact .inr ⟨h,by rw[bK];omega⟩
 have h2:k=2∨(¬k=2∧((k:Int)==2)=false):=by by_cases h:k=2;exact .inl h;exact .inr ⟨h,by rw[bK];omega⟩
 rcases h1 with rfl|⟨n1,i1⟩
 ·cases wd
  all_goals
   go_wp2_with fail;go_ret;exact⟨by rw[HD.out];rfl,iR.out⟩
 ·have H1:=aa n1;clear n1;rcases h2 with rfl|⟨n2,i2⟩
  ·cases qd<;>cases wd
   all_goals
    go_wp2_with fail;go_ret;exact⟨by rw[HD.out];rfl,iR.out⟩
  ·have H2:=aa n2;clear n2;have HF:Hid (nb=false):=aa (by rw[HD.out];simp[H1.out,H2.out]);cases qd
   all_goals
    go_wp2_with fail;go_ret;exact⟨by rw[HF.out];rfl,iR.out⟩
structure SmB where
 s:ByteArray
 h:s.size≤1048576
structure SmM where
 m:PM
 h:m.name.size≤1048576∧m.value.size≤1048576
instance:Inhabited SmB:=⟨⟨⟨#[]⟩,by decide⟩⟩
instance:Inhabited SmM:=⟨⟨⟨⟨#[]⟩,0,⟨#[]⟩⟩,by decide,by decide⟩⟩
theorem YS (l:List ByteArray) (h: ∀x∈l,x.size≤1048576): ∃l':List SmB,l'.map (·.s)=l:=by
 induction l with
 |nil=>exact⟨[],rfl⟩
 |cons x l ih=>
  obtain⟨l',hl⟩:=ih fun y hy=>h y (A6 _ hy)
  exact⟨⟨x,h x (List.mem_cons_self ..)⟩::l',by rw[mv,hl]⟩
theorem YT (l:List PM) (h: ∀x∈l,x.name.size≤1048576∧x.value.size≤1048576): ∃l':List SmM,l'.map (·.m)=l:=by
 induction l with
 |nil=>exact⟨[],rfl⟩
 |cons x l ih=>
  obtain⟨l',hl⟩:=ih fun y hy=>h y (A6 _ hy)
  exact⟨⟨x,h x (List.mem_cons_self ..)⟩::l',by rw[mv,hl]⟩
theorem QU (s:ByteArray) (w:World) (hs:s.size≤1048576):Calls prog 107 #[.string s] w fun e w'=>e= .returned (.bool (!dO s.data.toList))∧w=w':=by
 have HC:=aa fun(W:World)=>yR s W (by unfold maxLen;omega)
 generalize dO s.data.toList=b at HC ⊢
 go_enter func107,ntmps107;go_wp2_with fail;refine(HC w).mono ?_;rintro e w' ⟨rfl,rfl⟩;go_wp2_with fail;go_ret;exact⟨rfl,rfl⟩
theorem G3 (h:cL b w v ss) (hn:ss.length≤1048576) (hs: ∀s∈ss,s.size≤1048576):
  Calls prog 106 #[v,.func (.func 107) #[] #[]] w fun e w'=>e= .returned (.bool (!bG ss))∧Below w.heap.size w w':=by
 obtain⟨ao,c,rfl,hc⟩:=h;obtain⟨zs,rfl⟩:=YS ss hs;have abr:(!bG (zs.map (·.s)))=zs.any fun x=> !dO x.s.data.toList:=by
  unfold bG;rw[List.all_map,List.any_eq_not_all_not];simp[IM]
 rw[abr];cases ao with
 |none=>
  have h0:zs=[]:=by
   cases zs with
   |nil=>rfl
   |cons m ms=>obtain⟨g,o,h,_⟩:=hc 0 (by simp);cases h
  subst h0;refine(AnyE.slices_ContainsFunc_empty Tryz.xS none c _ w).mono ?_;rintro e w' ⟨rfl,rfl⟩;exact⟨rfl,aS _ _⟩
 |some a=>
  rcases jK zs.length with h0|h0
  ·have h1:zs=[]:=pH.1 h0;subst h1;refine(AnyE.slices_ContainsFunc_empty Tryz.xS (some a) c _ w).mono ?_;rintro e w' ⟨rfl,rfl⟩;exact⟨rfl,aS _ _⟩
  ·obtain⟨g,o,he,_⟩:=hc 0 (by simpa using h0);obtain rfl:a=⟨g,o,none⟩:=yE he;rw[kG]at hn ⊢
   refine(AnyE.slices_ContainsFunc (α:=SmB) Tryz.xS (fun x=>.string x.s) (fun x=> !dO x.s.data.toList) 107 #[] (enters_of func107 (by kernel_rfl) rfl) g o zs.length c zs w ?_ (aP _) (by omega) ?_).mono ?_
   ·intro W x _;refine(QU x.s W x.h).mono ?_;rintro e w' ⟨rfl,rfl⟩;exact⟨rfl,0,rfl⟩
   ·intro j hj;obtain⟨g',o',he,_,_,hx⟩:=hc j (by simpa using hj);cases he;rw[hx];rw[List.getElem_map,getElem!_pos zs j hj]
   ·rintro e w' ⟨rfl,q,rfl⟩;exact⟨by rw[rh],bS (aS _ _) q⟩
theorem ly (h:cL b w v ss) (hn:ss.length≤1048576) (hs: ∀s∈ss,s.size≤1048576):
  Calls prog 89 #[v] w (aC w (bG ss)):=by
 have HC:=aa (G3 h hn hs);clear h;generalize bG ss=lb at HC ⊢
 go_enter func89,ntmps89;go_wp2_with fail;refine HC.mono ?_;rintro e w' ⟨rfl,hb⟩;have HB:=aa hb;clear hb HC;go_wp2_with fail;go_ret;exact⟨by simp,HB⟩
theorem w8 (w:World) (m:PM) (hn:m.name.size≤1048576) (hv:m.value.size≤1048576):
  Calls prog 84 #[.agg #[.string m.name,.int .i64 m.op,.string m.value]] w (aC w (cF m)):=by
 have HL:Hid (∀W,Calls prog 105 #[.string m.name] W fun e w'=>e= .returned (.bool (dO m.name.data.toList))∧W=w'):=aa fun W=>yR m.name W (by unfold maxLen;omega)
 have HV:Hid (∀W,Calls prog 79 #[.string m.value] W fun e w'=>e= .returned (.bool (valid m.value.data.toList))∧Below W.heap.size W w'):=aa fun W=>jV m.value W (by omega)
 have HD:Hid (cF m=(dO m.name.data.toList&&decide (1≤m.op)&&decide (m.op≤4)&&valid m.value.data.toList)):=aa rfl;generalize cF m=mb at HD ⊢
 generalize dO m.name.data.toList=bl at HL HD;generalize valid m.value.data.toList=bv at HV HD;generalize m.op=op at HD ⊢
 generalize m.name=nm at HL ⊢
 generalize m.value=vl at HV ⊢
 have aU:Below w.heap.size w (w.alloc (.cells #[.string nm,.int .i64 op,.string vl] 65)):=(aS _ w).alloc (aP _) _;have bZ:=aa aU;clear aU;go_enter func84,ntmps84;go_wp2_with fail;refine(HL.out _).mono ?_;rintro e w' ⟨rfl,rfl⟩;cases bl
 ·go_wp2_with fail;go_ret;exact⟨by rw[HD.out];rfl,bZ.out⟩
 ·by_cases h1:1≤op
  ·by_cases h2:op≤4
   ·have HF:Hid (mb=bv):=aa (by rw[HD.out];simp[h1,h2]);go_wp2_with fail;refine(HV.out _).mono ?_;rintro e w3 ⟨rfl,cr⟩;have iR:=aa (bZ.out.trans (cr.mono bZ.out.size));clear cr;go_wp2_with fail;go_ret;exact⟨by rw[HF.out];rfl,iR.out⟩
   ·have HF:Hid (mb=false):=aa (by rw[HD.out];simp[h1,h2]);have p2:(op≤4)=False:=bL h2;clear h2;go_wp2_with fail;go_ret;exact⟨by rw[HF.out];rfl,bZ.out⟩
  ·have HF:Hid (mb=false):=aa (by rw[HD.out];simp[h1]);have p1:(1≤op)=False:=bL h1;clear h1;go_wp2_with fail;go_ret;exact⟨by rw[HF.out];rfl,bZ.out⟩
