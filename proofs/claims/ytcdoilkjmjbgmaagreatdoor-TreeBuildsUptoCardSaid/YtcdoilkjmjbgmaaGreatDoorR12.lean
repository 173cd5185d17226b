import Derived.Test.YtcdoilkjmjbgmaaGreatDoorR09
import Derived.Test.YtcdoilkjmjbgmaaGreatDoorR10
/- Part of the proof of YtcdoilkjmjbgmaaGreatDoorCardR: TrN. -/
set_option maxRecDepth 100000
set_option maxHeartbeats 4000000
set_option linter.unusedVariables false
set_option linter.unusedSimpArgs false
namespace Go.Proofs.YtcdoilkjmjbgmaaGreatDoor
open Go.RowKit
open Tryz
variable {T:Nat→World→Prop} {b:Nat} {w:World} {v:Value} {ss:List ByteArray}
theorem sy (hT:pK (fun _=>True) T) (w:World) (s:ByteArray) (pU:Bool) (hs:s.size≤1048576) (kL:T w.heap.size w):
  Calls prog 80 #[.string s,.bool pU] w (aG w (ld s pU)):=by
 have HC:=aa (kj hT w s hs kL);have HWd:Hid (∀W,Calls prog 103 #[.string s] W fun e w'=>e= .returned (.tuple #[.string (ky s.data.toList),.bool (word s.data.toList)])∧Below W.heap.size W w'):=aa fun W=>Uo s W (by unfold maxLen;omega)
 have HD:Hid (ld s pU=((fB s==1||(pU&&fB s==2))&& !word s.data.toList)):=aa rfl;clear kL;generalize ld s pU=nb at HD ⊢
 generalize fB s=k at HC HD;generalize word s.data.toList=wd at HWd HD;generalize ky s.data.toList=wo at HWd;go_enter func80,ntmps80;go_wp2_with fail;refine HC.out.mono ?_;rintro e w2 ⟨rfl,hb⟩;have HB:=aa hb;clear hb;go_wp2_with fail;refine(HWd.out w2).mono ?_;rintro e w3 ⟨rfl,bW⟩;have iF:=aa (HB.out.trans (bW.mono HB.out.size));clear bW HC HWd;have h1:k=1∨(¬k=1∧((k:Int)==1)=false):=by by_cases h:k=1;exact .inl h;exact .inr ⟨h,by rw[bN];omega⟩
 have h2:k=2∨(¬k=2∧((k:Int)==2)=false):=by by_cases h:k=2;exact .inl h;exact .inr ⟨h,by rw[bN];omega⟩
 rcases h1 with rfl|⟨n1,i1⟩
 ·cases wd
  all_goals
   go_wp2_with fail;go_ret;exact⟨by rw[HD.out];rfl,iF.out⟩
 ·have H1:=aa n1;clear n1;rcases h2 with rfl|⟨n2,i2⟩
  ·cases pU<;>cases wd
   all_goals
    go_wp2_with fail;go_ret;exact⟨by rw[HD.out];rfl,iF.out⟩
  ·have H2:=aa n2;clear n2;have HF:Hid (nb=false):=aa (by rw[HD.out];simp[H1.out,H2.out]);cases pU
   all_goals
    go_wp2_with fail;go_ret;exact⟨by rw[HF.out];rfl,iF.out⟩
structure SmB where
 s:ByteArray
 h:s.size≤1048576
structure SmM where
 m:PM
 h:m.name.size≤1048576∧m.value.size≤1048576
instance:Inhabited SmB:=⟨⟨⟨#[]⟩,by decide⟩⟩
instance:Inhabited SmM:=⟨⟨⟨⟨#[]⟩,0,⟨#[]⟩⟩,by decide,by decide⟩⟩
theorem Yv (l:List ByteArray) (h: ∀x∈l,x.size≤1048576): ∃l':List SmB,l'.map (·.s)=l:=by
 induction l with
 |nil=>exact⟨[],rfl⟩
 |cons x l ih=>
  obtain⟨l',hl⟩:=ih fun y hy=>h y (yH _ hy)
  exact⟨⟨x,h x (OI ..)⟩::l',by rw[kO,hl]⟩
theorem Yw (l:List PM) (h: ∀x∈l,x.name.size≤1048576∧x.value.size≤1048576): ∃l':List SmM,l'.map (·.m)=l:=by
 induction l with
 |nil=>exact⟨[],rfl⟩
 |cons x l ih=>
  obtain⟨l',hl⟩:=ih fun y hy=>h y (yH _ hy)
  exact⟨⟨x,h x (OI ..)⟩::l',by rw[kO,hl]⟩
theorem Q3 (s:ByteArray) (w:World) (hs:s.size≤1048576):Calls prog 107 #[.string s] w fun e w'=>e= .returned (.bool (!dN s.data.toList))∧w=w':=by
 have HC:=aa fun(W:World)=>zf s W (by unfold maxLen;omega)
 generalize dN s.data.toList=b at HC ⊢
 go_enter func107,ntmps107;go_wp2_with fail;refine(HC w).mono ?_;rintro e w' ⟨rfl,rfl⟩;go_wp2_with fail;go_ret;exact⟨rfl,rfl⟩
theorem Hf (h:cU b w v ss) (hn:ss.length≤1048576) (hs: ∀s∈ss,s.size≤1048576):
  Calls prog 106 #[v,.func (.func 107) #[] #[]] w fun e w'=>e= .returned (.bool (!bJ ss))∧Below w.heap.size w w':=by
 obtain⟨ao,c,rfl,hc⟩:=h;obtain⟨zs,rfl⟩:=Yv ss hs;have aaV:(!bJ (zs.map (·.s)))=zs.any fun x=> !dN x.s.data.toList:=by
  unfold bJ;rw[List.all_map,List.any_eq_not_all_not];simp[I4]
 rw[aaV];cases ao with
 |none=>
  have h0:zs=[]:=by
   cases zs with
   |nil=>rfl
   |cons m ms=>obtain⟨g,o,h,_⟩:=hc 0 (by simp);cases h
  subst h0;refine(AnyE.slices_ContainsFunc_empty Tryz.ye none c _ w).mono ?_;rintro e w' ⟨rfl,rfl⟩;exact⟨rfl,aV _ _⟩
 |some a=>
  rcases jS zs.length with h0|h0
  ·have h1:zs=[]:=pv.1 h0;subst h1;refine(AnyE.slices_ContainsFunc_empty Tryz.ye (some a) c _ w).mono ?_;rintro e w' ⟨rfl,rfl⟩;exact⟨rfl,aV _ _⟩
  ·obtain⟨g,o,he,_⟩:=hc 0 (by simpa using h0);obtain rfl:a=⟨g,o,none⟩:=yR he;rw[jW]at hn ⊢
   refine(AnyE.slices_ContainsFunc (α:=SmB) Tryz.ye (fun x=>.string x.s) (fun x=> !dN x.s.data.toList) 107 #[] (enters_of func107 (by kernel_rfl) rfl) g o zs.length c zs w ?_ (aS _) (by omega) ?_).mono ?_
   ·intro W x _;refine(Q3 x.s W x.h).mono ?_;rintro e w' ⟨rfl,rfl⟩;exact⟨rfl,0,rfl⟩
   ·intro j hj;obtain⟨g',o',he,_,_,hx⟩:=hc j (by simpa using hj);cases he;rw[hx];rw[List.getElem_map,getElem!_pos zs j hj]
   ·rintro e w' ⟨rfl,q,rfl⟩;exact⟨by rw[qO],cr (aV _ _) q⟩
theorem lM (h:cU b w v ss) (hn:ss.length≤1048576) (hs: ∀s∈ss,s.size≤1048576):
  Calls prog 89 #[v] w (aG w (bJ ss)):=by
 have HC:=aa (Hf h hn hs);clear h;generalize bJ ss=lb at HC ⊢
 go_enter func89,ntmps89;go_wp2_with fail;refine HC.mono ?_;rintro e w' ⟨rfl,hb⟩;have HB:=aa hb;clear hb HC;go_wp2_with fail;go_ret;exact⟨by simp,HB⟩
theorem xr (w:World) (m:PM) (hn:m.name.size≤1048576) (hv:m.value.size≤1048576):
  Calls prog 84 #[.agg #[.string m.name,.int .i64 m.op,.string m.value]] w (aG w (cP m)):=by
 have HL:Hid (∀W,Calls prog 105 #[.string m.name] W fun e w'=>e= .returned (.bool (dN m.name.data.toList))∧W=w'):=aa fun W=>zf m.name W (by unfold maxLen;omega)
 have HV:Hid (∀W,Calls prog 79 #[.string m.value] W fun e w'=>e= .returned (.bool (valid m.value.data.toList))∧Below W.heap.size W w'):=aa fun W=>j6 m.value W (by omega)
 have HD:Hid (cP m=(dN m.name.data.toList&&decide (1≤m.op)&&decide (m.op≤4)&&valid m.value.data.toList)):=aa rfl;generalize cP m=mb at HD ⊢
 generalize dN m.name.data.toList=bl at HL HD;generalize valid m.value.data.toList=bv at HV HD;generalize m.op=op at HD ⊢
 generalize m.name=nm at HL ⊢
 generalize m.value=vl at HV ⊢
 have aW:Below w.heap.size w (w.alloc (.cells #[.string nm,.int .i64 op,.string vl] 65)):=(aV _ w).alloc (aS _) _;have cn:=aa aW;clear aW;go_enter func84,ntmps84;go_wp2_with fail;refine(HL.out _).mono ?_;rintro e w' ⟨rfl,rfl⟩;cases bl
 ·go_wp2_with fail;go_ret;exact⟨by rw[HD.out];rfl,cn.out⟩
 ·by_cases h1:1≤op
  ·by_cases h2:op≤4
   ·have HF:Hid (mb=bv):=aa (by rw[HD.out];simp[h1,h2]);go_wp2_with fail;refine(HV.out _).mono ?_;rintro e w3 ⟨rfl,bW⟩;have iF:=aa (cn.out.trans (bW.mono cn.out.size));clear bW;go_wp2_with fail;go_ret;exact⟨by rw[HF.out];rfl,iF.out⟩
   ·have HF:Hid (mb=false):=aa (by rw[HD.out];simp[h1,h2]);have p2:(op≤4)=False:=bU h2;clear h2;go_wp2_with fail;go_ret;exact⟨by rw[HF.out];rfl,cn.out⟩
  ·have HF:Hid (mb=false):=aa (by rw[HD.out];simp[h1]);have p1:(1≤op)=False:=bU h1;clear h1;go_wp2_with fail;go_ret;exact⟨by rw[HF.out];rfl,cn.out⟩
