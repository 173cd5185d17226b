import Derived.Test.YtcdoilkjmjbgmaaGreatDoorW05
import Derived.Test.YtcdoilkjmjbgmaaGreatDoorW20
import Derived.WalkMore
/- Part of the proof of YtcdoilkjmjbgmaaGreatDoorCardX: NumC FpF FpG DecA FpD FpH. -/
set_option maxRecDepth 100000
set_option maxHeartbeats 4000000
set_option linter.unusedVariables false
set_option linter.unusedSimpArgs false
namespace Go.Proofs.YtcdoilkjmjbgmaaGreatDoor
open Go.RowKit
open Go.Proofs.Tryz
variable {l m:List UInt8} {k i M N D e v:Nat} {a b X X' z P E base sg z':Int} {tr dt dg:Bool}
theorem fD (x:Int) (w:World):(callFunc 127 #[.int .u64 x]).run prog w= .ok (.value (.float .f64 x.toNat)) w:=by
 rw[run_callFunc_extern func127 (by kernel_rfl) (by kernel_rfl) (by kernel_rfl) (e:=Extern.MathFloatBits.float64frombits) (by kernel_rfl)];rfl
theorem Rj (x:Nat) (w:World):(callFunc 198 #[.float .f64 x]).run prog w= .ok (.value (.int .u64 (x:Int))) w:=by
 rw[run_callFunc_extern func198 (by kernel_rfl) (by kernel_rfl) (by kernel_rfl) (e:=Extern.MathFloatBits.float64bits) (by kernel_rfl)];rfl
theorem VA (w:World):Calls prog 169 #[.int .i64 1] w fun e w'=>e= .returned (.float .f64 9218868437227405312)∧w=w':=by
 go_enter func169,ntmps169;go_wp2_with fail;rw[fD];rw[jO];go_wp2_with fail;go_ret;exact⟨rfl,rfl⟩
theorem VB (w:World):Calls prog 170 #[] w fun e w'=>e= .returned (.float .f64 9221120237041090561)∧w=w':=by
 go_enter func170,ntmps170;go_wp2_with fail;rw[fD];rw[jO];go_wp2_with fail;go_ret;exact⟨rfl,rfl⟩
theorem VC (x:Nat) (w:World):Calls prog 185 #[.float .f64 x] w fun e w'=>e= .returned (.float .f64 (Te x))∧w=w':=by
 have h1:bits .andNot .u64 (x:Int) 9223372036854775808=((Te x:Nat):Int):=by
  have e:bits .andNot .u64 (x:Int) 9223372036854775808=bits .andNot .u64 ((x%18446744073709551616:Nat):Int) 9223372036854775808:=by
   have hb:BitVec.ofInt 64 (x:Int)=BitVec.ofInt 64 ((x%18446744073709551616:Nat):Int):=by
    apply BitVec.eq_of_toNat_eq;simp only[BitVec.toNat_ofInt];omega
   unfold bits;show IntKind.u64.wrap _=IntKind.u64.wrap _;simp only[IntKind.bits];rw[hb]
  rw[e];exact u64_andNot_nat (x%18446744073709551616) 9223372036854775808 (lE _ (by omega)) (by omega)
 go_enter func185,ntmps185;go_wp2_with fail;rw[Rj];rw[jO];go_wp2_with fail;rw[fD];rw[jO];go_wp2_with fail;go_ret;exact⟨rfl,rfl⟩
theorem Nk (x:Nat) (w:World):Calls prog 173 #[.float .f64 x,.int .i64 0] w fun e w'=>e= .returned (.bool (dS x))∧w=w':=by
 go_enter func173,ntmps173;go_wp2_with fail;refine(VC x _).mono ?_;rintro e w' ⟨rfl,rfl⟩;go_wp2_with fail;go_ret;exact⟨rfl,rfl⟩
def tK (l m:List UInt8):Bool:=l.length==m.length&&(l.zip m).all fun p=>(p.1.toNat|||32)==p.2.toNat
def ux (l m:List UInt8) (k:Nat):Prop:=((l.take k).zip (m.take k)).all (fun p=>(p.1.toNat|||32)==p.2.toNat)=true
theorem Ky (l m:List UInt8):ux l m 0:=rfl
theorem D0 (h1:k<l.length) (h2:k<m.length):(l.take (k+1)).zip (m.take (k+1))=(l.take k).zip (m.take k)++[(an l k,an m k)]:=by
 have e1:l[k]=an l k:=by rw[an,lf,lB h1];rfl
 have e2:m[k]=an m k:=by rw[an,lf,lB h2];rfl
 rw[jM h1,jM h2,List.zip_append (by simp;omega),e1,e2];rfl
theorem Kz (h1:k<l.length) (h2:k<m.length) (h:ux l m k) (he:((an l k).toNat|||32)=(an m k).toNat):ux l m (k+1):=by
 unfold ux at*
 rw[D0 h1 h2,IS,h];simp[he]
theorem Rk (hl:l.length=m.length) (h:ux l m l.length):tK l m=true:=by
 unfold ux at h;rw[rh,hl,rh]at h;rw[tK,h];simp[hl]
theorem VD (h1:k<l.length) (h2:k<m.length) (he:((an l k).toNat|||32)≠(an m k).toNat):tK l m=false:=by
 have:(l.zip m).all (fun p=>(p.1.toNat|||32)==p.2.toNat)=false:=by
  rw[Ev];refine⟨(l.zip m)[k]'(by simp;omega),gj _,?_⟩;have e1:l[k]=an l k:=by rw[an,lf,lB h1];rfl
  have e2:m[k]=an m k:=by rw[an,lf,lB h2];rfl
  rw[List.getElem_zip,e1,e2];simpa using he
 rw[tK,this,tF]
theorem JP (s m:ByteArray) (w:World) (hs:s.size≤1000) (hm:m.size≤1000):
  Calls prog 168 #[.string s,.string m] w fun e w'=>e= .returned (.bool (tK s.data.toList m.data.toList))∧Below w.heap.size w w':=by
 by_cases hl:s.size=m.size
 ·have q1:((s.size:Int) != (m.size:Int))=false:=by rw[hl];simp
  have Ij:s.data.toList.length=m.data.toList.length:=by rw[ab,ab,hl]
  have HLL:=aa Ij;clear Ij;go_enter func168,ntmps168;go_wp2_with fail;go_loopw [13] (fun t wr=> ∃k:Nat,Hid (k≤s.size∧ux s.data.toList m.data.toList k)∧t= .int .i64 (k:Int)∧Hid (Below w.heap.size w wr)) (fun t wr=>s.size-(intOf t).toNat)
  case atStart=>exact⟨0,aa ⟨aT _,Ky _ _⟩,rfl,aa (aS _ _)⟩
  case round=>
   obtain⟨k,hk,rfl,hb⟩:=hrel;have hk':=hk.1;by_cases hi:k<s.size
   ·have xa:k<m.size:=by omega
    have p1:((k:Int)<(s.size:Int))=True:=by simp;omega
    have p2:((k:Int)<(m.size:Int))=True:=by simp;omega
    have o1:bits .or .u8 (s[k].toNat:Int) 32=((s[k].toNat|||32:Nat):Int):=vG s[k].toNat 32 (mz _) (by omega);have w1:wrap64 ((k:Int)+1)=((k+1:Nat):Int):=by unfold wrap64;omega
    have a1:an s.data.toList k=s[k]:=aq hi;have a2:an m.data.toList k=m[k]:=aq xa;have k1:k<s.data.toList.length:=by rw[ab];exact hi
    have k2:k<m.data.toList.length:=by rw[ab];exact xa
    have Z6:=aa k1;have Ob:=aa k2;have HA1:=aa a1;have HA2:=aa a2;clear k1 k2 a1 a2;cases ne:(((s[k].toNat|||32:Nat):Int) != (m[k].toNat:Int))
    ·have he:(s[k].toNat|||32)=m[k].toNat:=by
      have:((s[k].toNat|||32:Nat):Int)=(m[k].toNat:Int):=by simpa using ne
      omega
     have HN:=aa (Kz Z6 Ob hk.2 (by rw[HA1.out,HA2.out];exact he));have HLE:=aa (show k+1≤s.size from hi);clear he;go_wp2_with fail;go_quiet (fail);go_wp2_with fail;go_round
     case rel=>exact⟨k+1,aa ⟨HLE,HN⟩,(by first|rfl|simp),aa (bS hb _)⟩
     case measure=>simp[intOf];omega
    ·have he:(s[k].toNat|||32)≠m[k].toNat:=by
      have: ¬((s[k].toNat|||32:Nat):Int)=(m[k].toNat:Int):=by simpa using ne
      omega
     have HN:=aa (VD Z6 Ob (by rw[HA1.out,HA2.out];exact he));clear he;go_wp2_with fail;go_quiet (fail);go_wp2_with fail;go_ret;rw[HN.out];exact⟨rfl,bS hb _⟩
   ·have tX:k=s.size:=by omega
    have hw:=hk.2;rw[tX,←ab]at hw;have HW:=aa (Rk HLL hw);clear hw;subst tX;go_wp2_with fail;go_ret;rw[HW.out];exact⟨rfl,hb⟩
 ·have q1:((s.size:Int) != (m.size:Int))=true:=by simp;omega
  go_enter func168,ntmps168;go_wp2_with fail;go_ret;refine⟨ah ?_,aS _ _⟩;have:(s.data.toList.length==m.data.toList.length)=false:=by rw[ab,ab];simpa using hl
  rw[tK,this,rr]
theorem cP {fn:Func} {a b c:Tmp} (h:fn.results= #[.tmp a,.tmp b,.tmp c]) (tmps:Array Value) (P:Program) (w:World):
  (results fn tmps).run P w= .ok (.tuple #[tmps.getD a undef,tmps.getD b undef,tmps.getD c undef]) w:=by
 simp[results,h]
theorem kg (s:ByteArray) (w:World) (h0:0<s.size) (hd:digit s[0]=true∨s[0].toNat=46):
  Calls prog 205 #[.string s] w fun e w'=>e= .returned (.tuple #[.float .f64 0,.int .i64 0,.bool false])∧w=w':=by
 have hb:s[0].toNat=46∨48≤s[0].toNat∧s[0].toNat≤57:=by
  rcases hd with h|h
  ·exact .inr (aG h)
  ·exact .inl h
 have e1:((s[0].toNat:Int)==43)=false:=by simp;omega
 have e2:((s[0].toNat:Int)==45)=false:=by simp;omega
 have e3:((s[0].toNat:Int)==105)=false:=by simp;omega
 have e4:((s[0].toNat:Int)==73)=false:=by simp;omega
 have e5:((s[0].toNat:Int)==110)=false:=by simp;omega
 have e6:((s[0].toNat:Int)==78)=false:=by simp;omega
 have z1:(s=ByteArray.empty)=False:=by
  apply bL;intro h;rw[h]at h0;simp at h0
 clear hb hd;go_enter func205,ntmps205;go_wp2_with fail;refine cz (cP rfl _ _ _) rfl ?_;exact⟨rfl,rfl⟩
def po (w:World) (r:Option Nat) (e:Ending) (w':World):Prop:=
 (∃v ok,e= .returned (.tuple #[.float .f64 v,.bool ok])∧(match r with|some x=>ok=true∧v=x|none=>ok=false))∧w=w'
theorem po.some {w:World} {r:Option Nat} {x:Nat} (h:r=Option.some x):po w r (.returned (.tuple #[.float .f64 x,.bool true])) w:=⟨⟨x,true,rfl,by rw[h];exact⟨rfl,rfl⟩⟩,rfl⟩
theorem po.none {w:World} {r:Option Nat} {x:Nat} (h:r=Option.none):po w r (.returned (.tuple #[.float .f64 x,.bool false])) w:=⟨⟨x,false,rfl,by rw[h]⟩,rfl⟩
theorem VE (m:Nat) (p:Int) (w:World) (hp: -400≤p∧p≤400) (P9:m<18446744073709551616) (c0:w.cell? ⟨6,0,none⟩=some (.int .u64 52)) (b o c:Nat) (g:w.cell? ⟨9,0,none⟩=some (.slice (some ⟨b,o,none⟩) 23 c))
  (hT: ∀k,k<23→w.cell? ⟨b,o+k,none⟩=some (.float .f64 (ff k))):
  Calls prog 216 #[.int .u64 (m:Int),.int .i64 p,.bool false] w (po w (fH m p)):=by
 have HT:=aa hT;have HP:=aa hp;have HM:=aa P9;clear hT hp P9;obtain⟨f,hf⟩: ∃f,f=floatOfInt .f64 (m:Int):=⟨_,rfl⟩;have afJ:f≤eW:=by rw[hf];exact Jj m
 have HF:=aa hf;have HFL:=aa afJ;have hfe:floatOfInt .f64 (m:Int)=f:=hf.symm;clear hf afJ;by_cases hm:m/4503599627370496≠0
 ·have HX:=aa (show fH m p=none by rw[fH,ar hm]);have b0:((m:Int)/4503599627370496 != 0)=true:=by simp;omega
  clear hm;go_enter func216,ntmps216;go_wp2_with fail;go_ret2;exact .none HX.out
 ·have b0:((m:Int)/4503599627370496 != 0)=false:=by simp;omega
  by_cases h0:p=0
  ·have HX:=aa (show fH m p=some f by rw[fH,af hm,ar h0,HF.out]);subst h0;clear hm;go_enter func216,ntmps216;go_wp2_with fail;go_ret2;exact .some HX.out
  ·have e0:(p==0)=false:=by simp;exact h0
   by_cases h1:0<p∧p≤37
   ·have d1: ∀[inst:Decidable ((0:Int)<p)],@decide _ inst=true:=fun {inst}=>dQ h1.1
    have d2: ∀[inst:Decidable (p≤37)],@decide _ inst=true:=fun {inst}=>dQ h1.2
    have d1':((0:Int)<p)=True:=az h1.1;have d2':(p≤37)=True:=az h1.2;by_cases h2:22<p
    ·obtain⟨k,rfl⟩: ∃k:Nat,p=(k:Int)+22:=⟨(p-22).toNat,by omega⟩;have d3:((22:Int)<(k:Int)+22)=True:=az h2;have hk:k<23:=by omega
     have lI:0<k:=by omega
     have w22:wrap64 ((k:Int)+22-22)=(k:Int):=by unfold wrap64;omega
     have gk:=HT.out k hk;have g22:=HT.out 22 (by omega);obtain⟨ue,aa6⟩:=Gs HFL.out (rL hk);have HM1:=aa ue;obtain⟨hmul,_⟩:=Gs aa6 (rL (show 22<23 by omega));have Tn:=aa hmul;have hE:fH m ((k:Int)+22)=if F2 (ve f (ff k))then none else some (ve (ve f (ff k)) (ff 22)):=by
      rw[fH,af hm,af h0,ar h1,hfe,ar h2,ar h2,show ((k:Int)+22-22).toNat=k by omega]
     have HE:=aa hE;clear hmul hE h1 h2 hm h0 ue aa6;generalize ve f (ff k)=f1 at*
     cases b1:(FloatKind.f64.format.order f1 4831355200913801216==some .gt)
     ·cases b2:(FloatKind.f64.format.order f1 14054727237768577024==some .lt)
      ·go_enter func216,ntmps216;go_wp2_with fail;rw[Bb _ _ _ _ _ _ _ HM1.out];simp only[Result.andThen];rw[jO];go_wp2_with fail;rw[Bb _ _ _ _ _ _ _ Tn.out];simp only[Result.andThen];rw[jO];go_wp2_with fail;go_ret2;exact .some (by rw[HE.out,F2,b1,b2];rfl)
      ·go_enter func216,ntmps216;go_wp2_with fail;rw[Bb _ _ _ _ _ _ _ HM1.out];simp only[Result.andThen];rw[jO];go_wp2_with fail;go_ret2;exact .none (by rw[HE.out,F2,b1,b2];rfl)
     ·go_enter func216,ntmps216;go_wp2_with fail;rw[Bb _ _ _ _ _ _ _ HM1.out];simp only[Result.andThen];rw[jO];go_wp2_with fail;go_ret2;exact .none (by rw[HE.out,F2,b1];rfl)
    ·obtain⟨k,rfl⟩: ∃k:Nat,p=(k:Int):=⟨p.toNat,by omega⟩;have d3:((22:Int)<(k:Int))=False:=bL h2;have hk:k<23:=by omega
     have lI:0<k:=by omega
     have gk:=HT.out k hk;obtain⟨hmul,_⟩:=Gs HFL.out (rL hk);have Tn:=aa hmul;have hE:fH m (k:Int)=if F2 f then none else some (ve f (ff k)):=by
      rw[fH,af hm,af h0,ar h1,hfe,af h2,af h2,mq]
     have HE:=aa hE;clear hmul hE h1 h2 hm h0;cases b1:(FloatKind.f64.format.order f 4831355200913801216==some .gt)
     ·cases b2:(FloatKind.f64.format.order f 14054727237768577024==some .lt)
      ·go_enter func216,ntmps216;go_wp2_with fail;rw[Bb _ _ _ _ _ _ _ Tn.out];simp only[Result.andThen];rw[jO];go_wp2_with fail;go_ret2;exact .some (by rw[HE.out,F2,b1,b2];rfl)
      ·go_enter func216,ntmps216;go_wp2_with fail;go_ret2;exact .none (by rw[HE.out,F2,b1,b2];rfl)
     ·go_enter func216,ntmps216;go_wp2_with fail;go_ret2;exact .none (by rw[HE.out,F2,b1];rfl)
   ·by_cases h2:p<0∧ -22≤p
    ·obtain⟨k,rfl⟩: ∃k:Nat,p= -(k:Int):=⟨(-p).toNat,by omega⟩;have d1: ∀[inst:Decidable ((0:Int)< -(k:Int))],@decide _ inst=false:=fun {inst}=>gp (by omega)
     have d1':((0:Int)< -(k:Int))=False:=bL (by omega);have d2: ∀[inst:Decidable (-(k:Int)<0)],@decide _ inst=true:=fun {inst}=>dQ h2.1
     have d2':(-(k:Int)<0)=True:=az h2.1;have d3: ∀[inst:Decidable ((-22:Int)≤ -(k:Int))],@decide _ inst=true:=fun {inst}=>dQ h2.2
     have d3':((-22:Int)≤ -(k:Int))=True:=az h2.2;have hk:k<23:=by omega
     have lI:0<k:=by omega
     have wk:wrap64 (- -(k:Int))=(k:Int):=by unfold wrap64;omega
     have gk:=HT.out k hk;obtain⟨hmul,_⟩:=ON HFL.out (rL hk);have Tn:=aa hmul;have hE:fH m (-(k:Int))=some (F1 f (ff k)):=by
      rw[fH,af hm,af h0,af h1,ar h2,hfe,show (- -(k:Int)).toNat=k by omega]
     have HE:=aa hE;clear hmul hE h1 h2 hm h0;go_enter func216,ntmps216;go_wp2_with fail;rw[Bb _ _ _ _ _ _ _ Tn.out];simp only[Result.andThen];rw[jO];go_wp2_with fail;go_ret2;exact .some HE.out
    ·have hE:fH m p=none:=by rw[fH,af hm,af h0,af h1,af h2]
     have HE:=aa hE;by_cases hp0:0<p
     ·have d1: ∀[inst:Decidable ((0:Int)<p)],@decide _ inst=true:=fun {inst}=>dQ hp0
      have d1':((0:Int)<p)=True:=az hp0;have d2: ∀[inst:Decidable (p≤37)],@decide _ inst=false:=fun {inst}=>gp (by omega)
      have d2':(p≤37)=False:=bL (by omega);have d3: ∀[inst:Decidable (p<0)],@decide _ inst=false:=fun {inst}=>gp (by omega)
      have d3':(p<0)=False:=bL (by omega);clear hE h1 h2 hm h0;go_enter func216,ntmps216;go_wp2_with fail;go_ret2;exact .none HE.out
     ·have d1: ∀[inst:Decidable ((0:Int)<p)],@decide _ inst=false:=fun {inst}=>gp hp0
      have d1':((0:Int)<p)=False:=bL hp0;have d2: ∀[inst:Decidable (p<0)],@decide _ inst=true:=fun {inst}=>dQ (by omega)
      have d2':(p<0)=True:=az (by omega);have d3: ∀[inst:Decidable ((-22:Int)≤p)],@decide _ inst=false:=fun {inst}=>gp (by omega)
      have d3':((-22:Int)≤p)=False:=bL (by omega);clear hE h1 h2 hm h0;go_enter func216,ntmps216;go_wp2_with fail;go_ret2;exact .none HE.out
structure bh (w:World) (g:Nat) (D:Nat→Nat) (nd:Nat) (dp:Int) (neg tr:Bool):Prop where
 gQ: ∀i,i<800→w.cell? ⟨g,i,none⟩=some (.int .u8 (D i:Int))
 nd:w.cell? ⟨g,800,none⟩=some (.int .i64 (nd:Int))
 dp:w.cell? ⟨g,801,none⟩=some (.int .i64 dp)
 neg:w.cell? ⟨g,802,none⟩=some (.bool neg)
 tr:w.cell? ⟨g,803,none⟩=some (.bool tr)
 free: ∀i,w.frozen? ⟨g,i,none⟩=false
 lt:g<w.heap.size
section
variable {w:World} {g:Nat} {D:Nat→Nat} {nd:Nat} {dp:Int} {neg tr:Bool}
theorem bh.other (_:bh w g D nd dp neg tr) (u:Value) {j:Nat} (hj:j≠i) {v:Value} (hv:w.cell? ⟨g,j,none⟩=some v):(w.setCell ⟨g,i,none⟩ u).cell? ⟨g,j,none⟩=some v:=by
 rw[mX _ _ _ _ (by simp[hj]),hv]
theorem bh.I3 (h:bh w g D nd dp neg tr) (u:Value) (j:Nat):(w.setCell ⟨g,i,none⟩ u).frozen? ⟨g,j,none⟩=false:=(World.frozen?_setCell _ _ _ _).trans (h.free j)
theorem bh.lt' (h:bh w g D nd dp neg tr) (u:Value):g<(w.setCell ⟨g,i,none⟩ u).heap.size:=by simpa using h.lt
theorem bh.Bv (h:bh w g D nd dp neg tr) {i c:Nat} (hi:i<800) {z:Int} (hz:z=(c:Int)):bh (w.setCell ⟨g,i,none⟩ (.int .u8 z)) g (Hq D i c) nd dp neg tr:=by
 subst hz;refine⟨fun j hj=>?_,h.other _ (by omega) h.nd,h.other _ (by omega) h.dp,h.other _ (by omega) h.neg,h.other _ (by omega) h.tr,h.I3 _,h.lt' _⟩;by_cases e:j=i
 ·subst e;rw[El _ _ _ (h.gQ j hj),Hq,ar rfl]
 ·rw[h.other _ e (h.gQ j hj),Hq,af e]
theorem bh.Bp (h:bh w g D nd dp neg tr) {n:Nat} {z:Int} (hz:z=(n:Int)):bh (w.setCell ⟨g,800,none⟩ (.int .i64 z)) g D n dp neg tr:=by
 subst hz;exact⟨fun j hj=>h.other _ (by omega) (h.gQ j hj),El _ _ _ h.nd,h.other _ (by omega) h.dp,h.other _ (by omega) h.neg,h.other _ (by omega) h.tr,h.I3 _,h.lt' _⟩
theorem bh.EH (h:bh w g D nd dp neg tr) (z:Int):bh (w.setCell ⟨g,801,none⟩ (.int .i64 z)) g D nd z neg tr:=
 ⟨fun j hj=>h.other _ (by omega) (h.gQ j hj),h.other _ (by omega) h.nd,El _ _ _ h.dp,h.other _ (by omega) h.neg,h.other _ (by omega) h.tr,h.I3 _,h.lt' _⟩
theorem bh.acC (h:bh w g D nd dp neg tr) (b:Bool):bh (w.setCell ⟨g,802,none⟩ (.bool b)) g D nd dp b tr:=
 ⟨fun j hj=>h.other _ (by omega) (h.gQ j hj),h.other _ (by omega) h.nd,h.other _ (by omega) h.dp,El _ _ _ h.neg,h.other _ (by omega) h.tr,h.I3 _,h.lt' _⟩
theorem bh.OD (h:bh w g D nd dp neg tr) (b:Bool):bh (w.setCell ⟨g,803,none⟩ (.bool b)) g D nd dp neg b:=
 ⟨fun j hj=>h.other _ (by omega) (h.gQ j hj),h.other _ (by omega) h.nd,h.other _ (by omega) h.dp,h.other _ (by omega) h.neg,El _ _ _ h.tr,h.I3 _,h.lt' _⟩
theorem bh.drew (h:bh w g D nd dp neg tr) (n:Nat):bh (w.drewN n) g D nd dp neg tr:=⟨h.gQ,h.nd,h.dp,h.neg,h.tr,h.free,h.lt⟩
end
def LV (w:World) (g:Nat):Nat:=match w.cell? ⟨g,800,none⟩with|some (.int _ k)=>k.toNat|_=>0
theorem bh.LV {w:World} {g:Nat} {D:Nat→Nat} {nd:Nat} {dp:Int} {neg tr:Bool} (h:bh w g D nd dp neg tr):LV w g=nd:=by
 unfold Go.Proofs.YtcdoilkjmjbgmaaGreatDoor.LV;rw[h.nd];simp
theorem BX (w:World) (B g:Nat) (D:Nat→Nat) (nd:Nat) (dp:Int) (neg tr:Bool) (h:bh w g D nd dp neg tr) (sX:nd≤800) (hB:B≤g):
  Calls prog 245 #[.pointer (some ⟨g,0,none⟩)] w fun e w'=>e= .returned (.tuple #[])∧bh w' g D (ez D nd) (pY D nd dp) neg tr∧Below B w w':=by
 obtain⟨T,hT⟩: ∃T,T=ez D nd:=⟨_,rfl⟩;obtain⟨DP,hDP⟩: ∃DP,DP=pY D nd dp:=⟨_,rfl⟩;have xe:DP=if T=0 then 0 else dp:=by rw[hDP,pY,hT]
 rw[←hDP,←hT];clear hDP;have HT:=aa hT;have H0:=aa h;have xc:=aa xe;clear hT h xe;go_enter func245,ntmps245;go_wp2_with fail;go_loopw [] (fun wr=> ∃m:Nat,Hid (m≤800∧bh wr g D m dp neg tr∧ez D m=T∧Below B w wr)) (fun wr=>LV wr g)
 case atStart=>exact⟨nd,aa ⟨sX,H0,HT.symm,aS _ _⟩⟩
 case round=>
  obtain⟨m,hI⟩:=hrel;have d0:=hI.2.1.nd;have d1:=hI.2.1.dp;have f0:=hI.2.1.free 800;have f1:=hI.2.1.free 801;cases m with
  |zero=>
   go_wp2_with fail;go_quiet (fail);have kl:bh (wr.drewN nq) g D 0 dp neg tr:=hI.2.1.drew nq;have aM:=bS hI.2.2.2 nq;have XK:T=0:=by rw[←hI.out.2.2.1];rfl
   clear d0 d1 f0 f1;generalize wr.drewN nq=w2 at kl aM ⊢
   have d0:=kl.nd;have d1:=kl.dp;have f1:=kl.free 801;have H2:=aa kl;have bD:=aa aM;have HT0:=aa XK;clear kl aM XK;go_wp2_with fail;go_end0;refine⟨rfl,?_,bD.setCell (p:=⟨g,801,none⟩) hB _⟩;rw[xc.out,ar HT0.out,HT0.out];exact H2.EH 0
  |succ k=>
   have hk:k<800:=hI.1;have p1:((k:Int)<800)=True:=by simp;omega
   have p0:((0:Int)<(k:Int)+1)=True:=az (by omega);have dk:=hI.2.1.gQ k hk;cases qS:((D k:Int)==48)
   ·have bC:D k≠48:=by intro h;rw[h]at qS;simp at qS
    have Oc:T=k+1:=by rw[←hI.out.2.2.1,ez,af bC]
    go_wp2_with fail;go_quiet (fail);have kl:bh (wr.drewN nq) g D (k+1) dp neg tr:=hI.2.1.drew nq;have aM:=bS hI.2.2.2 nq;clear d0 d1 f0 f1 dk;generalize wr.drewN nq=w2 at kl aM ⊢
    have d0:=kl.nd;have p2:((k:Int)+1=0)=False:=bL (by omega);have H2:=aa kl;have bD:=aa aM;have S0:=aa Oc;clear kl aM Oc bC;go_wp2_with fail;go_end0;rw[xc.out,af (by rw[S0.out];omega),S0.out];exact⟨rfl,H2,bD⟩
   ·have he:D k=48:=by
     have:(D k:Int)=48:=by simpa using qS
     omega
    have Oc:ez D k=T:=by rw[←hI.out.2.2.1,ez,ar he]
    go_wp2_with fail;go_quiet (fail);have kl:bh (wr.drewN nq) g D (k+1) dp neg tr:=hI.2.1.drew nq;have aM:=bS hI.2.2.2 nq;have sX:LV wr g=k+1:=hI.2.1.LV;clear d0 d1 f0 f1 dk;generalize wr.drewN nq=w2 at kl aM ⊢
    have d0:=kl.nd;have f0:=kl.free 800;have H2:=aa kl;have bD:=aa aM;have S0:=aa Oc;have HND:=aa sX;clear kl aM Oc he sX;go_wp2_with fail;go_roundw
    case rel=>exact⟨k,aa ⟨by omega,H2.Bp (by first|rfl|(simp only[wrap64];omega)),S0,bD.setCell (p:=⟨g,800,none⟩) hB _⟩⟩
    case measure=>
     rw[HND.out,(H2.out.Bp (n:=k) (by first|rfl|(simp only[wrap64];omega))).LV];exact vw k
theorem qy {fn:Func} {a b c d e f g:Tmp} (h:fn.results= #[.tmp a,.tmp b,.tmp c,.tmp d,.tmp e,.tmp f,.tmp g]) (tmps:Array Value) (P:Program) (w:World):
  (results fn tmps).run P w= .ok (.tuple #[tmps.getD a undef,tmps.getD b undef,tmps.getD c undef,tmps.getD d undef,tmps.getD e undef,tmps.getD f undef,tmps.getD g undef]) w:=by
 simp[results,h]
theorem vi {k:IntKind} (h:a=b):Value.int k a=Value.int k b:=by rw[h]
theorem al0 {M:Int} (h:X=X'):Ending.returned (.tuple #[.int .u64 M,.int .i64 X,.bool false,.bool tr,.bool false,.int .i64 z,.bool true])= .returned (.tuple #[.int .u64 M,.int .i64 X',.bool false,.bool tr,.bool false,.int .i64 z,.bool true]):=by rw[h]
theorem VF (h:M=0):oQ ⟨M,N,D,P,dt,dg,tr⟩ E=0:=by rw[oQ,af (by simpa using h)]
theorem Fv (hM:M≠0) (b:N≤19∧D≤1000∧ -1000≤P∧P≤1000) (he:e≤100009) (hb:base=if dt then P else(D:Int)) (hs:sg=(e:Int)∨sg= -(e:Int)):
  wrap64 (wrap64 (base+sg)-(N:Int))=oQ ⟨M,N,D,P,dt,dg,tr⟩ sg:=by
 have aM: -1000≤base∧base≤1000:=by
  rw[hb];split<;>omega
 rw[oQ,ar hM];simp only;rw[←hb];unfold wrap64;omega
theorem acD {m z:Nat} (n1:N≤19) (n3:D≤k) (n5: -(k:Int)≤P) (n6:P≤k) (hk:k≤m) (hm:m≤z) (hs:z≤1000):N≤19∧D≤1000∧ -1000≤P∧P≤1000:=by omega
set_option maxHeartbeats 8000000 in
theorem wY (s:ByteArray) (w:World) (hs:s.size≤1000) (mm:Nat) (E:Int) (hE:mm=s.size∧E=0∨ ∃j neg,I2 s.data.toList mm j neg∧E=if neg then-((zK s.data.toList j s.size:Nat):Int)else((zK s.data.toList j s.size:Nat):Int)) (hm:lp s.data.toList mm) (h0:0<mm) (i0:Nat) (ti:i0<mm) (hd:digit (an s.data.toList i0)=true)
  (hx: ∀h:2<s.size,((s[1].toNat|||32:Nat):Int)≠120) (M N D:Nat) (P:Int) (dt dg tr:Bool) (hr:fh s.data.toList mm=⟨M,N,D,P,dt,dg,tr⟩):
  Calls prog 206 #[.string s] w fun e w'=>e= .returned (.tuple #[.int .u64 (M:Int),.int .i64 (oQ ⟨M,N,D,P,dt,dg,tr⟩ E),.bool false,.bool tr,.bool false,.int .i64 (s.size:Int),.bool true])∧w=w':=by
 have AP:=hm.1;rw[ab]at AP;have s7:0<s.size:=by omega
 have SK:((s[0].toNat:Int)==43)=false∧((s[0].toNat:Int)==45)=false:=by
  have h1:=hm.2 0 h0;rw[aq s7]at h1;rcases h1 with h1|h1
  ·have:=aG h1;constructor<;>(simp;omega)
  ·constructor<;>(simp;omega)
 obtain⟨e43,e45⟩:=SK;have z1:(s=ByteArray.empty)=False:=by
  apply bL;intro h;rw[h]at s7;simp at s7
 have HE:=aa hE;clear hE;have HM:=aa hm;have HX:=aa hx;have HR:=aa hr;have HD:=aa hd;have HI:=aa ti;clear hm hx hr hd ti;go_enter func206,ntmps206;go_wp2_with fail;go_step3;go_upto_region 12 with fail
 go_cut [54]from 36 to 54 (fun c wx=>c= .bool false∧wx=w)
 case first=>
  by_cases h2:2<s.size
  ·have q1:((2:Int)<(s.size:Int))=True:=by simp;omega
   cases qS:((s[0].toNat:Int)==48)
   ·go_wp2_with fail;go_meet;exact⟨rfl,rfl⟩
   ·have al3:(bits .or .u8 ((s[1].toNat:Nat):Int) 32==120)=false:=by
     have:=HX.out h2;rw[show bits .or .u8 ((s[1].toNat:Nat):Int) 32=((s[1].toNat|||32:Nat):Int)from vG s[1].toNat 32 (mz _) (by omega)];simpa using this
    go_wp2_with fail;refine(Tryz.internal_strconv_lower _ _).mono ?_;rintro e w' ⟨rfl,rfl⟩;go_wp2_with fail;go_meet;exact⟨rfl,rfl⟩
  ·have q1:((2:Int)<(s.size:Int))=False:=by simp;omega
   go_wp2_with fail;go_meet;exact⟨rfl,rfl⟩
 case rest=>
  obtain⟨rfl,rfl⟩:=hcut;go_wp2_with fail;go_step3;go_wp2_with fail;go_loop [2,5,7,9,13,14,15,16,17] (fun t2 t5 t7 t9 t13 t14 t15 t16 t17=> ∃(k M N D:Nat) (P:Int) (dt dg tr:Bool),Hid (fh s.data.toList k=⟨M,N,D,P,dt,dg,tr⟩)∧Hid (k≤mm)∧t2= .int .u64 (M:Int)∧t5= .bool tr∧t7= .int .i64 (k:Int)∧t9= .bool false∧t13= .bool dt∧t14= .bool dg∧t15= .int .i64 (D:Int)∧t16= .int .i64 (N:Int)∧t17= .int .i64 P) (fun t2 t5 t7 t9 t13 t14 t15 t16 t17=>s.size-(intOf t7).toNat)
  case atStart=>exact⟨0,0,0,0,0,false,false,false,aa rfl,aa (aT _),rfl,rfl,rfl,rfl,rfl,rfl,rfl,rfl,rfl⟩
  case round=>
   obtain⟨k,M1,N1,D1,P1,XL,dg1,XM,cA,PA,rfl,rfl,rfl,rfl,rfl,rfl,rfl,rfl,rfl⟩:=hrel;have cC:=AA HM.out k PA.out;rw[cA.out]at cC;obtain⟨⟨n1,n2,n3⟩,n4,n5,n6⟩:=cC;simp only at n1 n2 n3 n4 n5 n6;have H4:=aa n4;clear n4;have afK:=PA.out;have wk:wrap64 ((k:Int)+1)=((k+1:Nat):Int):=by unfold wrap64;omega
   have wd:wrap64 ((D1:Int)+1)=((D1+1:Nat):Int):=by unfold wrap64;omega
   have wn:wrap64 ((N1:Int)+1)=((N1+1:Nat):Int):=by unfold wrap64;omega
   have wp:wrap64 (P1-1)=P1-1:=by unfold wrap64;omega
   by_cases au:k<mm
   ·have ox:k<s.size:=by omega
    have nU:k<s.data.toList.length:=by rw[ab];exact ox
    have cB:an s.data.toList k=s[k]:=aq ox;have q1:((k:Int)<(s.size:Int))=True:=by simp;omega
    have nu:=HM.out.2 k au;rw[cB]at nu;have p10:N1<19→M1<1000000000000000000:=fun h=>gO H4.out (ee (n:=10) (by omega) (show N1≤18 by omega))
    have afL:(s[k].toNat=46∨48≤s[k].toNat∧s[k].toNat≤57):=by
     rcases nu with h|h
     ·exact .inr (aG h)
     ·exact .inl h.1
    have HB:=aa (show N1≤19∧N1≤D1∧D1≤k∧(N1<19→M1<1000000000000000000)∧ -(k:Int)≤P1∧P1≤k∧(s[k].toNat=46∨48≤s[k].toNat∧s[k].toNat≤57)∧k<1000 from⟨n1,n2,n3,p10,n5,n6,afL,by omega⟩);clear p10 afL;by_cases oy:s[k].toNat=46
    ·have Z9:((s[k].toNat:Int)==95)=false:=by rw[oy];rfl
     have so:((s[k].toNat:Int)==46)=true:=by rw[oy];rfl
     have hdt:XL=false:=by
      have h1:=Js k (by omega) (nu.resolve_left (by intro h;have:=aG h;omega)).2;rw[cA.out]at h1;exact h1
     subst hdt;have HN:=aa (ags cA.out nU (by rw[cB];exact oy));have HK:=aa (show k+1≤mm by omega);have HA:=aa cB;clear nu cB n1 n2 n3 n5 n6;go_wp2_with fail
     all_goals first
      |(exfalso;first|(have:=js qS;omega)|(have:=kA qS;omega)|(have:=js ne;omega)|(have:=kA ne;omega)|omega)
      |(go_round;(case rel=>exact⟨k+1,M1,N1,D1,D1,true,dg1,XM,HN,HK,(vi (by first|rfl|omega|(obtain⟨b1,b2,b3,b4,b5,b6,b7,b8⟩:=HB.out;simp only[wrap64,cT,iW];omega))),rfl,(vi (by first|rfl|omega|(obtain⟨b1,b2,b3,b4,b5,b6,b7,b8⟩:=HB.out;simp only[wrap64,cT,iW];omega))),rfl,rfl,rfl,(vi (by first|rfl|omega|(obtain⟨b1,b2,b3,b4,b5,b6,b7,b8⟩:=HB.out;simp only[wrap64,cT,iW];omega))),(vi (by first|rfl|omega|(obtain⟨b1,b2,b3,b4,b5,b6,b7,b8⟩:=HB.out;simp only[wrap64,cT,iW];omega))),(vi (by first|rfl|omega|(obtain⟨b1,b2,b3,b4,b5,b6,b7,b8⟩:=HB.out;simp only[wrap64,cT,iW];omega)))⟩);(case measure=>simp[intOf];omega))
    ·have oE:digit s[k]=true:=nu.resolve_right (fun h=>oy h.1);have Dt:=aG oE;have Z9:((s[k].toNat:Int)==95)=false:=by simp;omega
     have so:((s[k].toNat:Int)==46)=false:=by simp;omega
     have g1:((48:Int)≤(s[k].toNat:Int))=True:=by simp;omega
     have g2:((s[k].toNat:Int)≤57)=True:=by simp;omega
     have HA:=aa cB;have HK:=aa (show k+1≤mm by omega);have HDG:=aa oE;have HDF:=aa Dt;by_cases hz:s[k].toNat=48∧D1=0
     ·have qS:((s[k].toNat:Int)==48)=true:=by rw[hz.1];rfl
      obtain⟨db,rfl⟩:=hz;have HN:=aa (YB cA.out nU (by rw[cB];exact db) rfl);clear nu cB n1 n2 n3 n5 n6 Dt;go_wp2_with fail
      all_goals first
       |(exfalso;first|(have:=js qS;omega)|(have:=kA qS;omega)|(have:=js ne;omega)|(have:=kA ne;omega)|omega)
       |(go_round;(case rel=>exact⟨k+1,M1,N1,0,P1-1,XL,true,XM,HN,HK,(vi (by first|rfl|omega|(obtain⟨b1,b2,b3,b4,b5,b6,b7,b8⟩:=HB.out;simp only[wrap64,cT,iW];omega))),rfl,(vi (by first|rfl|omega|(obtain⟨b1,b2,b3,b4,b5,b6,b7,b8⟩:=HB.out;simp only[wrap64,cT,iW];omega))),rfl,rfl,rfl,(vi (by first|rfl|omega|(obtain⟨b1,b2,b3,b4,b5,b6,b7,b8⟩:=HB.out;simp only[wrap64,cT,iW];omega))),(vi (by first|rfl|omega|(obtain⟨b1,b2,b3,b4,b5,b6,b7,b8⟩:=HB.out;simp only[wrap64,cT,iW];omega))),(vi (by first|rfl|omega|(obtain⟨b1,b2,b3,b4,b5,b6,b7,b8⟩:=HB.out;simp only[wrap64,cT,iW];omega)))⟩);(case measure=>simp[intOf];omega))
     ·have ej:((s[k].toNat:Int)==48)=false∨((s[k].toNat:Int)==48)=true∧((D1:Int)==0)=false:=by
       by_cases h1:s[k].toNat=48
       ·right;have hD1:D1≠0:=fun h=>hz ⟨h1,h⟩
        refine⟨by rw[h1];rfl,?_⟩;simp;omega
       ·left;simp;omega
      by_cases hn:N1<19
      ·have e19:((N1:Int)<19)=True:=by simp;omega
       have hN:=agt cA.out nU (by rw[cB];exact oE) (by rw[cB];exact hz) hn;rw[cB]at hN;have HN:=aa hN;clear nu cB n1 n2 n3 n5 n6 hz Dt hN;rcases ej with qS|⟨qS,ed⟩
       all_goals
        go_wp2_with fail
        all_goals first
         |(exfalso;first|(have:=js qS;omega)|(have:=kA qS;omega)|(have:=js ne;omega)|(have:=kA ne;omega)|omega)
         |(go_round;(case rel=>exact⟨k+1,M1*10+(s[k].toNat-48),N1+1,D1+1,P1,XL,true,XM,HN,HK,(vi (by first|rfl|omega|(obtain⟨b1,b2,b3,b4,b5,b6,b7,b8⟩:=HB.out;simp only[wrap64,cT,iW];omega))),rfl,(vi (by first|rfl|omega|(obtain⟨b1,b2,b3,b4,b5,b6,b7,b8⟩:=HB.out;simp only[wrap64,cT,iW];omega))),rfl,rfl,rfl,(vi (by first|rfl|omega|(obtain⟨b1,b2,b3,b4,b5,b6,b7,b8⟩:=HB.out;simp only[wrap64,cT,iW];omega))),(vi (by first|rfl|omega|(obtain⟨b1,b2,b3,b4,b5,b6,b7,b8⟩:=HB.out;simp only[wrap64,cT,iW];omega))),(vi (by first|rfl|omega|(obtain⟨b1,b2,b3,b4,b5,b6,b7,b8⟩:=HB.out;simp only[wrap64,cT,iW];omega)))⟩);(case measure=>simp[intOf];omega))
      ·have e19:((N1:Int)<19)=False:=by simp;omega
       cases ne:((s[k].toNat:Int) != 48)
       ·have Sh:s[k].toNat=48:=by
         have:(s[k].toNat:Int)=48:=by simpa using ne
         omega
        have hN:=YC cA.out nU (by rw[cB];exact Sh) (by rw[cB];exact hz) hn;have HN:=aa hN;clear nu cB n1 n2 n3 n5 n6 hz Dt hN;rcases ej with qS|⟨qS,ed⟩
        all_goals
         go_wp2_with fail
         all_goals first
          |(exfalso;first|(have:=js qS;omega)|(have:=kA qS;omega)|(have:=js ne;omega)|(have:=kA ne;omega)|omega)
          |(go_round;(case rel=>exact⟨k+1,M1,N1,D1+1,P1,XL,true,XM,HN,HK,(vi (by first|rfl|omega|(obtain⟨b1,b2,b3,b4,b5,b6,b7,b8⟩:=HB.out;simp only[wrap64,cT,iW];omega))),rfl,(vi (by first|rfl|omega|(obtain⟨b1,b2,b3,b4,b5,b6,b7,b8⟩:=HB.out;simp only[wrap64,cT,iW];omega))),rfl,rfl,rfl,(vi (by first|rfl|omega|(obtain⟨b1,b2,b3,b4,b5,b6,b7,b8⟩:=HB.out;simp only[wrap64,cT,iW];omega))),(vi (by first|rfl|omega|(obtain⟨b1,b2,b3,b4,b5,b6,b7,b8⟩:=HB.out;simp only[wrap64,cT,iW];omega))),(vi (by first|rfl|omega|(obtain⟨b1,b2,b3,b4,b5,b6,b7,b8⟩:=HB.out;simp only[wrap64,cT,iW];omega)))⟩);(case measure=>simp[intOf];omega))
       ·have Sh:s[k].toNat≠48:=by
         have: ¬(s[k].toNat:Int)=48:=by simpa using ne
         omega
        have hN:=YD cA.out nU (by rw[cB];exact oE) (by rw[cB];exact Sh) hn;have HN:=aa hN;clear nu cB n1 n2 n3 n5 n6 hz Dt hN;rcases ej with qS|⟨qS,ed⟩
        all_goals
         go_wp2_with fail
         all_goals first
          |(exfalso;first|(have:=js qS;omega)|(have:=kA qS;omega)|(have:=js ne;omega)|(have:=kA ne;omega)|omega)
          |(go_round;(case rel=>exact⟨k+1,M1,N1,D1+1,P1,XL,true,true,HN,HK,(vi (by first|rfl|omega|(obtain⟨b1,b2,b3,b4,b5,b6,b7,b8⟩:=HB.out;simp only[wrap64,cT,iW];omega))),rfl,(vi (by first|rfl|omega|(obtain⟨b1,b2,b3,b4,b5,b6,b7,b8⟩:=HB.out;simp only[wrap64,cT,iW];omega))),rfl,rfl,rfl,(vi (by first|rfl|omega|(obtain⟨b1,b2,b3,b4,b5,b6,b7,b8⟩:=HB.out;simp only[wrap64,cT,iW];omega))),(vi (by first|rfl|omega|(obtain⟨b1,b2,b3,b4,b5,b6,b7,b8⟩:=HB.out;simp only[wrap64,cT,iW];omega))),(vi (by first|rfl|omega|(obtain⟨b1,b2,b3,b4,b5,b6,b7,b8⟩:=HB.out;simp only[wrap64,cT,iW];omega)))⟩);(case measure=>simp[intOf];omega))
   ·have LW:k=mm:=by omega
    have kH:=cA.out;have qR:=Jt HM.out HD.out k PA.out (by have:=HI.out;omega);rw[LW,HR.out]at kH;rw[cA.out]at qR;simp only at qR;injection kH with i1 i2 i3 i4 i5 i6 i7
    subst i1 i2 i3 i4 i5 i6 i7 qR;clear au;rcases HE.out with⟨hmz,rfl⟩|⟨j,neg,hex,hEE⟩
    ·rw[hmz]at LW;clear HE;have q1:((k:Int)<(s.size:Int))=False:=by simp;omega
     have tX:(k:Int)=(s.size:Int):=by omega
     have wx:wrap64 ((D:Int)-(N:Int))=(D:Int)-(N:Int):=by unfold wrap64;omega
     have wy:wrap64 (P-(N:Int))=P-(N:Int):=by unfold wrap64;omega
     have WV:=aa (show oQ ⟨M,N,D,P,dt,true,tr⟩ 0=if M≠0 then(if dt then P else(D:Int))-(N:Int)else 0 by simp[oQ]);clear n1 n2 n3 n5 n6 afK;cases dt
     all_goals
      cases em:((M:Int) != 0)
      all_goals
       go_wp2_with fail
       try rw[rq]
       refine cz (qy rfl _ _ _) rfl ?_;refine⟨?_,rfl⟩;rw[WV.out]
       first
        |(have hM:=AV em;subst hM;simp[tX];done)
        |(have hM:=zX em;rw[ar hM];simp[tX];done)
    ·subst LW;clear HE;have ox:=hex.lt;rw[ab]at ox;have cB:=aq (s:=s) ox;have q1:((k:Int)<(s.size:Int))=True:=by simp;omega
     have hE:s[k].toNat=101∨s[k].toNat=69:=by
      have:=hex.tj;rw[cB]at this;simp[tj]at this;exact this
     have Z9:((s[k].toNat:Int)==95)=false:=by simp;omega
     have so:((s[k].toNat:Int)==46)=false:=by simp;omega
     have g1:((48:Int)≤(s[k].toNat:Int))=True:=by simp;omega
     have g2:((s[k].toNat:Int)≤57)=False:=by simp;omega
     have LX:(bits .or .u8 ((s[k].toNat:Nat):Int) 32==101)=true:=by
      rw[show bits .or .u8 ((s[k].toNat:Nat):Int) 32=((s[k].toNat|||32:Nat):Int)from vG s[k].toNat 32 (mz _) (by omega)];rcases hE with h|h<;>(rw[h];rfl)
     have hjl:=hex.some;rw[ab]at hjl;have hkj:k+1≤j:=by rcases hex.sign with h|h|h<;>omega
     have al4:k+1<s.size:=by omega
     have wk2:wrap64 ((k:Int)+1+1)=(k:Int)+2:=by unfold wrap64;omega
     have hNB:=aa (acD n1 n3 n5 n6 afK AP hs);have XF:(j=k+1∧neg=false∧((s[k+1].toNat:Int)==43)=false∧((s[k+1].toNat:Int)==45)=false)∨(j=k+2∧neg=false∧((s[k+1].toNat:Int)==43)=true)∨(j=k+2∧neg=true∧((s[k+1].toNat:Int)==43)=false∧((s[k+1].toNat:Int)==45)=true):=by
      have rj:=aq (s:=s) al4;rcases hex.sign with⟨h1,h2,h3⟩|⟨h1,h2,h3⟩|⟨h1,h2,h3⟩
      ·left;subst h1;rw[rj]at h3;have:=aG h3;refine⟨rfl,h2,?_,?_⟩<;>(simp;omega)
      ·right;left;rw[rj]at h3;exact⟨h1,h2,by rw[h3];rfl⟩
      ·right;right;rw[rj]at h3;exact⟨h1,h2,by rw[h3];rfl,by rw[h3];rfl⟩
     have abB:=hex.fe j (aP _) (by rw[ab];exact hjl);rw[aq hjl]at abB;have hjf:=aG abB;have r2n: ∀[inst:Decidable ((s[j].toNat:Int)<48)],@decide _ inst=false:=fun {inst}=>gp (by omega)
     have r3n: ∀[inst:Decidable ((57:Int)<(s[j].toNat:Int))],@decide _ inst=false:=fun {inst}=>gp (by omega)
     obtain⟨J,hJ⟩: ∃J,j=J:=⟨_,rfl⟩;have HDG:Hid (∀i,J≤i→i<s.data.toList.length→digit (an s.data.toList i)=true):=aa (by rw[←hJ];exact hex.fe);have HJL:Hid (J<s.size):=aa (by rw[←hJ];exact hjl);have HEE:Hid (E=if neg then-((zK s.data.toList J s.size:Nat):Int)else((zK s.data.toList J s.size:Nat):Int)):=aa (by rw[←hJ];exact hEE);have HL1:=aa LX;have HL5:=aa wk2;clear LX wk2 abB hEE;clear cB hE hex n1 n2 n3 n5 n6;rcases XF with⟨rfl,rfl,x43,x45⟩|⟨rfl,rfl,x43⟩|⟨rfl,rfl,x43,x45⟩
     all_goals
      have HJ:=aa hJ;clear hJ
      try have r4:((s.size:Int)≤(k:Int)+2)=False:=by have:=HJL.out;have:=HJ.out;simp;omega
      cases dt
      all_goals
       go_wp2_with fail;refine(Tryz.internal_strconv_lower _ _).mono ?_;rintro e w' ⟨rfl,rfl⟩;have LX:=HL1.out;have q2:((s.size:Int)≤(k:Int)+1)=False:=by have:=HJL.out;have:=HJ.out;simp;omega
       clear wk;go_upto_region 67 with fail
       go_upto_region 68 with fail
       go_wp2_with fail;go_loop [7,9,20] (fun t7 t9 t20=> ∃(i e:Nat),Hid (zK s.data.toList J i=e)∧Hid (J≤i∧i≤s.size)∧t7= .int .i64 (i:Int)∧t9= .bool false∧t20= .int .i64 (e:Int)) (fun t7 t9 t20=>s.size-(intOf t7).toNat)
       case atStart=>exact⟨J,0,aa (pb _ _),aa ⟨aP _,jt HJL.out⟩,(vi (by have:=HJ.out;omega)),rfl,rfl⟩
       case round=>
        obtain⟨i,e,hei,Z1,rfl,rfl,rfl⟩:=hrel;have Iz:=Z1.out;have NW:e≤100009:=by
         rw[←hei.out];exact Gd i Iz.1 (by rw[ab];exact Iz.2) fun i' h1 h2=>HDG.out i' h1 (by rw[ab];omega)
        by_cases hi:i<s.size
        ·have ua:=HDG.out i Iz.1 (by rw[ab];exact hi);rw[aq hi]at ua;have WX:=aG ua;have I4:zK s.data.toList J (i+1)=mF e s[i]:=by rw[wg Iz.1 (by rw[ab];exact hi),hei.out,aq hi]
         have HSC:=aa I4;have HIF:=aa WX;have p1:((i:Int)<(s.size:Int))=True:=by simp;omega
         have p2: ∀[inst:Decidable ((48:Int)≤(s[i].toNat:Int))],@decide _ inst=true:=fun {inst}=>dQ (by omega)
         have p3: ∀[inst:Decidable ((s[i].toNat:Int)≤57)],@decide _ inst=true:=fun {inst}=>dQ (by omega)
         have p4:((s[i].toNat:Int)==95)=false:=by simp;omega
         have HIB:=aa (show J≤i+1∧i+1≤s.size by omega);clear ua I4 q2 Iz;by_cases h4:e<10000
         ·have p5:((e:Int)<10000)=True:=by simp;omega
          have cA:mF e s[i]=e*10+(s[i].toNat-48):=by rw[mF,ar h4]
          have sr:=aa (HSC.out.trans cA);clear cA;go_wp2_with fail
          all_goals first
           |(exfalso;omega)
           |(go_round;(case rel=>exact⟨i+1,e*10+(s[i].toNat-48),sr,HIB,(vi (by first|rfl|omega|(simp only[wrap64];omega))),rfl,(vi (by first|rfl|omega|(simp only[wrap64];omega)))⟩);(case measure=>simp[intOf];omega))
         ·have p5:((e:Int)<10000)=False:=by simp;omega
          have cA:mF e s[i]=e:=by rw[mF,af h4]
          have sr:=aa (HSC.out.trans cA);clear cA;go_wp2_with fail
          all_goals first
           |(exfalso;omega)
           |(go_round;(case rel=>exact⟨i+1,e,sr,HIB,(vi (by first|rfl|omega|(simp only[wrap64];omega))),rfl,rfl⟩);(case measure=>simp[intOf];omega))
        ·have Ly:i=s.size:=by omega
         subst Ly;clear q2;cases em:((M:Int) != 0)
         all_goals
          go_wp2_with fail
          try rw[rq]
          refine cz (qy rfl _ _ _) rfl ?_;refine⟨al0 ?_,rfl⟩;rw[HEE.out,hei.out]
          first
           |exact(VF (AV em)).symm
           |exact Fv (zX em) hNB.out NW rfl (.inl rfl)
           |exact Fv (zX em) hNB.out NW rfl (.inr rfl)
theorem agS {M:Int} (h:X=X') (hz:z=z'):Ending.returned (.tuple #[.int .u64 M,.int .i64 X,.bool false,.bool tr,.bool true,.int .i64 z,.bool true])= .returned (.tuple #[.int .u64 M,.int .i64 X',.bool false,.bool tr,.bool true,.int .i64 z',.bool true]):=by rw[h,hz]
def Me (m k:Nat) (P:Int) (dg:Bool):Prop:=2≤k∧k≤m∧ -(k:Int)≤P∧P≤0∧(2<k→dg=true)
def lv (M N D:Nat):Int:=if M≠0 then 4*(D:Int)-4*(N:Int)else 0
theorem VG (h:M=0):lv M N D=0:=by rw[lv,af (by simpa using h)]
theorem Rl (hM:M≠0) (h:N≤16∧D≤1000):wrap64 (wrap64 (wrap64 ((D:Int)*4))-wrap64 ((N:Int)*4))=lv M N D:=by
 rw[lv,ar hM];unfold wrap64;omega
theorem al5 (h:M<1152921504606846976) (hv:v<16):IntKind.u64.wrap ((M:Int)*16)=((M*16:Nat):Int)∧IntKind.u64.wrap (((M*16:Nat):Int)+(v:Int))=((M*16+v:Nat):Int):=by
 constructor<;>(rw[cT];omega)
set_option maxHeartbeats 8000000 in
theorem yk (s:ByteArray) (w:World) (m:Nat) (hs:s.size≤1000) (XD:3≤m) (hmz:m+1<s.size) (γ:s[0].toNat=48) (lg:(s[1].toNat|||32)=120) (hm:EE s.data.toList m) (hp1:s[m].toNat=112) (Ap:s[m+1].toNat=48) (jf:s.size=m+2)
  (M N D:Nat) (tr:Bool) (hr:eG s.data.toList m=⟨M,N,D,tr⟩):
  Calls prog 206 #[.string s] w fun e w'=>e= .returned (.tuple #[.int .u64 (M:Int),.int .i64 (lv M N D),.bool false,.bool tr,.bool true,.int .i64 (s.size:Int),.bool true])∧w=w':=by
 have WG:=aa jf;clear jf;have h2s:2<s.size:=by omega
 have e43:((s[0].toNat:Int)==43)=false:=by rw[γ];rfl
 have e45:((s[0].toNat:Int)==45)=false:=by rw[γ];rfl
 have z1:(s=ByteArray.empty)=False:=by
  apply bL;intro h;rw[h]at h2s;simp at h2s
 have HM:=aa hm;have HR:=aa hr;have HP1:=aa hp1;have HP2:=aa Ap;have WV:=aa lg;have HX0:=aa γ;clear hm hr hp1 Ap lg γ;go_enter func206,ntmps206;go_wp2_with fail;go_step3;go_upto_region 12 with fail
 go_cut [54]from 36 to 54 (fun c wx=>c= .bool true∧wx=w)
 case first=>
  have q1:((2:Int)<(s.size:Int))=True:=by simp;omega
  have qS:((s[0].toNat:Int)==48)=true:=by rw[HX0.out];rfl
  have al3:(bits .or .u8 ((s[1].toNat:Nat):Int) 32==120)=true:=by
   rw[show bits .or .u8 ((s[1].toNat:Nat):Int) 32=((s[1].toNat|||32:Nat):Int)from vG s[1].toNat 32 (mz _) (by omega),WV.out];rfl
  go_wp2_with fail;refine(Tryz.internal_strconv_lower _ _).mono ?_;rintro e w' ⟨rfl,rfl⟩;go_wp2_with fail;go_meet;exact⟨rfl,rfl⟩
 case rest=>
  obtain⟨rfl,rfl⟩:=hcut;go_wp2_with fail;go_step3;go_wp2_with fail;go_loop [2,5,7,9,13,14,15,16,17] (fun t2 t5 t7 t9 t13 t14 t15 t16 t17=> ∃(k M N D:Nat) (P:Int) (dg tr:Bool),Hid (eG s.data.toList k=⟨M,N,D,tr⟩)∧Hid (Me m k P dg)∧t2= .int .u64 (M:Int)∧t5= .bool tr∧t7= .int .i64 (k:Int)∧t9= .bool false∧t13= .bool false∧t14= .bool dg∧t15= .int .i64 (D:Int)∧t16= .int .i64 (N:Int)∧t17= .int .i64 P) (fun t2 t5 t7 t9 t13 t14 t15 t16 t17=>s.size-(intOf t7).toNat)
  case atStart=>exact⟨2,0,0,0,0,false,false,aa (BJ _),aa ⟨aP _,by omega,by omega,by omega,by omega⟩,rfl,rfl,rfl,rfl,rfl,rfl,rfl,rfl,rfl⟩
  case round=>
   obtain⟨k,M1,N1,D1,P1,dg1,XM,cA,jJ,rfl,rfl,rfl,rfl,rfl,rfl,rfl,rfl,rfl⟩:=hrel;obtain⟨k2,PA,p1b,p2b,qR⟩:=jJ.out;have cC:=Gx HM.out k k2 PA;rw[cA.out]at cC;have n123:=cC.tu;have n4:=cC.fg;simp only at n123 n4;have H4:=aa n4;clear n4 cC;by_cases au:k<m
   ·have ox:k<s.size:=by omega
    have cB:an s.data.toList k=s[k]:=aq ox;have q1:((k:Int)<(s.size:Int))=True:=by simp;omega
    have nu:=HM.out.2 k k2 au;rw[cB]at nu;have p10:N1<16→M1<1152921504606846976:=fun h=>gO H4.out (ee (n:=16) (by omega) (show N1≤15 by omega))
    have Ye:=aa p10;have Ih:=aa cB;have HHX:=aa nu;have HKL:=aa (show ¬(s.data.toList.length≤k)by rw[ab];omega);have HN3:=aa n123;have Ob:=aa k2;have HK:Hid (Me m (k+1) P1 true):=aa ⟨by omega,by omega,by omega,by omega,fun _=>rfl⟩;have HK0:Hid (Me m (k+1) (P1-1) true):=aa ⟨by omega,by omega,by omega,by omega,fun _=>rfl⟩;have hP1: -1000≤P1∧P1≤0:=by omega
    have hK1:k<1000:=by omega
    have EI:=Gw _ nu;have hD1:N1≤16∧D1≤1000:=by omega
    clear p10 cB n123 k2 p1b p2b qR;cases hd:digit s[k]
    ·
     have Iy:=BK _ HHX.out hd;obtain⟨L,hL⟩: ∃L,L=(s[k].toNat|||32):=⟨_,rfl⟩;have hv:mx s[k]=L-87:=by
      rw[hL];have h1:mx s[k]=(s[k].toNat|||32)-87:=by unfold mx;rw[hd,af (by simp)]
      exact h1
     have Iy:97≤L∧L≤102:=by rw[hL];exact Iy
     have o1:bits .or .u8 (s[k].toNat:Int) 32=(L:Int):=by rw[hL];exact vG s[k].toNat 32 (mz _) (by omega)
     have pE:digit (an s.data.toList k)=false:=by rw[Ih.out];exact hd
     have ml:gS (an s.data.toList k)=true:=by rw[Ih.out];exact HHX.out
     have ε:(an s.data.toList k).toNat=s[k].toNat:=bT UInt8.toNat Ih.out;have afM:(97≤(an s.data.toList k).toNat∧(an s.data.toList k).toNat≤102)∨(65≤(an s.data.toList k).toNat∧(an s.data.toList k).toNat≤70):=by
      simpa [gS,pE]using ml
     have afN:65≤s[k].toNat:=by omega
     have Z9:((s[k].toNat:Int)==95)=false:=by simp;omega
     have so:((s[k].toNat:Int)==46)=false:=by simp;omega
     have g1: ∀[inst:Decidable ((48:Int)≤(s[k].toNat:Int))],@decide _ inst=true:=fun {inst}=>dQ (by omega)
     have g2: ∀[inst:Decidable ((s[k].toNat:Int)≤57)],@decide _ inst=false:=fun {inst}=>gp (by omega)
     have g3: ∀[inst:Decidable ((97:Int)≤(L:Int))],@decide _ inst=true:=fun {inst}=>dQ (by omega)
     have g4: ∀[inst:Decidable ((L:Int)≤102)],@decide _ inst=true:=fun {inst}=>dQ (by omega)
     have HV:=aa hv;have HLW:=aa Iy;have afO:s[k].toNat≠48:=by omega
     by_cases hn:N1<16
     ·have SX:((N1:Int)<16)=True:=by simp;omega
      have SF:mx (an s.data.toList k)=L-87:=by rw[Ih.out];exact hv
      have hN:=Φ cA.out Ob.out (Ey HKL.out) (by omega) hn;rw[SF]at hN;have HN:=aa hN;obtain⟨mx1,mx2⟩:=al5 (Ye.out hn) (show L-87<16 by omega);have u1:IntKind.u8.wrap (IntKind.u8.wrap ((L:Int)-97)+10)=((L-87:Nat):Int):=by rw[iW,iW];omega
      clear hN SF pE ml ε afM hv Iy afN nu EI afO hL;go_wp2_with fail
      all_goals first
       |(exfalso;omega)
       |(refine(Tryz.internal_strconv_lower _ _).mono ?_;rintro e w' ⟨rfl,rfl⟩;rw[o1];go_wp2_with fail)
      all_goals first
       |(exfalso;omega)
       |(refine(Tryz.internal_strconv_lower _ _).mono ?_;rintro e w' ⟨rfl,rfl⟩;rw[o1];go_wp2_with fail)
      all_goals first
       |(exfalso;omega)
       |(refine(Tryz.internal_strconv_lower _ _).mono ?_;rintro e w' ⟨rfl,rfl⟩;rw[o1];go_wp2_with fail)
      all_goals first
       |(exfalso;omega)
       |(go_round;(case rel=>exact⟨k+1,M1*16+(L-87),N1+1,D1+1,P1,true,XM,HN,HK,(vi (by first|rfl|omega|(have yp:=Ye.out hn;have Ij:=HLW.out;simp only[cT,iW];omega))),rfl,(vi (by first|rfl|omega)),rfl,rfl,rfl,(vi (by first|rfl|omega|(simp only[wrap64];omega))),(vi (by first|rfl|omega|(simp only[wrap64];omega))),rfl⟩);(case measure=>simp[intOf];omega))
     ·have SX:((N1:Int)<16)=False:=by simp;omega
      have hN:=OT cA.out Ob.out (Ey HKL.out) (by omega) hn;have HN:=aa hN;clear hN pE ml ε afM hv Iy afN nu EI afO hL;go_wp2_with fail
      all_goals first
       |(exfalso;omega)
       |(refine(Tryz.internal_strconv_lower _ _).mono ?_;rintro e w' ⟨rfl,rfl⟩;rw[o1];go_wp2_with fail)
      all_goals first
       |(exfalso;omega)
       |(refine(Tryz.internal_strconv_lower _ _).mono ?_;rintro e w' ⟨rfl,rfl⟩;rw[o1];go_wp2_with fail)
      all_goals first
       |(exfalso;omega)
       |(go_round;(case rel=>exact⟨k+1,M1,N1,D1+1,P1,true,true,HN,HK,(vi (by first|rfl|omega|(have yp:=Ye.out hn;have Ij:=HLW.out;simp only[cT,iW];omega))),rfl,(vi (by first|rfl|omega)),rfl,rfl,rfl,(vi (by first|rfl|omega|(simp only[wrap64];omega))),(vi (by first|rfl|omega|(simp only[wrap64];omega))),rfl⟩);(case measure=>simp[intOf];omega))
    ·
     have Dt:=aG hd;have pE:digit (an s.data.toList k)=true:=by rw[Ih.out];exact hd
     have ε:(an s.data.toList k).toNat=s[k].toNat:=bT UInt8.toNat Ih.out;have SF:mx (an s.data.toList k)=s[k].toNat-48:=by unfold mx;rw[ar pE,ε]
     have Z9:((s[k].toNat:Int)==95)=false:=by simp;omega
     have so:((s[k].toNat:Int)==46)=false:=by simp;omega
     have g1: ∀[inst:Decidable ((48:Int)≤(s[k].toNat:Int))],@decide _ inst=true:=fun {inst}=>dQ (by omega)
     have g2: ∀[inst:Decidable ((s[k].toNat:Int)≤57)],@decide _ inst=true:=fun {inst}=>dQ (by omega)
     by_cases hz:s[k].toNat=48∧D1=0
     ·obtain⟨db,rfl⟩:=hz;have qS:((s[k].toNat:Int)==48)=true:=by rw[db];rfl
      have HN:=aa (YG cA.out Ob.out (Ey HKL.out) (by omega) rfl);clear SF pE ε nu EI;go_wp2_with fail
      all_goals first
       |(exfalso;first|omega|(have:=js qS;omega)|(have:=kA qS;omega))
       |(go_round;(case rel=>exact⟨k+1,M1,N1,0,P1-1,true,XM,HN,HK0,(vi (by first|rfl|omega)),rfl,(vi (by first|rfl|omega)),rfl,rfl,rfl,(vi (by first|rfl|omega|(simp only[wrap64];omega))),(vi (by first|rfl|omega|(simp only[wrap64];omega))),(vi (by first|rfl|omega|(simp only[wrap64];omega)))⟩);(case measure=>simp[intOf];omega))
     ·by_cases hn:N1<16
      ·have SX:((N1:Int)<16)=True:=by simp;omega
       have hN:=Φ cA.out Ob.out (Ey HKL.out) (by omega) hn;rw[SF]at hN;have HN:=aa hN;clear hN SF pE ε nu EI;cases qS:((s[k].toNat:Int)==48)
       all_goals
        go_wp2_with fail
        all_goals first
         |(exfalso;first|omega|(have:=js qS;omega)|(have:=kA qS;omega))
         |(go_round;(case rel=>exact⟨k+1,M1*16+(s[k].toNat-48),N1+1,D1+1,P1,true,XM,HN,HK,(vi (by first|rfl|omega|(have yp:=Ye.out hn;simp only[cT,iW];omega))),rfl,(vi (by first|rfl|omega)),rfl,rfl,rfl,(vi (by first|rfl|omega|(simp only[wrap64];omega))),(vi (by first|rfl|omega|(simp only[wrap64];omega))),(vi (by first|rfl|omega|(simp only[wrap64];omega)))⟩);(case measure=>simp[intOf];omega))
      ·have SX:((N1:Int)<16)=False:=by simp;omega
       by_cases Sh:s[k].toNat=48
       ·have HN:=aa (YH cA.out Ob.out (Ey HKL.out) (by omega) (by omega) hn);have qS:((s[k].toNat:Int)==48)=true:=by rw[Sh];rfl
        clear SF pE ε nu EI;go_wp2_with fail
        all_goals first
         |(exfalso;first|omega|(have:=js qS;omega)|(have:=kA qS;omega))
         |(go_round;(case rel=>exact⟨k+1,M1,N1,D1+1,P1,true,XM,HN,HK,(vi (by first|rfl|omega)),rfl,(vi (by first|rfl|omega)),rfl,rfl,rfl,(vi (by first|rfl|omega|(simp only[wrap64];omega))),(vi (by first|rfl|omega|(simp only[wrap64];omega))),(vi (by first|rfl|omega|(simp only[wrap64];omega)))⟩);(case measure=>simp[intOf];omega))
       ·have HN:=aa (OT cA.out Ob.out (Ey HKL.out) (by omega) hn);have qS:((s[k].toNat:Int)==48)=false:=by simp;exact fun h=>Sh (by omega)
        clear SF pE ε nu EI;go_wp2_with fail
        all_goals first
         |(exfalso;first|omega|(have:=js qS;omega)|(have:=kA qS;omega))
         |(go_round;(case rel=>exact⟨k+1,M1,N1,D1+1,P1,true,true,HN,HK,(vi (by first|rfl|omega)),rfl,(vi (by first|rfl|omega)),rfl,rfl,rfl,(vi (by first|rfl|omega|(simp only[wrap64];omega))),(vi (by first|rfl|omega|(simp only[wrap64];omega))),(vi (by first|rfl|omega|(simp only[wrap64];omega)))⟩);(case measure=>simp[intOf];omega))
   ·have LW:k=m:=by omega
    subst LW;have kH:=cA.out;rw[HR.out]at kH;injection kH with i1 i2 i3 i4
    subst i1 i2 i3 i4;have hdt:dg1=true:=qR (by omega);subst hdt;have ox:k<s.size:=by omega
    have q1:((k:Int)<(s.size:Int))=True:=by simp;omega
    have hc:=HP1.out;have Z9:((s[k].toNat:Int)==95)=false:=by rw[hc];rfl
    have so:((s[k].toNat:Int)==46)=false:=by rw[hc];rfl
    have g1: ∀[inst:Decidable ((48:Int)≤(s[k].toNat:Int))],@decide _ inst=true:=fun {inst}=>dQ (by omega)
    have g2: ∀[inst:Decidable ((s[k].toNat:Int)≤57)],@decide _ inst=false:=fun {inst}=>gp (by omega)
    have o1:bits .or .u8 (s[k].toNat:Int) 32=112:=by
     rw[show bits .or .u8 (s[k].toNat:Int) 32=((s[k].toNat|||32:Nat):Int)from vG s[k].toNat 32 (mz _) (by omega),hc];rfl
    have NY:=aa (show N≤16∧D≤1000 from⟨n123.1,by omega⟩);clear n123 k2 PA p1b p2b qR hc au;go_wp2_with fail
    all_goals first
     |(exfalso;omega)
     |(refine(Tryz.internal_strconv_lower _ _).mono ?_;rintro e w' ⟨rfl,rfl⟩;rw[o1];go_wp2_with fail)
    all_goals first
     |(exfalso;omega)
     |(refine(Tryz.internal_strconv_lower _ _).mono ?_;rintro e ZJ ⟨rfl,rfl⟩;rw[o1];go_wp2_with fail)
    refine(Tryz.internal_strconv_lower _ _).mono ?_;rintro e w3 ⟨rfl,rfl⟩;rw[o1];have ng:=HP2.out;have q2:((s.size:Int)≤(k:Int)+1)=False:=by simp;omega
    have x43:((s[k+1].toNat:Int)==43)=false:=by rw[ng];rfl
    have x45:((s[k+1].toNat:Int)==45)=false:=by rw[ng];rfl
    have r2n: ∀[inst:Decidable ((s[k+1].toNat:Int)<48)],@decide _ inst=false:=fun {inst}=>gp (by omega)
    have r3n: ∀[inst:Decidable ((57:Int)<(s[k+1].toNat:Int))],@decide _ inst=false:=fun {inst}=>gp (by omega)
    go_upto_region 67 with fail
    go_upto_region 68 with fail
    go_wp2_with fail;go_loop [7,9,20] (fun t7 t9 t20=> ∃(i:Nat),Hid (k+1≤i∧i≤k+2)∧t7= .int .i64 (i:Int)∧t9= .bool false∧t20= .int .i64 0) (fun t7 t9 t20=>s.size-(intOf t7).toNat)
    case atStart=>exact⟨k+1,aa ⟨aP _,by omega⟩,(vi (by first|rfl|omega)),rfl,rfl⟩
    case round=>
     obtain⟨i,Z1,rfl,rfl,rfl⟩:=hrel;have Iz:=Z1.out;have jf:=WG.out;by_cases hi:i<s.size
     ·obtain rfl:i=k+1:=by omega
      have WX:48≤s[k+1].toNat∧s[k+1].toNat≤57:=by omega
      have p1:(((k+1:Nat):Int)<(s.size:Int))=True:=by simp;omega
      have WQ:((k:Int)+1<(s.size:Int))=True:=by simp;omega
      have p2: ∀[inst:Decidable ((48:Int)≤(s[k+1].toNat:Int))],@decide _ inst=true:=fun {inst}=>dQ (by omega)
      have p3: ∀[inst:Decidable ((s[k+1].toNat:Int)≤57)],@decide _ inst=true:=fun {inst}=>dQ (by omega)
      have p4:((s[k+1].toNat:Int)==95)=false:=by rw[ng];rfl
      clear Iz q2 jf;go_wp2_with fail
      all_goals first
       |(exfalso;omega)
       |(go_round;(case rel=>exact⟨k+2,aa ⟨by omega,aP _⟩,(vi (by first|rfl|omega|(simp only[wrap64];omega))),rfl,(vi (by first|rfl|omega|(simp only[wrap64];omega)))⟩);(case measure=>simp[intOf];omega))
     ·have Ly:i=s.size:=by omega
      subst Ly;clear q2 Iz jf;cases em:((M:Int) != 0)
      all_goals
       go_wp2_with fail
       try rw[rq]
       refine cz (qy rfl _ _ _) rfl ?_;refine⟨agS ?_ rfl,rfl⟩
       first
        |exact(VG (AV em)).symm
        |exact Rl (zX em) NY.out
