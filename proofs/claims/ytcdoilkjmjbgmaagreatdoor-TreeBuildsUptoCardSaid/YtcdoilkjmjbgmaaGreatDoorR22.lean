import Derived.Test.YtcdoilkjmjbgmaaGreatDoorR06
import Derived.Test.YtcdoilkjmjbgmaaGreatDoorR20
import Derived.WalkMore
/- Part of the proof of YtcdoilkjmjbgmaaGreatDoorCardR: NumC FpF FpG DecA FpD FpH. -/
set_option maxRecDepth 100000
set_option maxHeartbeats 4000000
set_option linter.unusedVariables false
set_option linter.unusedSimpArgs false
namespace Go.Proofs.YtcdoilkjmjbgmaaGreatDoor
open Go.RowKit
open Tryz
variable {l m:List UInt8} {k i M N D e v:Nat} {a b X X' z P E base sg z':Int} {tr dt dg:Bool}
theorem fL (x:Int) (w:World):(callFunc 127 #[.int .u64 x]).run prog w= .ok (.value (.float .f64 x.toNat)) w:=by
 rw[run_callFunc_extern func127 (by kernel_rfl) (by kernel_rfl) (by kernel_rfl) (e:=Extern.MathFloatBits.float64frombits) (by kernel_rfl)];rfl
theorem Rt (x:Nat) (w:World):(callFunc 198 #[.float .f64 x]).run prog w= .ok (.value (.int .u64 (x:Int))) w:=by
 rw[run_callFunc_extern func198 (by kernel_rfl) (by kernel_rfl) (by kernel_rfl) (e:=Extern.MathFloatBits.float64bits) (by kernel_rfl)];rfl
theorem Vo (w:World):Calls prog 169 #[.int .i64 1] w fun e w'=>e= .returned (.float .f64 9218868437227405312)∧w=w':=by
 go_enter func169,ntmps169;go_wp2_with fail;rw[fL];rw[jX];go_wp2_with fail;go_ret;exact⟨rfl,rfl⟩
theorem Vp (w:World):Calls prog 170 #[] w fun e w'=>e= .returned (.float .f64 9221120237041090561)∧w=w':=by
 go_enter func170,ntmps170;go_wp2_with fail;rw[fL];rw[jX];go_wp2_with fail;go_ret;exact⟨rfl,rfl⟩
theorem Vq (x:Nat) (w:World):Calls prog 185 #[.float .f64 x] w fun e w'=>e= .returned (.float .f64 (S8 x))∧w=w':=by
 have h1:bits .andNot .u64 (x:Int) 9223372036854775808=((S8 x:Nat):Int):=by
  have e:bits .andNot .u64 (x:Int) 9223372036854775808=bits .andNot .u64 ((x%18446744073709551616:Nat):Int) 9223372036854775808:=by
   have hb:BitVec.ofInt 64 (x:Int)=BitVec.ofInt 64 ((x%18446744073709551616:Nat):Int):=by
    apply BitVec.eq_of_toNat_eq;simp only[BitVec.toNat_ofInt];omega
   unfold bits;show IntKind.u64.wrap _=IntKind.u64.wrap _;simp only[IntKind.bits];rw[hb]
  rw[e];exact u64_andNot_nat (x%18446744073709551616) 9223372036854775808 (mD _ (by omega)) (by omega)
 go_enter func185,ntmps185;go_wp2_with fail;rw[Rt];rw[jX];go_wp2_with fail;rw[fL];rw[jX];go_wp2_with fail;go_ret;exact⟨rfl,rfl⟩
theorem Ny (x:Nat) (w:World):Calls prog 173 #[.float .f64 x,.int .i64 0] w fun e w'=>e= .returned (.bool (dU x))∧w=w':=by
 go_enter func173,ntmps173;go_wp2_with fail;refine(Vq x _).mono ?_;rintro e w' ⟨rfl,rfl⟩;go_wp2_with fail;go_ret;exact⟨rfl,rfl⟩
def tX (l m:List UInt8):Bool:=l.length==m.length&&(l.zip m).all fun p=>(p.1.toNat|||32)==p.2.toNat
def uJ (l m:List UInt8) (k:Nat):Prop:=((l.take k).zip (m.take k)).all (fun p=>(p.1.toNat|||32)==p.2.toNat)=true
theorem KS (l m:List UInt8):uJ l m 0:=rfl
theorem Ea (h1:k<l.length) (h2:k<m.length):(l.take (k+1)).zip (m.take (k+1))=(l.take k).zip (m.take k)++[(aq l k,aq m k)]:=by
 have e1:l[k]=aq l k:=by rw[aq,lA,eG h1];rfl
 have e2:m[k]=aq m k:=by rw[aq,lA,eG h2];rfl
 rw[jy h1,jy h2,List.zip_append (by simp;omega),e1,e2];rfl
theorem KT (h1:k<l.length) (h2:k<m.length) (h:uJ l m k) (he:((aq l k).toNat|||32)=(aq m k).toNat):uJ l m (k+1):=by
 unfold uJ at*
 rw[Ea h1 h2,Ja,h];simp[he]
theorem Ru (hl:l.length=m.length) (h:uJ l m l.length):tX l m=true:=by
 unfold uJ at h;rw[qO,hl,qO]at h;rw[tX,h];simp[hl]
theorem Vr (h1:k<l.length) (h2:k<m.length) (he:((aq l k).toNat|||32)≠(aq m k).toNat):tX l m=false:=by
 have:(l.zip m).all (fun p=>(p.1.toNat|||32)==p.2.toNat)=false:=by
  rw[EC];refine⟨(l.zip m)[k]'(by simp;omega),jz _,?_⟩;have e1:l[k]=aq l k:=by rw[aq,lA,eG h1];rfl
  have e2:m[k]=aq m k:=by rw[aq,lA,eG h2];rfl
  rw[List.getElem_zip,e1,e2];simpa using he
 rw[tX,this,tQ]
theorem J8 (s m:ByteArray) (w:World) (hs:s.size≤1000) (hm:m.size≤1000):
  Calls prog 168 #[.string s,.string m] w fun e w'=>e= .returned (.bool (tX s.data.toList m.data.toList))∧Below w.heap.size w w':=by
 by_cases hl:s.size=m.size
 ·have q1:((s.size:Int) != (m.size:Int))=false:=by rw[hl];simp
  have Iw:s.data.toList.length=m.data.toList.length:=by rw[ab,ab,hl]
  have HLL:=aa Iw;clear Iw;go_enter func168,ntmps168;go_wp2_with fail;go_loopw [13] (fun t wr=> ∃k:Nat,Hid (k≤s.size∧uJ s.data.toList m.data.toList k)∧t= .int .i64 (k:Int)∧Hid (Below w.heap.size w wr)) (fun t wr=>s.size-(intOf t).toNat)
  case atStart=>exact⟨0,aa ⟨dQ _,KS _ _⟩,rfl,aa (aV _ _)⟩
  case round=>
   obtain⟨k,hk,rfl,hb⟩:=hrel;have hk':=hk.1;by_cases hi:k<s.size
   ·have xv:k<m.size:=by omega
    have p1:((k:Int)<(s.size:Int))=True:=by simp;omega
    have p2:((k:Int)<(m.size:Int))=True:=by simp;omega
    have o1:bits .or .u8 (s[k].toNat:Int) 32=((s[k].toNat|||32:Nat):Int):=vY s[k].toNat 32 (uG _) (by omega);have w1:wrap64 ((k:Int)+1)=((k+1:Nat):Int):=by unfold wrap64;omega
    have a1:aq s.data.toList k=s[k]:=ar hi;have a2:aq m.data.toList k=m[k]:=ar xv;have k1:k<s.data.toList.length:=by rw[ab];exact hi
    have k2:k<m.data.toList.length:=by rw[ab];exact xv
    have ZD:=aa k1;have Ol:=aa k2;have HA1:=aa a1;have HA2:=aa a2;clear k1 k2 a1 a2;cases ne:(((s[k].toNat|||32:Nat):Int) != (m[k].toNat:Int))
    ·have he:(s[k].toNat|||32)=m[k].toNat:=by
      have:((s[k].toNat|||32:Nat):Int)=(m[k].toNat:Int):=by simpa using ne
      omega
     have HN:=aa (KT ZD Ol hk.2 (by rw[HA1.out,HA2.out];exact he));have HLE:=aa (show k+1≤s.size from hi);clear he;go_wp2_with fail;go_quiet (fail);go_wp2_with fail;go_round
     case rel=>exact⟨k+1,aa ⟨HLE,HN⟩,(by first|rfl|simp),aa (cr hb _)⟩
     case measure=>simp[intOf];omega
    ·have he:(s[k].toNat|||32)≠m[k].toNat:=by
      have: ¬((s[k].toNat|||32:Nat):Int)=(m[k].toNat:Int):=by simpa using ne
      omega
     have HN:=aa (Vr ZD Ol (by rw[HA1.out,HA2.out];exact he));clear he;go_wp2_with fail;go_quiet (fail);go_wp2_with fail;go_ret;rw[HN.out];exact⟨rfl,cr hb _⟩
   ·have uv:k=s.size:=by omega
    have hw:=hk.2;rw[uv,←ab]at hw;have HW:=aa (Ru HLL hw);clear hw;subst uv;go_wp2_with fail;go_ret;rw[HW.out];exact⟨rfl,hb⟩
 ·have q1:((s.size:Int) != (m.size:Int))=true:=by simp;omega
  go_enter func168,ntmps168;go_wp2_with fail;go_ret;refine⟨ah ?_,aV _ _⟩;have:(s.data.toList.length==m.data.toList.length)=false:=by rw[ab,ab];simpa using hl
  rw[tX,this,rA]
theorem cZ {fn:Func} {a b c:Tmp} (h:fn.results= #[.tmp a,.tmp b,.tmp c]) (tmps:Array Value) (P:Program) (w:World):
  (results fn tmps).run P w= .ok (.tuple #[tmps.getD a undef,tmps.getD b undef,tmps.getD c undef]) w:=by
 simp[results,h]
theorem ko (s:ByteArray) (w:World) (h0:0<s.size) (hd:digit s[0]=true∨s[0].toNat=46):
  Calls prog 205 #[.string s] w fun e w'=>e= .returned (.tuple #[.float .f64 0,.int .i64 0,.bool false])∧w=w':=by
 have hb:s[0].toNat=46∨48≤s[0].toNat∧s[0].toNat≤57:=by
  rcases hd with h|h
  ·exact .inr (aI h)
  ·exact .inl h
 have e1:((s[0].toNat:Int)==43)=false:=by simp;omega
 have e2:((s[0].toNat:Int)==45)=false:=by simp;omega
 have e3:((s[0].toNat:Int)==105)=false:=by simp;omega
 have e4:((s[0].toNat:Int)==73)=false:=by simp;omega
 have e5:((s[0].toNat:Int)==110)=false:=by simp;omega
 have e6:((s[0].toNat:Int)==78)=false:=by simp;omega
 have z1:(s=ByteArray.empty)=False:=by
  apply bU;intro h;rw[h]at h0;simp at h0
 clear hb hd;go_enter func205,ntmps205;go_wp2_with fail;refine cB (cZ rfl _ _ _) rfl ?_;exact⟨rfl,rfl⟩
def o0 (w:World) (r:Option Nat) (e:Ending) (w':World):Prop:=
 (∃v ok,e= .returned (.tuple #[.float .f64 v,.bool ok])∧(match r with|some x=>ok=true∧v=x|none=>ok=false))∧w=w'
theorem o0.some {w:World} {r:Option Nat} {x:Nat} (h:r=Option.some x):o0 w r (.returned (.tuple #[.float .f64 x,.bool true])) w:=⟨⟨x,true,rfl,by rw[h];exact⟨rfl,rfl⟩⟩,rfl⟩
theorem o0.none {w:World} {r:Option Nat} {x:Nat} (h:r=Option.none):o0 w r (.returned (.tuple #[.float .f64 x,.bool false])) w:=⟨⟨x,false,rfl,by rw[h]⟩,rfl⟩
theorem Vs (m:Nat) (p:Int) (w:World) (hp: -400≤p∧p≤400) (Qj:m<18446744073709551616) (c0:w.cell? ⟨6,0,none⟩=some (.int .u64 52)) (b o c:Nat) (g:w.cell? ⟨9,0,none⟩=some (.slice (some ⟨b,o,none⟩) 23 c))
  (hT: ∀k,k<23→w.cell? ⟨b,o+k,none⟩=some (.float .f64 (fl k))):
  Calls prog 216 #[.int .u64 (m:Int),.int .i64 p,.bool false] w (o0 w (fQ m p)):=by
 have HT:=aa hT;have HP:=aa hp;have HM:=aa Qj;clear hT hp Qj;obtain⟨f,hf⟩: ∃f,f=floatOfInt .f64 (m:Int):=⟨_,rfl⟩;have aeT:f≤fa:=by rw[hf];exact JC m
 have HF:=aa hf;have HFL:=aa aeT;have hfe:floatOfInt .f64 (m:Int)=f:=hf.symm;clear hf aeT;by_cases hm:m/4503599627370496≠0
 ·have HX:=aa (show fQ m p=none by rw[fQ,au hm]);have b0:((m:Int)/4503599627370496 != 0)=true:=by simp;omega
  clear hm;go_enter func216,ntmps216;go_wp2_with fail;go_ret2;exact .none HX.out
 ·have b0:((m:Int)/4503599627370496 != 0)=false:=by simp;omega
  by_cases h0:p=0
  ·have HX:=aa (show fQ m p=some f by rw[fQ,af hm,au h0,HF.out]);subst h0;clear hm;go_enter func216,ntmps216;go_wp2_with fail;go_ret2;exact .some HX.out
  ·have e0:(p==0)=false:=by simp;exact h0
   by_cases h1:0<p∧p≤37
   ·have d1: ∀[inst:Decidable ((0:Int)<p)],@decide _ inst=true:=fun {inst}=>dR h1.1
    have d2: ∀[inst:Decidable (p≤37)],@decide _ inst=true:=fun {inst}=>dR h1.2
    have d1':((0:Int)<p)=True:=aA h1.1;have d2':(p≤37)=True:=aA h1.2;by_cases h2:22<p
    ·obtain⟨k,rfl⟩: ∃k:Nat,p=(k:Int)+22:=⟨(p-22).toNat,by omega⟩;have d3:((22:Int)<(k:Int)+22)=True:=aA h2;have hk:k<23:=by omega
     have lS:0<k:=by omega
     have w22:wrap64 ((k:Int)+22-22)=(k:Int):=by unfold wrap64;omega
     have gk:=HT.out k hk;have g22:=HT.out 22 (by omega);obtain⟨pa,θ⟩:=GF HFL.out (rR hk);have HM1:=aa pa;obtain⟨hmul,_⟩:=GF θ (rR (show 22<23 by omega));have Ti:=aa hmul;have hE:fQ m ((k:Int)+22)=if Gf (vH f (fl k))then none else some (vH (vH f (fl k)) (fl 22)):=by
      rw[fQ,af hm,af h0,au h1,hfe,au h2,au h2,show ((k:Int)+22-22).toNat=k by omega]
     have HE:=aa hE;clear hmul hE h1 h2 hm h0 pa θ;generalize vH f (fl k)=f1 at*
     cases b1:(FloatKind.f64.format.order f1 4831355200913801216==some .gt)
     ·cases b2:(FloatKind.f64.format.order f1 14054727237768577024==some .lt)
      ·go_enter func216,ntmps216;go_wp2_with fail;rw[Bi _ _ _ _ _ _ _ HM1.out];simp only[Result.andThen];rw[jX];go_wp2_with fail;rw[Bi _ _ _ _ _ _ _ Ti.out];simp only[Result.andThen];rw[jX];go_wp2_with fail;go_ret2;exact .some (by rw[HE.out,Gf,b1,b2];rfl)
      ·go_enter func216,ntmps216;go_wp2_with fail;rw[Bi _ _ _ _ _ _ _ HM1.out];simp only[Result.andThen];rw[jX];go_wp2_with fail;go_ret2;exact .none (by rw[HE.out,Gf,b1,b2];rfl)
     ·go_enter func216,ntmps216;go_wp2_with fail;rw[Bi _ _ _ _ _ _ _ HM1.out];simp only[Result.andThen];rw[jX];go_wp2_with fail;go_ret2;exact .none (by rw[HE.out,Gf,b1];rfl)
    ·obtain⟨k,rfl⟩: ∃k:Nat,p=(k:Int):=⟨p.toNat,by omega⟩;have d3:((22:Int)<(k:Int))=False:=bU h2;have hk:k<23:=by omega
     have lS:0<k:=by omega
     have gk:=HT.out k hk;obtain⟨hmul,_⟩:=GF HFL.out (rR hk);have Ti:=aa hmul;have hE:fQ m (k:Int)=if Gf f then none else some (vH f (fl k)):=by
      rw[fQ,af hm,af h0,au h1,hfe,af h2,af h2,my]
     have HE:=aa hE;clear hmul hE h1 h2 hm h0;cases b1:(FloatKind.f64.format.order f 4831355200913801216==some .gt)
     ·cases b2:(FloatKind.f64.format.order f 14054727237768577024==some .lt)
      ·go_enter func216,ntmps216;go_wp2_with fail;rw[Bi _ _ _ _ _ _ _ Ti.out];simp only[Result.andThen];rw[jX];go_wp2_with fail;go_ret2;exact .some (by rw[HE.out,Gf,b1,b2];rfl)
      ·go_enter func216,ntmps216;go_wp2_with fail;go_ret2;exact .none (by rw[HE.out,Gf,b1,b2];rfl)
     ·go_enter func216,ntmps216;go_wp2_with fail;go_ret2;exact .none (by rw[HE.out,Gf,b1];rfl)
   ·by_cases h2:p<0∧ -22≤p
    ·obtain⟨k,rfl⟩: ∃k:Nat,p= -(k:Int):=⟨(-p).toNat,by omega⟩;have d1: ∀[inst:Decidable ((0:Int)< -(k:Int))],@decide _ inst=false:=fun {inst}=>gA (by omega)
     have d1':((0:Int)< -(k:Int))=False:=bU (by omega);have d2: ∀[inst:Decidable (-(k:Int)<0)],@decide _ inst=true:=fun {inst}=>dR h2.1
     have d2':(-(k:Int)<0)=True:=aA h2.1;have d3: ∀[inst:Decidable ((-22:Int)≤ -(k:Int))],@decide _ inst=true:=fun {inst}=>dR h2.2
     have d3':((-22:Int)≤ -(k:Int))=True:=aA h2.2;have hk:k<23:=by omega
     have lS:0<k:=by omega
     have wk:wrap64 (- -(k:Int))=(k:Int):=by unfold wrap64;omega
     have gk:=HT.out k hk;obtain⟨hmul,_⟩:=O0 HFL.out (rR hk);have Ti:=aa hmul;have hE:fQ m (-(k:Int))=some (Ge f (fl k)):=by
      rw[fQ,af hm,af h0,af h1,au h2,hfe,show (- -(k:Int)).toNat=k by omega]
     have HE:=aa hE;clear hmul hE h1 h2 hm h0;go_enter func216,ntmps216;go_wp2_with fail;rw[Bi _ _ _ _ _ _ _ Ti.out];simp only[Result.andThen];rw[jX];go_wp2_with fail;go_ret2;exact .some HE.out
    ·have hE:fQ m p=none:=by rw[fQ,af hm,af h0,af h1,af h2]
     have HE:=aa hE;by_cases hp0:0<p
     ·have d1: ∀[inst:Decidable ((0:Int)<p)],@decide _ inst=true:=fun {inst}=>dR hp0
      have d1':((0:Int)<p)=True:=aA hp0;have d2: ∀[inst:Decidable (p≤37)],@decide _ inst=false:=fun {inst}=>gA (by omega)
      have d2':(p≤37)=False:=bU (by omega);have d3: ∀[inst:Decidable (p<0)],@decide _ inst=false:=fun {inst}=>gA (by omega)
      have d3':(p<0)=False:=bU (by omega);clear hE h1 h2 hm h0;go_enter func216,ntmps216;go_wp2_with fail;go_ret2;exact .none HE.out
     ·have d1: ∀[inst:Decidable ((0:Int)<p)],@decide _ inst=false:=fun {inst}=>gA hp0
      have d1':((0:Int)<p)=False:=bU hp0;have d2: ∀[inst:Decidable (p<0)],@decide _ inst=true:=fun {inst}=>dR (by omega)
      have d2':(p<0)=True:=aA (by omega);have d3: ∀[inst:Decidable ((-22:Int)≤p)],@decide _ inst=false:=fun {inst}=>gA (by omega)
      have d3':((-22:Int)≤p)=False:=bU (by omega);clear hE h1 h2 hm h0;go_enter func216,ntmps216;go_wp2_with fail;go_ret2;exact .none HE.out
structure bz (w:World) (g:Nat) (D:Nat→Nat) (nd:Nat) (dp:Int) (neg tr:Bool):Prop where
 gT: ∀i,i<800→w.cell? ⟨g,i,none⟩=some (.int .u8 (D i:Int))
 nd:w.cell? ⟨g,800,none⟩=some (.int .i64 (nd:Int))
 dp:w.cell? ⟨g,801,none⟩=some (.int .i64 dp)
 neg:w.cell? ⟨g,802,none⟩=some (.bool neg)
 tr:w.cell? ⟨g,803,none⟩=some (.bool tr)
 free: ∀i,w.frozen? ⟨g,i,none⟩=false
 lt:g<w.heap.size
section
variable {w:World} {g:Nat} {D:Nat→Nat} {nd:Nat} {dp:Int} {neg tr:Bool}
theorem bz.other (_:bz w g D nd dp neg tr) (u:Value) {j:Nat} (hj:j≠i) {v:Value} (hv:w.cell? ⟨g,j,none⟩=some v):(w.setCell ⟨g,i,none⟩ u).cell? ⟨g,j,none⟩=some v:=by
 rw[mV _ _ _ _ (by simp[hj]),hv]
theorem bz.Jl (h:bz w g D nd dp neg tr) (u:Value) (j:Nat):(w.setCell ⟨g,i,none⟩ u).frozen? ⟨g,j,none⟩=false:=(World.frozen?_setCell _ _ _ _).trans (h.free j)
theorem bz.lt' (h:bz w g D nd dp neg tr) (u:Value):g<(w.setCell ⟨g,i,none⟩ u).heap.size:=by simpa using h.lt
theorem bz.BJ (h:bz w g D nd dp neg tr) {i c:Nat} (hi:i<800) {z:Int} (hz:z=(c:Int)):bz (w.setCell ⟨g,i,none⟩ (.int .u8 z)) g (Ib D i c) nd dp neg tr:=by
 subst hz;refine⟨fun j hj=>?_,h.other _ (by omega) h.nd,h.other _ (by omega) h.dp,h.other _ (by omega) h.neg,h.other _ (by omega) h.tr,h.Jl _,h.lt' _⟩;by_cases e:j=i
 ·subst e;rw[Eu _ _ _ (h.gT j hj),Ib,au rfl]
 ·rw[h.other _ e (h.gT j hj),Ib,af e]
theorem bz.Bw (h:bz w g D nd dp neg tr) {n:Nat} {z:Int} (hz:z=(n:Int)):bz (w.setCell ⟨g,800,none⟩ (.int .i64 z)) g D n dp neg tr:=by
 subst hz;exact⟨fun j hj=>h.other _ (by omega) (h.gT j hj),Eu _ _ _ h.nd,h.other _ (by omega) h.dp,h.other _ (by omega) h.neg,h.other _ (by omega) h.tr,h.Jl _,h.lt' _⟩
theorem bz.EN (h:bz w g D nd dp neg tr) (z:Int):bz (w.setCell ⟨g,801,none⟩ (.int .i64 z)) g D nd z neg tr:=
 ⟨fun j hj=>h.other _ (by omega) (h.gT j hj),h.other _ (by omega) h.nd,Eu _ _ _ h.dp,h.other _ (by omega) h.neg,h.other _ (by omega) h.tr,h.Jl _,h.lt' _⟩
theorem bz.ac5 (h:bz w g D nd dp neg tr) (b:Bool):bz (w.setCell ⟨g,802,none⟩ (.bool b)) g D nd dp b tr:=
 ⟨fun j hj=>h.other _ (by omega) (h.gT j hj),h.other _ (by omega) h.nd,h.other _ (by omega) h.dp,Eu _ _ _ h.neg,h.other _ (by omega) h.tr,h.Jl _,h.lt' _⟩
theorem bz.OP (h:bz w g D nd dp neg tr) (b:Bool):bz (w.setCell ⟨g,803,none⟩ (.bool b)) g D nd dp neg b:=
 ⟨fun j hj=>h.other _ (by omega) (h.gT j hj),h.other _ (by omega) h.nd,h.other _ (by omega) h.dp,h.other _ (by omega) h.neg,Eu _ _ _ h.tr,h.Jl _,h.lt' _⟩
theorem bz.drew (h:bz w g D nd dp neg tr) (n:Nat):bz (w.drewN n) g D nd dp neg tr:=⟨h.gT,h.nd,h.dp,h.neg,h.tr,h.free,h.lt⟩
end
def Md (w:World) (g:Nat):Nat:=match w.cell? ⟨g,800,none⟩with|some (.int _ k)=>k.toNat|_=>0
theorem bz.Md {w:World} {g:Nat} {D:Nat→Nat} {nd:Nat} {dp:Int} {neg tr:Bool} (h:bz w g D nd dp neg tr):Md w g=nd:=by
 unfold Go.Proofs.YtcdoilkjmjbgmaaGreatDoor.Md;rw[h.nd];simp
theorem Ci (w:World) (B g:Nat) (D:Nat→Nat) (nd:Nat) (dp:Int) (neg tr:Bool) (h:bz w g D nd dp neg tr) (rb:nd≤800) (hB:B≤g):
  Calls prog 245 #[.pointer (some ⟨g,0,none⟩)] w fun e w'=>e= .returned (.tuple #[])∧bz w' g D (eB D nd) (pP D nd dp) neg tr∧Below B w w':=by
 obtain⟨T,hT⟩: ∃T,T=eB D nd:=⟨_,rfl⟩;obtain⟨DP,hDP⟩: ∃DP,DP=pP D nd dp:=⟨_,rfl⟩;have xy:DP=if T=0 then 0 else dp:=by rw[hDP,pP,hT]
 rw[←hDP,←hT];clear hDP;have HT:=aa hT;have H0:=aa h;have xx:=aa xy;clear hT h xy;go_enter func245,ntmps245;go_wp2_with fail;go_loopw [] (fun wr=> ∃m:Nat,Hid (m≤800∧bz wr g D m dp neg tr∧eB D m=T∧Below B w wr)) (fun wr=>Md wr g)
 case atStart=>exact⟨nd,aa ⟨rb,H0,HT.symm,aV _ _⟩⟩
 case round=>
  obtain⟨m,hI⟩:=hrel;have d0:=hI.2.1.nd;have d1:=hI.2.1.dp;have f0:=hI.2.1.free 800;have f1:=hI.2.1.free 801;cases m with
  |zero=>
   go_wp2_with fail;go_quiet (fail);have ku:bz (wr.drewN nq) g D 0 dp neg tr:=hI.2.1.drew nq;have aN:=cr hI.2.2.2 nq;have Xz:T=0:=by rw[←hI.out.2.2.1];rfl
   clear d0 d1 f0 f1;generalize wr.drewN nq=w2 at ku aN ⊢
   have d0:=ku.nd;have d1:=ku.dp;have f1:=ku.free 801;have H2:=aa ku;have bC:=aa aN;have HT0:=aa Xz;clear ku aN Xz;go_wp2_with fail;go_end0;refine⟨rfl,?_,bC.setCell (p:=⟨g,801,none⟩) hB _⟩;rw[xx.out,au HT0.out,HT0.out];exact H2.EN 0
  |succ k=>
   have hk:k<800:=hI.1;have p1:((k:Int)<800)=True:=by simp;omega
   have p0:((0:Int)<(k:Int)+1)=True:=aA (by omega);have dk:=hI.2.1.gT k hk;cases qL:((D k:Int)==48)
   ·have bZ:D k≠48:=by intro h;rw[h]at qL;simp at qL
    have Om:T=k+1:=by rw[←hI.out.2.2.1,eB,af bZ]
    go_wp2_with fail;go_quiet (fail);have ku:bz (wr.drewN nq) g D (k+1) dp neg tr:=hI.2.1.drew nq;have aN:=cr hI.2.2.2 nq;clear d0 d1 f0 f1 dk;generalize wr.drewN nq=w2 at ku aN ⊢
    have d0:=ku.nd;have p2:((k:Int)+1=0)=False:=bU (by omega);have H2:=aa ku;have bC:=aa aN;have SS:=aa Om;clear ku aN Om bZ;go_wp2_with fail;go_end0;rw[xx.out,af (by rw[SS.out];omega),SS.out];exact⟨rfl,H2,bC⟩
   ·have he:D k=48:=by
     have:(D k:Int)=48:=by simpa using qL
     omega
    have Om:eB D k=T:=by rw[←hI.out.2.2.1,eB,au he]
    go_wp2_with fail;go_quiet (fail);have ku:bz (wr.drewN nq) g D (k+1) dp neg tr:=hI.2.1.drew nq;have aN:=cr hI.2.2.2 nq;have rb:Md wr g=k+1:=hI.2.1.Md;clear d0 d1 f0 f1 dk;generalize wr.drewN nq=w2 at ku aN ⊢
    have d0:=ku.nd;have f0:=ku.free 800;have H2:=aa ku;have bC:=aa aN;have SS:=aa Om;have HND:=aa rb;clear ku aN Om he rb;go_wp2_with fail;go_roundw
    case rel=>exact⟨k,aa ⟨by omega,H2.Bw (by first|rfl|(simp only[wrap64];omega)),SS,bC.setCell (p:=⟨g,800,none⟩) hB _⟩⟩
    case measure=>
     rw[HND.out,(H2.out.Bw (n:=k) (by first|rfl|(simp only[wrap64];omega))).Md];exact vU k
theorem qo {fn:Func} {a b c d e f g:Tmp} (h:fn.results= #[.tmp a,.tmp b,.tmp c,.tmp d,.tmp e,.tmp f,.tmp g]) (tmps:Array Value) (P:Program) (w:World):
  (results fn tmps).run P w= .ok (.tuple #[tmps.getD a undef,tmps.getD b undef,tmps.getD c undef,tmps.getD d undef,tmps.getD e undef,tmps.getD f undef,tmps.getD g undef]) w:=by
 simp[results,h]
theorem vi {k:IntKind} (h:a=b):Value.int k a=Value.int k b:=by rw[h]
theorem ajY {M:Int} (h:X=X'):Ending.returned (.tuple #[.int .u64 M,.int .i64 X,.bool false,.bool tr,.bool false,.int .i64 z,.bool true])= .returned (.tuple #[.int .u64 M,.int .i64 X',.bool false,.bool tr,.bool false,.int .i64 z,.bool true]):=by rw[h]
theorem Vt (h:M=0):oE ⟨M,N,D,P,dt,dg,tr⟩ E=0:=by rw[oE,af (by simpa using h)]
theorem FD (hM:M≠0) (b:N≤19∧D≤1000∧ -1000≤P∧P≤1000) (he:e≤100009) (hb:base=if dt then P else(D:Int)) (hs:sg=(e:Int)∨sg= -(e:Int)):
  wrap64 (wrap64 (base+sg)-(N:Int))=oE ⟨M,N,D,P,dt,dg,tr⟩ sg:=by
 have aN: -1000≤base∧base≤1000:=by
  rw[hb];split<;>omega
 rw[oE,au hM];simp only;rw[←hb];unfold wrap64;omega
theorem ac6 {m z:Nat} (n1:N≤19) (n3:D≤k) (n5: -(k:Int)≤P) (n6:P≤k) (hk:k≤m) (hm:m≤z) (hs:z≤1000):N≤19∧D≤1000∧ -1000≤P∧P≤1000:=by omega
set_option maxHeartbeats 8000000 in
theorem xn (s:ByteArray) (w:World) (hs:s.size≤1000) (mm:Nat) (E:Int) (hE:mm=s.size∧E=0∨ ∃j neg,Jk s.data.toList mm j neg∧E=if neg then-((zR s.data.toList j s.size:Nat):Int)else((zR s.data.toList j s.size:Nat):Int)) (hm:lH s.data.toList mm) (h0:0<mm) (i0:Nat) (tE:i0<mm) (hd:digit (aq s.data.toList i0)=true)
  (hx: ∀h:2<s.size,((s[1].toNat|||32:Nat):Int)≠120) (M N D:Nat) (P:Int) (dt dg tr:Bool) (hr:fo s.data.toList mm=⟨M,N,D,P,dt,dg,tr⟩):
  Calls prog 206 #[.string s] w fun e w'=>e= .returned (.tuple #[.int .u64 (M:Int),.int .i64 (oE ⟨M,N,D,P,dt,dg,tr⟩ E),.bool false,.bool tr,.bool false,.int .i64 (s.size:Int),.bool true])∧w=w':=by
 have re:=hm.1;rw[ab]at re;have tn:0<s.size:=by omega
 have SD:((s[0].toNat:Int)==43)=false∧((s[0].toNat:Int)==45)=false:=by
  have h1:=hm.2 0 h0;rw[ar tn]at h1;rcases h1 with h1|h1
  ·have:=aI h1;constructor<;>(simp;omega)
  ·constructor<;>(simp;omega)
 obtain⟨e43,e45⟩:=SD;have z1:(s=ByteArray.empty)=False:=by
  apply bU;intro h;rw[h]at tn;simp at tn
 have HE:=aa hE;clear hE;have HM:=aa hm;have HX:=aa hx;have HR:=aa hr;have HD:=aa hd;have HI:=aa tE;clear hm hx hr hd tE;go_enter func206,ntmps206;go_wp2_with fail;go_step3;go_upto_region 12 with fail
 go_cut [54]from 36 to 54 (fun c wx=>c= .bool false∧wx=w)
 case first=>
  by_cases h2:2<s.size
  ·have q1:((2:Int)<(s.size:Int))=True:=by simp;omega
   cases qL:((s[0].toNat:Int)==48)
   ·go_wp2_with fail;go_meet;exact⟨rfl,rfl⟩
   ·have ajZ:(bits .or .u8 ((s[1].toNat:Nat):Int) 32==120)=false:=by
     have:=HX.out h2;rw[show bits .or .u8 ((s[1].toNat:Nat):Int) 32=((s[1].toNat|||32:Nat):Int)from vY s[1].toNat 32 (uG _) (by omega)];simpa using this
    go_wp2_with fail;refine(Tryz.internal_strconv_lower _ _).mono ?_;rintro e w' ⟨rfl,rfl⟩;go_wp2_with fail;go_meet;exact⟨rfl,rfl⟩
  ·have q1:((2:Int)<(s.size:Int))=False:=by simp;omega
   go_wp2_with fail;go_meet;exact⟨rfl,rfl⟩
 case rest=>
  obtain⟨rfl,rfl⟩:=hcut;go_wp2_with fail;go_step3;go_wp2_with fail;go_loop [2,5,7,9,13,14,15,16,17] (fun t2 t5 t7 t9 t13 t14 t15 t16 t17=> ∃(k M N D:Nat) (P:Int) (dt dg tr:Bool),Hid (fo s.data.toList k=⟨M,N,D,P,dt,dg,tr⟩)∧Hid (k≤mm)∧t2= .int .u64 (M:Int)∧t5= .bool tr∧t7= .int .i64 (k:Int)∧t9= .bool false∧t13= .bool dt∧t14= .bool dg∧t15= .int .i64 (D:Int)∧t16= .int .i64 (N:Int)∧t17= .int .i64 P) (fun t2 t5 t7 t9 t13 t14 t15 t16 t17=>s.size-(intOf t7).toNat)
  case atStart=>exact⟨0,0,0,0,0,false,false,false,aa rfl,aa (dQ _),rfl,rfl,rfl,rfl,rfl,rfl,rfl,rfl,rfl⟩
  case round=>
   obtain⟨k,M1,N1,D1,P1,XA,dg1,XB,dz,PF,rfl,rfl,rfl,rfl,rfl,rfl,rfl,rfl,rfl⟩:=hrel;have cJ:=AK HM.out k PF.out;rw[dz.out]at cJ;obtain⟨⟨n1,n2,n3⟩,n4,n5,n6⟩:=cJ;simp only at n1 n2 n3 n4 n5 n6;have H4:=aa n4;clear n4;have aeU:=PF.out;have wk:wrap64 ((k:Int)+1)=((k+1:Nat):Int):=by unfold wrap64;omega
   have wd:wrap64 ((D1:Int)+1)=((D1+1:Nat):Int):=by unfold wrap64;omega
   have wn:wrap64 ((N1:Int)+1)=((N1+1:Nat):Int):=by unfold wrap64;omega
   have wp:wrap64 (P1-1)=P1-1:=by unfold wrap64;omega
   by_cases ax:k<mm
   ·have om:k<s.size:=by omega
    have qY:k<s.data.toList.length:=by rw[ab];exact om
    have cL:aq s.data.toList k=s[k]:=ar om;have q1:((k:Int)<(s.size:Int))=True:=by simp;omega
    have ng:=HM.out.2 k ax;rw[cL]at ng;have p10:N1<19→M1<1000000000000000000:=fun h=>gU H4.out (ek (n:=10) (by omega) (show N1≤18 by omega))
    have aeV:(s[k].toNat=46∨48≤s[k].toNat∧s[k].toNat≤57):=by
     rcases ng with h|h
     ·exact .inr (aI h)
     ·exact .inl h.1
    have HB:=aa (show N1≤19∧N1≤D1∧D1≤k∧(N1<19→M1<1000000000000000000)∧ -(k:Int)≤P1∧P1≤k∧(s[k].toNat=46∨48≤s[k].toNat∧s[k].toNat≤57)∧k<1000 from⟨n1,n2,n3,p10,n5,n6,aeV,by omega⟩);clear p10 aeV;by_cases oo:s[k].toNat=46
    ·have ZG:((s[k].toNat:Int)==95)=false:=by rw[oo];rfl
     have sK:((s[k].toNat:Int)==46)=true:=by rw[oo];rfl
     have hdt:XA=false:=by
      have h1:=JL k (by omega) (ng.resolve_left (by intro h;have:=aI h;omega)).2;rw[dz.out]at h1;exact h1
     subst hdt;have HN:=aa (afA dz.out qY (by rw[cL];exact oo));have HK:=aa (show k+1≤mm by omega);have HA:=aa cL;clear ng cL n1 n2 n3 n5 n6;go_wp2_with fail
     all_goals first
      |(exfalso;first|(have:=jx qL;omega)|(have:=kJ qL;omega)|(have:=jx ne;omega)|(have:=kJ ne;omega)|omega)
      |(go_round;(case rel=>exact⟨k+1,M1,N1,D1,D1,true,dg1,XB,HN,HK,(vi (by first|rfl|omega|(obtain⟨b1,b2,b3,b4,b5,b6,b7,b8⟩:=HB.out;simp only[wrap64,dc,iW];omega))),rfl,(vi (by first|rfl|omega|(obtain⟨b1,b2,b3,b4,b5,b6,b7,b8⟩:=HB.out;simp only[wrap64,dc,iW];omega))),rfl,rfl,rfl,(vi (by first|rfl|omega|(obtain⟨b1,b2,b3,b4,b5,b6,b7,b8⟩:=HB.out;simp only[wrap64,dc,iW];omega))),(vi (by first|rfl|omega|(obtain⟨b1,b2,b3,b4,b5,b6,b7,b8⟩:=HB.out;simp only[wrap64,dc,iW];omega))),(vi (by first|rfl|omega|(obtain⟨b1,b2,b3,b4,b5,b6,b7,b8⟩:=HB.out;simp only[wrap64,dc,iW];omega)))⟩);(case measure=>simp[intOf];omega))
    ·have oy:digit s[k]=true:=ng.resolve_right (fun h=>oo h.1);have F2:=aI oy;have ZG:((s[k].toNat:Int)==95)=false:=by simp;omega
     have sK:((s[k].toNat:Int)==46)=false:=by simp;omega
     have g1:((48:Int)≤(s[k].toNat:Int))=True:=by simp;omega
     have g2:((s[k].toNat:Int)≤57)=True:=by simp;omega
     have HA:=aa cL;have HK:=aa (show k+1≤mm by omega);have HDG:=aa oy;have HDF:=aa F2;by_cases hz:s[k].toNat=48∧D1=0
     ·have qL:((s[k].toNat:Int)==48)=true:=by rw[hz.1];rfl
      obtain⟨cK,rfl⟩:=hz;have HN:=aa (Yf dz.out qY (by rw[cL];exact cK) rfl);clear ng cL n1 n2 n3 n5 n6 F2;go_wp2_with fail
      all_goals first
       |(exfalso;first|(have:=jx qL;omega)|(have:=kJ qL;omega)|(have:=jx ne;omega)|(have:=kJ ne;omega)|omega)
       |(go_round;(case rel=>exact⟨k+1,M1,N1,0,P1-1,XA,true,XB,HN,HK,(vi (by first|rfl|omega|(obtain⟨b1,b2,b3,b4,b5,b6,b7,b8⟩:=HB.out;simp only[wrap64,dc,iW];omega))),rfl,(vi (by first|rfl|omega|(obtain⟨b1,b2,b3,b4,b5,b6,b7,b8⟩:=HB.out;simp only[wrap64,dc,iW];omega))),rfl,rfl,rfl,(vi (by first|rfl|omega|(obtain⟨b1,b2,b3,b4,b5,b6,b7,b8⟩:=HB.out;simp only[wrap64,dc,iW];omega))),(vi (by first|rfl|omega|(obtain⟨b1,b2,b3,b4,b5,b6,b7,b8⟩:=HB.out;simp only[wrap64,dc,iW];omega))),(vi (by first|rfl|omega|(obtain⟨b1,b2,b3,b4,b5,b6,b7,b8⟩:=HB.out;simp only[wrap64,dc,iW];omega)))⟩);(case measure=>simp[intOf];omega))
     ·have ep:((s[k].toNat:Int)==48)=false∨((s[k].toNat:Int)==48)=true∧((D1:Int)==0)=false:=by
       by_cases h1:s[k].toNat=48
       ·right;have hD1:D1≠0:=fun h=>hz ⟨h1,h⟩
        refine⟨by rw[h1];rfl,?_⟩;simp;omega
       ·left;simp;omega
      by_cases hn:N1<19
      ·have e19:((N1:Int)<19)=True:=by simp;omega
       have hN:=afB dz.out qY (by rw[cL];exact oy) (by rw[cL];exact hz) hn;rw[cL]at hN;have HN:=aa hN;clear ng cL n1 n2 n3 n5 n6 hz F2 hN;rcases ep with qL|⟨qL,ed⟩
       all_goals
        go_wp2_with fail
        all_goals first
         |(exfalso;first|(have:=jx qL;omega)|(have:=kJ qL;omega)|(have:=jx ne;omega)|(have:=kJ ne;omega)|omega)
         |(go_round;(case rel=>exact⟨k+1,M1*10+(s[k].toNat-48),N1+1,D1+1,P1,XA,true,XB,HN,HK,(vi (by first|rfl|omega|(obtain⟨b1,b2,b3,b4,b5,b6,b7,b8⟩:=HB.out;simp only[wrap64,dc,iW];omega))),rfl,(vi (by first|rfl|omega|(obtain⟨b1,b2,b3,b4,b5,b6,b7,b8⟩:=HB.out;simp only[wrap64,dc,iW];omega))),rfl,rfl,rfl,(vi (by first|rfl|omega|(obtain⟨b1,b2,b3,b4,b5,b6,b7,b8⟩:=HB.out;simp only[wrap64,dc,iW];omega))),(vi (by first|rfl|omega|(obtain⟨b1,b2,b3,b4,b5,b6,b7,b8⟩:=HB.out;simp only[wrap64,dc,iW];omega))),(vi (by first|rfl|omega|(obtain⟨b1,b2,b3,b4,b5,b6,b7,b8⟩:=HB.out;simp only[wrap64,dc,iW];omega)))⟩);(case measure=>simp[intOf];omega))
      ·have e19:((N1:Int)<19)=False:=by simp;omega
       cases ne:((s[k].toNat:Int) != 48)
       ·have Si:s[k].toNat=48:=by
         have:(s[k].toNat:Int)=48:=by simpa using ne
         omega
        have hN:=Yg dz.out qY (by rw[cL];exact Si) (by rw[cL];exact hz) hn;have HN:=aa hN;clear ng cL n1 n2 n3 n5 n6 hz F2 hN;rcases ep with qL|⟨qL,ed⟩
        all_goals
         go_wp2_with fail
         all_goals first
          |(exfalso;first|(have:=jx qL;omega)|(have:=kJ qL;omega)|(have:=jx ne;omega)|(have:=kJ ne;omega)|omega)
          |(go_round;(case rel=>exact⟨k+1,M1,N1,D1+1,P1,XA,true,XB,HN,HK,(vi (by first|rfl|omega|(obtain⟨b1,b2,b3,b4,b5,b6,b7,b8⟩:=HB.out;simp only[wrap64,dc,iW];omega))),rfl,(vi (by first|rfl|omega|(obtain⟨b1,b2,b3,b4,b5,b6,b7,b8⟩:=HB.out;simp only[wrap64,dc,iW];omega))),rfl,rfl,rfl,(vi (by first|rfl|omega|(obtain⟨b1,b2,b3,b4,b5,b6,b7,b8⟩:=HB.out;simp only[wrap64,dc,iW];omega))),(vi (by first|rfl|omega|(obtain⟨b1,b2,b3,b4,b5,b6,b7,b8⟩:=HB.out;simp only[wrap64,dc,iW];omega))),(vi (by first|rfl|omega|(obtain⟨b1,b2,b3,b4,b5,b6,b7,b8⟩:=HB.out;simp only[wrap64,dc,iW];omega)))⟩);(case measure=>simp[intOf];omega))
       ·have Si:s[k].toNat≠48:=by
         have: ¬(s[k].toNat:Int)=48:=by simpa using ne
         omega
        have hN:=Yh dz.out qY (by rw[cL];exact oy) (by rw[cL];exact Si) hn;have HN:=aa hN;clear ng cL n1 n2 n3 n5 n6 hz F2 hN;rcases ep with qL|⟨qL,ed⟩
        all_goals
         go_wp2_with fail
         all_goals first
          |(exfalso;first|(have:=jx qL;omega)|(have:=kJ qL;omega)|(have:=jx ne;omega)|(have:=kJ ne;omega)|omega)
          |(go_round;(case rel=>exact⟨k+1,M1,N1,D1+1,P1,XA,true,true,HN,HK,(vi (by first|rfl|omega|(obtain⟨b1,b2,b3,b4,b5,b6,b7,b8⟩:=HB.out;simp only[wrap64,dc,iW];omega))),rfl,(vi (by first|rfl|omega|(obtain⟨b1,b2,b3,b4,b5,b6,b7,b8⟩:=HB.out;simp only[wrap64,dc,iW];omega))),rfl,rfl,rfl,(vi (by first|rfl|omega|(obtain⟨b1,b2,b3,b4,b5,b6,b7,b8⟩:=HB.out;simp only[wrap64,dc,iW];omega))),(vi (by first|rfl|omega|(obtain⟨b1,b2,b3,b4,b5,b6,b7,b8⟩:=HB.out;simp only[wrap64,dc,iW];omega))),(vi (by first|rfl|omega|(obtain⟨b1,b2,b3,b4,b5,b6,b7,b8⟩:=HB.out;simp only[wrap64,dc,iW];omega)))⟩);(case measure=>simp[intOf];omega))
   ·have Me:k=mm:=by omega
    have mA:=dz.out;have qI:=JM HM.out HD.out k PF.out (by have:=HI.out;omega);rw[Me,HR.out]at mA;rw[dz.out]at qI;simp only at qI;injection mA with i1 i2 i3 i4 i5 i6 i7
    subst i1 i2 i3 i4 i5 i6 i7 qI;clear ax;rcases HE.out with⟨hmz,rfl⟩|⟨j,neg,hex,hEE⟩
    ·rw[hmz]at Me;clear HE;have q1:((k:Int)<(s.size:Int))=False:=by simp;omega
     have uv:(k:Int)=(s.size:Int):=by omega
     have wx:wrap64 ((D:Int)-(N:Int))=(D:Int)-(N:Int):=by unfold wrap64;omega
     have wy:wrap64 (P-(N:Int))=P-(N:Int):=by unfold wrap64;omega
     have Wz:=aa (show oE ⟨M,N,D,P,dt,true,tr⟩ 0=if M≠0 then(if dt then P else(D:Int))-(N:Int)else 0 by simp[oE]);clear n1 n2 n3 n5 n6 aeU;cases dt
     all_goals
      cases em:((M:Int) != 0)
      all_goals
       go_wp2_with fail
       try rw[rz]
       refine cB (qo rfl _ _ _) rfl ?_;refine⟨?_,rfl⟩;rw[Wz.out]
       first
        |(have hM:=A7 em;subst hM;simp[uv];done)
        |(have hM:=Ac em;rw[au hM];simp[uv];done)
    ·subst Me;clear HE;have om:=hex.lt;rw[ab]at om;have cL:=ar (s:=s) om;have q1:((k:Int)<(s.size:Int))=True:=by simp;omega
     have hE:s[k].toNat=101∨s[k].toNat=69:=by
      have:=hex.tF;rw[cL]at this;simp[tF]at this;exact this
     have ZG:((s[k].toNat:Int)==95)=false:=by simp;omega
     have sK:((s[k].toNat:Int)==46)=false:=by simp;omega
     have g1:((48:Int)≤(s[k].toNat:Int))=True:=by simp;omega
     have g2:((s[k].toNat:Int)≤57)=False:=by simp;omega
     have Mf:(bits .or .u8 ((s[k].toNat:Nat):Int) 32==101)=true:=by
      rw[show bits .or .u8 ((s[k].toNat:Nat):Int) 32=((s[k].toNat|||32:Nat):Int)from vY s[k].toNat 32 (uG _) (by omega)];rcases hE with h|h<;>(rw[h];rfl)
     have hjl:=hex.some;rw[ab]at hjl;have hkj:k+1≤j:=by rcases hex.sign with h|h|h<;>omega
     have ak0:k+1<s.size:=by omega
     have wk2:wrap64 ((k:Int)+1+1)=(k:Int)+2:=by unfold wrap64;omega
     have hNB:=aa (ac6 n1 n3 n5 n6 aeU re hs);have Xv:(j=k+1∧neg=false∧((s[k+1].toNat:Int)==43)=false∧((s[k+1].toNat:Int)==45)=false)∨(j=k+2∧neg=false∧((s[k+1].toNat:Int)==43)=true)∨(j=k+2∧neg=true∧((s[k+1].toNat:Int)==43)=false∧((s[k+1].toNat:Int)==45)=true):=by
      have rl:=ar (s:=s) ak0;rcases hex.sign with⟨h1,h2,h3⟩|⟨h1,h2,h3⟩|⟨h1,h2,h3⟩
      ·left;subst h1;rw[rl]at h3;have:=aI h3;refine⟨rfl,h2,?_,?_⟩<;>(simp;omega)
      ·right;left;rw[rl]at h3;exact⟨h1,h2,by rw[h3];rfl⟩
      ·right;right;rw[rl]at h3;exact⟨h1,h2,by rw[h3];rfl,by rw[h3];rfl⟩
     have ab4:=hex.fk j (aS _) (by rw[ab];exact hjl);rw[ar hjl]at ab4;have hjf:=aI ab4;have r2n: ∀[inst:Decidable ((s[j].toNat:Int)<48)],@decide _ inst=false:=fun {inst}=>gA (by omega)
     have r3n: ∀[inst:Decidable ((57:Int)<(s[j].toNat:Int))],@decide _ inst=false:=fun {inst}=>gA (by omega)
     obtain⟨J,hJ⟩: ∃J,j=J:=⟨_,rfl⟩;have HDG:Hid (∀i,J≤i→i<s.data.toList.length→digit (aq s.data.toList i)=true):=aa (by rw[←hJ];exact hex.fk);have HJL:Hid (J<s.size):=aa (by rw[←hJ];exact hjl);have HEE:Hid (E=if neg then-((zR s.data.toList J s.size:Nat):Int)else((zR s.data.toList J s.size:Nat):Int)):=aa (by rw[←hJ];exact hEE);have HL1:=aa Mf;have HL5:=aa wk2;clear Mf wk2 ab4 hEE;clear cL hE hex n1 n2 n3 n5 n6;rcases Xv with⟨rfl,rfl,x43,x45⟩|⟨rfl,rfl,x43⟩|⟨rfl,rfl,x43,x45⟩
     all_goals
      have HJ:=aa hJ;clear hJ
      try have r4:((s.size:Int)≤(k:Int)+2)=False:=by have:=HJL.out;have:=HJ.out;simp;omega
      cases dt
      all_goals
       go_wp2_with fail;refine(Tryz.internal_strconv_lower _ _).mono ?_;rintro e w' ⟨rfl,rfl⟩;have Mf:=HL1.out;have q2:((s.size:Int)≤(k:Int)+1)=False:=by have:=HJL.out;have:=HJ.out;simp;omega
       clear wk;go_upto_region 67 with fail
       go_upto_region 68 with fail
       go_wp2_with fail;go_loop [7,9,20] (fun t7 t9 t20=> ∃(i e:Nat),Hid (zR s.data.toList J i=e)∧Hid (J≤i∧i≤s.size)∧t7= .int .i64 (i:Int)∧t9= .bool false∧t20= .int .i64 (e:Int)) (fun t7 t9 t20=>s.size-(intOf t7).toNat)
       case atStart=>exact⟨J,0,aa (oV _ _),aa ⟨aS _,ju HJL.out⟩,(vi (by have:=HJ.out;omega)),rfl,rfl⟩
       case round=>
        obtain⟨i,e,hei,Zz,rfl,rfl,rfl⟩:=hrel;have IP:=Zz.out;have Og:e≤100009:=by
         rw[←hei.out];exact Gp i IP.1 (by rw[ab];exact IP.2) fun i' h1 h2=>HDG.out i' h1 (by rw[ab];omega)
        by_cases hi:i<s.size
        ·have uy:=HDG.out i IP.1 (by rw[ab];exact hi);rw[ar hi]at uy;have WH:=aI uy;have Jm:zR s.data.toList J (i+1)=mG e s[i]:=by rw[wL IP.1 (by rw[ab];exact hi),hei.out,ar hi]
         have HSC:=aa Jm;have HIF:=aa WH;have p1:((i:Int)<(s.size:Int))=True:=by simp;omega
         have p2: ∀[inst:Decidable ((48:Int)≤(s[i].toNat:Int))],@decide _ inst=true:=fun {inst}=>dR (by omega)
         have p3: ∀[inst:Decidable ((s[i].toNat:Int)≤57)],@decide _ inst=true:=fun {inst}=>dR (by omega)
         have p4:((s[i].toNat:Int)==95)=false:=by simp;omega
         have HIB:=aa (show J≤i+1∧i+1≤s.size by omega);clear uy Jm q2 IP;by_cases h4:e<10000
         ·have p5:((e:Int)<10000)=True:=by simp;omega
          have dz:mG e s[i]=e*10+(s[i].toNat-48):=by rw[mG,au h4]
          have xw:=aa (HSC.out.trans dz);clear dz;go_wp2_with fail
          all_goals first
           |(exfalso;omega)
           |(go_round;(case rel=>exact⟨i+1,e*10+(s[i].toNat-48),xw,HIB,(vi (by first|rfl|omega|(simp only[wrap64];omega))),rfl,(vi (by first|rfl|omega|(simp only[wrap64];omega)))⟩);(case measure=>simp[intOf];omega))
         ·have p5:((e:Int)<10000)=False:=by simp;omega
          have dz:mG e s[i]=e:=by rw[mG,af h4]
          have xw:=aa (HSC.out.trans dz);clear dz;go_wp2_with fail
          all_goals first
           |(exfalso;omega)
           |(go_round;(case rel=>exact⟨i+1,e,xw,HIB,(vi (by first|rfl|omega|(simp only[wrap64];omega))),rfl,rfl⟩);(case measure=>simp[intOf];omega))
        ·have LO:i=s.size:=by omega
         subst LO;clear q2;cases em:((M:Int) != 0)
         all_goals
          go_wp2_with fail
          try rw[rz]
          refine cB (qo rfl _ _ _) rfl ?_;refine⟨ajY ?_,rfl⟩;rw[HEE.out,hei.out]
          first
           |exact(Vt (A7 em)).symm
           |exact FD (Ac em) hNB.out Og rfl (.inl rfl)
           |exact FD (Ac em) hNB.out Og rfl (.inr rfl)
theorem afZ {M:Int} (h:X=X') (hz:z=z'):Ending.returned (.tuple #[.int .u64 M,.int .i64 X,.bool false,.bool tr,.bool true,.int .i64 z,.bool true])= .returned (.tuple #[.int .u64 M,.int .i64 X',.bool false,.bool tr,.bool true,.int .i64 z',.bool true]):=by rw[h,hz]
def Mt (m k:Nat) (P:Int) (dg:Bool):Prop:=2≤k∧k≤m∧ -(k:Int)≤P∧P≤0∧(2<k→dg=true)
def lK (M N D:Nat):Int:=if M≠0 then 4*(D:Int)-4*(N:Int)else 0
theorem Vu (h:M=0):lK M N D=0:=by rw[lK,af (by simpa using h)]
theorem Rv (hM:M≠0) (h:N≤16∧D≤1000):wrap64 (wrap64 (wrap64 ((D:Int)*4))-wrap64 ((N:Int)*4))=lK M N D:=by
 rw[lK,au hM];unfold wrap64;omega
theorem ak1 (h:M<1152921504606846976) (hv:v<16):IntKind.u64.wrap ((M:Int)*16)=((M*16:Nat):Int)∧IntKind.u64.wrap (((M*16:Nat):Int)+(v:Int))=((M*16+v:Nat):Int):=by
 constructor<;>(rw[dc];omega)
set_option maxHeartbeats 8000000 in
theorem yw (s:ByteArray) (w:World) (m:Nat) (hs:s.size≤1000) (Xu:3≤m) (hmz:m+1<s.size) (ZH:s[0].toNat=48) (lC:(s[1].toNat|||32)=120) (hm:EK s.data.toList m) (hp1:s[m].toNat=112) (Ay:s[m+1].toNat=48) (iE:s.size=m+2)
  (M N D:Nat) (tr:Bool) (hr:eJ s.data.toList m=⟨M,N,D,tr⟩):
  Calls prog 206 #[.string s] w fun e w'=>e= .returned (.tuple #[.int .u64 (M:Int),.int .i64 (lK M N D),.bool false,.bool tr,.bool true,.int .i64 (s.size:Int),.bool true])∧w=w':=by
 have Wp:=aa iE;clear iE;have h2s:2<s.size:=by omega
 have e43:((s[0].toNat:Int)==43)=false:=by rw[ZH];rfl
 have e45:((s[0].toNat:Int)==45)=false:=by rw[ZH];rfl
 have z1:(s=ByteArray.empty)=False:=by
  apply bU;intro h;rw[h]at h2s;simp at h2s
 have HM:=aa hm;have HR:=aa hr;have HP1:=aa hp1;have HP2:=aa Ay;have Wz:=aa lC;have HX0:=aa ZH;clear hm hr hp1 Ay lC ZH;go_enter func206,ntmps206;go_wp2_with fail;go_step3;go_upto_region 12 with fail
 go_cut [54]from 36 to 54 (fun c wx=>c= .bool true∧wx=w)
 case first=>
  have q1:((2:Int)<(s.size:Int))=True:=by simp;omega
  have qL:((s[0].toNat:Int)==48)=true:=by rw[HX0.out];rfl
  have ajZ:(bits .or .u8 ((s[1].toNat:Nat):Int) 32==120)=true:=by
   rw[show bits .or .u8 ((s[1].toNat:Nat):Int) 32=((s[1].toNat|||32:Nat):Int)from vY s[1].toNat 32 (uG _) (by omega),Wz.out];rfl
  go_wp2_with fail;refine(Tryz.internal_strconv_lower _ _).mono ?_;rintro e w' ⟨rfl,rfl⟩;go_wp2_with fail;go_meet;exact⟨rfl,rfl⟩
 case rest=>
  obtain⟨rfl,rfl⟩:=hcut;go_wp2_with fail;go_step3;go_wp2_with fail;go_loop [2,5,7,9,13,14,15,16,17] (fun t2 t5 t7 t9 t13 t14 t15 t16 t17=> ∃(k M N D:Nat) (P:Int) (dg tr:Bool),Hid (eJ s.data.toList k=⟨M,N,D,tr⟩)∧Hid (Mt m k P dg)∧t2= .int .u64 (M:Int)∧t5= .bool tr∧t7= .int .i64 (k:Int)∧t9= .bool false∧t13= .bool false∧t14= .bool dg∧t15= .int .i64 (D:Int)∧t16= .int .i64 (N:Int)∧t17= .int .i64 P) (fun t2 t5 t7 t9 t13 t14 t15 t16 t17=>s.size-(intOf t7).toNat)
  case atStart=>exact⟨2,0,0,0,0,false,false,aa (BW _),aa ⟨aS _,by omega,by omega,by omega,by omega⟩,rfl,rfl,rfl,rfl,rfl,rfl,rfl,rfl,rfl⟩
  case round=>
   obtain⟨k,M1,N1,D1,P1,dg1,XB,dz,jR,rfl,rfl,rfl,rfl,rfl,rfl,rfl,rfl,rfl⟩:=hrel;obtain⟨k2,PF,p1b,p2b,qI⟩:=jR.out;have cJ:=GK HM.out k k2 PF;rw[dz.out]at cJ;have n123:=cJ.tI;have n4:=cJ.fm;simp only at n123 n4;have H4:=aa n4;clear n4 cJ;by_cases ax:k<m
   ·have om:k<s.size:=by omega
    have cL:aq s.data.toList k=s[k]:=ar om;have q1:((k:Int)<(s.size:Int))=True:=by simp;omega
    have ng:=HM.out.2 k k2 ax;rw[cL]at ng;have p10:N1<16→M1<1152921504606846976:=fun h=>gU H4.out (ek (n:=16) (by omega) (show N1≤15 by omega))
    have XS:=aa p10;have It:=aa cL;have HHX:=aa ng;have HKL:=aa (show ¬(s.data.toList.length≤k)by rw[ab];omega);have HN3:=aa n123;have Ol:=aa k2;have HK:Hid (Mt m (k+1) P1 true):=aa ⟨by omega,by omega,by omega,by omega,fun _=>rfl⟩;have HK0:Hid (Mt m (k+1) (P1-1) true):=aa ⟨by omega,by omega,by omega,by omega,fun _=>rfl⟩;have hP1: -1000≤P1∧P1≤0:=by omega
    have hK1:k<1000:=by omega
    have EO:=GJ _ ng;have hD1:N1≤16∧D1≤1000:=by omega
    clear p10 cL n123 k2 p1b p2b qI;cases hd:digit s[k]
    ·
     have IN:=BX _ HHX.out hd;obtain⟨L,hL⟩: ∃L,L=(s[k].toNat|||32):=⟨_,rfl⟩;have hv:mB s[k]=L-87:=by
      rw[hL];have h1:mB s[k]=(s[k].toNat|||32)-87:=by unfold mB;rw[hd,af (by simp)]
      exact h1
     have IN:97≤L∧L≤102:=by rw[hL];exact IN
     have o1:bits .or .u8 (s[k].toNat:Int) 32=(L:Int):=by rw[hL];exact vY s[k].toNat 32 (uG _) (by omega)
     have pd:digit (aq s.data.toList k)=false:=by rw[It.out];exact hd
     have mx:gX (aq s.data.toList k)=true:=by rw[It.out];exact HHX.out
     have ZI:(aq s.data.toList k).toNat=s[k].toNat:=cz UInt8.toNat It.out;have aeW:(97≤(aq s.data.toList k).toNat∧(aq s.data.toList k).toNat≤102)∨(65≤(aq s.data.toList k).toNat∧(aq s.data.toList k).toNat≤70):=by
      simpa [gX,pd]using mx
     have aeX:65≤s[k].toNat:=by omega
     have ZG:((s[k].toNat:Int)==95)=false:=by simp;omega
     have sK:((s[k].toNat:Int)==46)=false:=by simp;omega
     have g1: ∀[inst:Decidable ((48:Int)≤(s[k].toNat:Int))],@decide _ inst=true:=fun {inst}=>dR (by omega)
     have g2: ∀[inst:Decidable ((s[k].toNat:Int)≤57)],@decide _ inst=false:=fun {inst}=>gA (by omega)
     have g3: ∀[inst:Decidable ((97:Int)≤(L:Int))],@decide _ inst=true:=fun {inst}=>dR (by omega)
     have g4: ∀[inst:Decidable ((L:Int)≤102)],@decide _ inst=true:=fun {inst}=>dR (by omega)
     have HV:=aa hv;have HLW:=aa IN;have aeY:s[k].toNat≠48:=by omega
     by_cases hn:N1<16
     ·have Wy:((N1:Int)<16)=True:=by simp;omega
      have Sy:mB (aq s.data.toList k)=L-87:=by rw[It.out];exact hv
      have hN:=Z4 dz.out Ol.out (EF HKL.out) (by omega) hn;rw[Sy]at hN;have HN:=aa hN;obtain⟨mx1,mx2⟩:=ak1 (XS.out hn) (show L-87<16 by omega);have u1:IntKind.u8.wrap (IntKind.u8.wrap ((L:Int)-97)+10)=((L-87:Nat):Int):=by rw[iW,iW];omega
      clear hN Sy pd mx ZI aeW hv IN aeX ng EO aeY hL;go_wp2_with fail
      all_goals first
       |(exfalso;omega)
       |(refine(Tryz.internal_strconv_lower _ _).mono ?_;rintro e w' ⟨rfl,rfl⟩;rw[o1];go_wp2_with fail)
      all_goals first
       |(exfalso;omega)
       |(refine(Tryz.internal_strconv_lower _ _).mono ?_;rintro e w' ⟨rfl,rfl⟩;rw[o1];go_wp2_with fail)
      all_goals first
       |(exfalso;omega)
       |(refine(Tryz.internal_strconv_lower _ _).mono ?_;rintro e w' ⟨rfl,rfl⟩;rw[o1];go_wp2_with fail)
      all_goals first
       |(exfalso;omega)
       |(go_round;(case rel=>exact⟨k+1,M1*16+(L-87),N1+1,D1+1,P1,true,XB,HN,HK,(vi (by first|rfl|omega|(have yB:=XS.out hn;have Iw:=HLW.out;simp only[dc,iW];omega))),rfl,(vi (by first|rfl|omega)),rfl,rfl,rfl,(vi (by first|rfl|omega|(simp only[wrap64];omega))),(vi (by first|rfl|omega|(simp only[wrap64];omega))),rfl⟩);(case measure=>simp[intOf];omega))
     ·have Wy:((N1:Int)<16)=False:=by simp;omega
      have hN:=O4 dz.out Ol.out (EF HKL.out) (by omega) hn;have HN:=aa hN;clear hN pd mx ZI aeW hv IN aeX ng EO aeY hL;go_wp2_with fail
      all_goals first
       |(exfalso;omega)
       |(refine(Tryz.internal_strconv_lower _ _).mono ?_;rintro e w' ⟨rfl,rfl⟩;rw[o1];go_wp2_with fail)
      all_goals first
       |(exfalso;omega)
       |(refine(Tryz.internal_strconv_lower _ _).mono ?_;rintro e w' ⟨rfl,rfl⟩;rw[o1];go_wp2_with fail)
      all_goals first
       |(exfalso;omega)
       |(go_round;(case rel=>exact⟨k+1,M1,N1,D1+1,P1,true,true,HN,HK,(vi (by first|rfl|omega|(have yB:=XS.out hn;have Iw:=HLW.out;simp only[dc,iW];omega))),rfl,(vi (by first|rfl|omega)),rfl,rfl,rfl,(vi (by first|rfl|omega|(simp only[wrap64];omega))),(vi (by first|rfl|omega|(simp only[wrap64];omega))),rfl⟩);(case measure=>simp[intOf];omega))
    ·
     have F2:=aI hd;have pd:digit (aq s.data.toList k)=true:=by rw[It.out];exact hd
     have ZI:(aq s.data.toList k).toNat=s[k].toNat:=cz UInt8.toNat It.out;have Sy:mB (aq s.data.toList k)=s[k].toNat-48:=by unfold mB;rw[au pd,ZI]
     have ZG:((s[k].toNat:Int)==95)=false:=by simp;omega
     have sK:((s[k].toNat:Int)==46)=false:=by simp;omega
     have g1: ∀[inst:Decidable ((48:Int)≤(s[k].toNat:Int))],@decide _ inst=true:=fun {inst}=>dR (by omega)
     have g2: ∀[inst:Decidable ((s[k].toNat:Int)≤57)],@decide _ inst=true:=fun {inst}=>dR (by omega)
     by_cases hz:s[k].toNat=48∧D1=0
     ·obtain⟨cK,rfl⟩:=hz;have qL:((s[k].toNat:Int)==48)=true:=by rw[cK];rfl
      have HN:=aa (Yk dz.out Ol.out (EF HKL.out) (by omega) rfl);clear Sy pd ZI ng EO;go_wp2_with fail
      all_goals first
       |(exfalso;first|omega|(have:=jx qL;omega)|(have:=kJ qL;omega))
       |(go_round;(case rel=>exact⟨k+1,M1,N1,0,P1-1,true,XB,HN,HK0,(vi (by first|rfl|omega)),rfl,(vi (by first|rfl|omega)),rfl,rfl,rfl,(vi (by first|rfl|omega|(simp only[wrap64];omega))),(vi (by first|rfl|omega|(simp only[wrap64];omega))),(vi (by first|rfl|omega|(simp only[wrap64];omega)))⟩);(case measure=>simp[intOf];omega))
     ·by_cases hn:N1<16
      ·have Wy:((N1:Int)<16)=True:=by simp;omega
       have hN:=Z4 dz.out Ol.out (EF HKL.out) (by omega) hn;rw[Sy]at hN;have HN:=aa hN;clear hN Sy pd ZI ng EO;cases qL:((s[k].toNat:Int)==48)
       all_goals
        go_wp2_with fail
        all_goals first
         |(exfalso;first|omega|(have:=jx qL;omega)|(have:=kJ qL;omega))
         |(go_round;(case rel=>exact⟨k+1,M1*16+(s[k].toNat-48),N1+1,D1+1,P1,true,XB,HN,HK,(vi (by first|rfl|omega|(have yB:=XS.out hn;simp only[dc,iW];omega))),rfl,(vi (by first|rfl|omega)),rfl,rfl,rfl,(vi (by first|rfl|omega|(simp only[wrap64];omega))),(vi (by first|rfl|omega|(simp only[wrap64];omega))),(vi (by first|rfl|omega|(simp only[wrap64];omega)))⟩);(case measure=>simp[intOf];omega))
      ·have Wy:((N1:Int)<16)=False:=by simp;omega
       by_cases Si:s[k].toNat=48
       ·have HN:=aa (Yl dz.out Ol.out (EF HKL.out) (by omega) (by omega) hn);have qL:((s[k].toNat:Int)==48)=true:=by rw[Si];rfl
        clear Sy pd ZI ng EO;go_wp2_with fail
        all_goals first
         |(exfalso;first|omega|(have:=jx qL;omega)|(have:=kJ qL;omega))
         |(go_round;(case rel=>exact⟨k+1,M1,N1,D1+1,P1,true,XB,HN,HK,(vi (by first|rfl|omega)),rfl,(vi (by first|rfl|omega)),rfl,rfl,rfl,(vi (by first|rfl|omega|(simp only[wrap64];omega))),(vi (by first|rfl|omega|(simp only[wrap64];omega))),(vi (by first|rfl|omega|(simp only[wrap64];omega)))⟩);(case measure=>simp[intOf];omega))
       ·have HN:=aa (O4 dz.out Ol.out (EF HKL.out) (by omega) hn);have qL:((s[k].toNat:Int)==48)=false:=by simp;exact fun h=>Si (by omega)
        clear Sy pd ZI ng EO;go_wp2_with fail
        all_goals first
         |(exfalso;first|omega|(have:=jx qL;omega)|(have:=kJ qL;omega))
         |(go_round;(case rel=>exact⟨k+1,M1,N1,D1+1,P1,true,true,HN,HK,(vi (by first|rfl|omega)),rfl,(vi (by first|rfl|omega)),rfl,rfl,rfl,(vi (by first|rfl|omega|(simp only[wrap64];omega))),(vi (by first|rfl|omega|(simp only[wrap64];omega))),(vi (by first|rfl|omega|(simp only[wrap64];omega)))⟩);(case measure=>simp[intOf];omega))
   ·have Me:k=m:=by omega
    subst Me;have mA:=dz.out;rw[HR.out]at mA;injection mA with i1 i2 i3 i4
    subst i1 i2 i3 i4;have hdt:dg1=true:=qI (by omega);subst hdt;have om:k<s.size:=by omega
    have q1:((k:Int)<(s.size:Int))=True:=by simp;omega
    have hc:=HP1.out;have ZG:((s[k].toNat:Int)==95)=false:=by rw[hc];rfl
    have sK:((s[k].toNat:Int)==46)=false:=by rw[hc];rfl
    have g1: ∀[inst:Decidable ((48:Int)≤(s[k].toNat:Int))],@decide _ inst=true:=fun {inst}=>dR (by omega)
    have g2: ∀[inst:Decidable ((s[k].toNat:Int)≤57)],@decide _ inst=false:=fun {inst}=>gA (by omega)
    have o1:bits .or .u8 (s[k].toNat:Int) 32=112:=by
     rw[show bits .or .u8 (s[k].toNat:Int) 32=((s[k].toNat|||32:Nat):Int)from vY s[k].toNat 32 (uG _) (by omega),hc];rfl
    have Oi:=aa (show N≤16∧D≤1000 from⟨n123.1,by omega⟩);clear n123 k2 PF p1b p2b qI hc ax;go_wp2_with fail
    all_goals first
     |(exfalso;omega)
     |(refine(Tryz.internal_strconv_lower _ _).mono ?_;rintro e w' ⟨rfl,rfl⟩;rw[o1];go_wp2_with fail)
    all_goals first
     |(exfalso;omega)
     |(refine(Tryz.internal_strconv_lower _ _).mono ?_;rintro e Zk ⟨rfl,rfl⟩;rw[o1];go_wp2_with fail)
    refine(Tryz.internal_strconv_lower _ _).mono ?_;rintro e w3 ⟨rfl,rfl⟩;rw[o1];have kr:=HP2.out;have q2:((s.size:Int)≤(k:Int)+1)=False:=by simp;omega
    have x43:((s[k+1].toNat:Int)==43)=false:=by rw[kr];rfl
    have x45:((s[k+1].toNat:Int)==45)=false:=by rw[kr];rfl
    have r2n: ∀[inst:Decidable ((s[k+1].toNat:Int)<48)],@decide _ inst=false:=fun {inst}=>gA (by omega)
    have r3n: ∀[inst:Decidable ((57:Int)<(s[k+1].toNat:Int))],@decide _ inst=false:=fun {inst}=>gA (by omega)
    go_upto_region 67 with fail
    go_upto_region 68 with fail
    go_wp2_with fail;go_loop [7,9,20] (fun t7 t9 t20=> ∃(i:Nat),Hid (k+1≤i∧i≤k+2)∧t7= .int .i64 (i:Int)∧t9= .bool false∧t20= .int .i64 0) (fun t7 t9 t20=>s.size-(intOf t7).toNat)
    case atStart=>exact⟨k+1,aa ⟨aS _,by omega⟩,(vi (by first|rfl|omega)),rfl,rfl⟩
    case round=>
     obtain⟨i,Zz,rfl,rfl,rfl⟩:=hrel;have IP:=Zz.out;have iE:=Wp.out;by_cases hi:i<s.size
     ·obtain rfl:i=k+1:=by omega
      have WH:48≤s[k+1].toNat∧s[k+1].toNat≤57:=by omega
      have p1:(((k+1:Nat):Int)<(s.size:Int))=True:=by simp;omega
      have Wv:((k:Int)+1<(s.size:Int))=True:=by simp;omega
      have p2: ∀[inst:Decidable ((48:Int)≤(s[k+1].toNat:Int))],@decide _ inst=true:=fun {inst}=>dR (by omega)
      have p3: ∀[inst:Decidable ((s[k+1].toNat:Int)≤57)],@decide _ inst=true:=fun {inst}=>dR (by omega)
      have p4:((s[k+1].toNat:Int)==95)=false:=by rw[kr];rfl
      clear IP q2 iE;go_wp2_with fail
      all_goals first
       |(exfalso;omega)
       |(go_round;(case rel=>exact⟨k+2,aa ⟨by omega,aS _⟩,(vi (by first|rfl|omega|(simp only[wrap64];omega))),rfl,(vi (by first|rfl|omega|(simp only[wrap64];omega)))⟩);(case measure=>simp[intOf];omega))
     ·have LO:i=s.size:=by omega
      subst LO;clear q2 IP iE;cases em:((M:Int) != 0)
      all_goals
       go_wp2_with fail
       try rw[rz]
       refine cB (qo rfl _ _ _) rfl ?_;refine⟨afZ ?_ rfl,rfl⟩
       first
        |exact(Vu (A7 em)).symm
        |exact Rv (Ac em) Oi.out
