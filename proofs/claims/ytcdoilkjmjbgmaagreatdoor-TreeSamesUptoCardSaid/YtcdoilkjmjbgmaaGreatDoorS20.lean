import Derived.Test.YtcdoilkjmjbgmaaGreatDoorS19
/- Part of the proof of YtcdoilkjmjbgmaaGreatDoorCardY: NumC FpF FpG DecA FpH. -/
set_option maxRecDepth 100000
set_option maxHeartbeats 4000000
set_option linter.unusedVariables false
set_option linter.unusedSimpArgs false
namespace Go.Proofs.YtcdoilkjmjbgmaaGreatDoor
open Go.RowKit
open Go.Proofs.Tryz
variable {l m:List UInt8} {k i M N D v:Nat} {X X' z z':Int} {tr:Bool}
theorem fF (x:Int) (w:World):(callFunc 127 #[.int .u64 x]).run prog w= .ok (.value (.float .f64 x.toNat)) w:=by
 rw[run_callFunc_extern func127 (by kernel_rfl) (by kernel_rfl) (by kernel_rfl) (e:=Extern.MathFloatBits.float64frombits) (by kernel_rfl)];rfl
theorem QX (x:Nat) (w:World):(callFunc 198 #[.float .f64 x]).run prog w= .ok (.value (.int .u64 (x:Int))) w:=by
 rw[run_callFunc_extern func198 (by kernel_rfl) (by kernel_rfl) (by kernel_rfl) (e:=Extern.MathFloatBits.float64bits) (by kernel_rfl)];rfl
theorem Vo (w:World):Calls prog 169 #[.int .i64 1] w fun e w'=>e= .returned (.float .f64 9218868437227405312)∧w=w':=by
 go_enter func169,ntmps169;go_wp2_with fail;rw[fF];rw[jQ];go_wp2_with fail;go_ret;exact⟨rfl,rfl⟩
theorem Vp (w:World):Calls prog 170 #[] w fun e w'=>e= .returned (.float .f64 9221120237041090561)∧w=w':=by
 go_enter func170,ntmps170;go_wp2_with fail;rw[fF];rw[jQ];go_wp2_with fail;go_ret;exact⟨rfl,rfl⟩
theorem Vq (x:Nat) (w:World):Calls prog 185 #[.float .f64 x] w fun e w'=>e= .returned (.float .f64 (SU x))∧w=w':=by
 have h1:bits .andNot .u64 (x:Int) 9223372036854775808=((SU x:Nat):Int):=by
  have e:bits .andNot .u64 (x:Int) 9223372036854775808=bits .andNot .u64 ((x%18446744073709551616:Nat):Int) 9223372036854775808:=by
   have hb:BitVec.ofInt 64 (x:Int)=BitVec.ofInt 64 ((x%18446744073709551616:Nat):Int):=by
    apply BitVec.eq_of_toNat_eq;simp only[BitVec.toNat_ofInt];omega
   unfold bits;show IntKind.u64.wrap _=IntKind.u64.wrap _;simp only[IntKind.bits];rw[hb]
  rw[e];exact u64_andNot_nat (x%18446744073709551616) 9223372036854775808 (my _ (by omega)) (by omega)
 go_enter func185,ntmps185;go_wp2_with fail;rw[QX];rw[jQ];go_wp2_with fail;rw[fF];rw[jQ];go_wp2_with fail;go_ret;exact⟨rfl,rfl⟩
theorem Ni (x:Nat) (w:World):Calls prog 173 #[.float .f64 x,.int .i64 0] w fun e w'=>e= .returned (.bool (dQ x))∧w=w':=by
 go_enter func173,ntmps173;go_wp2_with fail;refine(Vq x _).mono ?_;rintro e w' ⟨rfl,rfl⟩;go_wp2_with fail;go_ret;exact⟨rfl,rfl⟩
def tE (l m:List UInt8):Bool:=l.length==m.length&&(l.zip m).all fun p=>(p.1.toNat|||32)==p.2.toNat
def ug (l m:List UInt8) (k:Nat):Prop:=((l.take k).zip (m.take k)).all (fun p=>(p.1.toNat|||32)==p.2.toNat)=true
theorem Kk (l m:List UInt8):ug l m 0:=rfl
theorem DO (h1:k<l.length) (h2:k<m.length):(l.take (k+1)).zip (m.take (k+1))=(l.take k).zip (m.take k)++[(au l k,au m k)]:=by
 have e1:l[k]=au l k:=by rw[au,lf,lJ h1];rfl
 have e2:m[k]=au m k:=by rw[au,lf,lJ h2];rfl
 rw[jO h1,jO h2,List.zip_append (by simp;omega),e1,e2];rfl
theorem Kl (h1:k<l.length) (h2:k<m.length) (h:ug l m k) (he:((au l k).toNat|||32)=(au m k).toNat):ug l m (k+1):=by
 unfold ug at*
 rw[DO h1 h2,ID,h];simp[he]
theorem QY (hl:l.length=m.length) (h:ug l m l.length):tE l m=true:=by
 unfold ug at h;rw[qO,hl,qO]at h;rw[tE,h];simp[hl]
theorem Vr (h1:k<l.length) (h2:k<m.length) (he:((au l k).toNat|||32)≠(au m k).toNat):tE l m=false:=by
 have:(l.zip m).all (fun p=>(p.1.toNat|||32)==p.2.toNat)=false:=by
  rw[Ef];refine⟨(l.zip m)[k]'(by simp;omega),jj _,?_⟩;have e1:l[k]=au l k:=by rw[au,lf,lJ h1];rfl
  have e2:m[k]=au m k:=by rw[au,lf,lJ h2];rfl
  rw[List.getElem_zip,e1,e2];simpa using he
 rw[tE,this,tx]
theorem JC (s m:ByteArray) (w:World) (hs:s.size≤1000) (hm:m.size≤1000):
  Calls prog 168 #[.string s,.string m] w fun e w'=>e= .returned (.bool (tE s.data.toList m.data.toList))∧Below w.heap.size w w':=by
 by_cases hl:s.size=m.size
 ·have q1:((s.size:Int) != (m.size:Int))=false:=by rw[hl];simp
  have H5:s.data.toList.length=m.data.toList.length:=by rw[af,af,hl]
  have HLL:=ae H5;clear H5;go_enter func168,ntmps168;go_wp2_with fail;go_loopw [13] (fun t wr=> ∃k:Nat,Hid (k≤s.size∧ug s.data.toList m.data.toList k)∧t= .int .i64 (k:Int)∧Hid (Below w.heap.size w wr)) (fun t wr=>s.size-(intOf t).toNat)
  case atStart=>exact⟨0,ae ⟨aV _,Kk _ _⟩,rfl,ae (aU _ _)⟩
  case round=>
   obtain⟨k,hk,rfl,hb⟩:=hrel;have hk':=hk.1;by_cases hi:k<s.size
   ·have wZ:k<m.size:=by omega
    have p1:((k:Int)<(s.size:Int))=True:=by simp;omega
    have p2:((k:Int)<(m.size:Int))=True:=by simp;omega
    have o1:bits .or .u8 (s[k].toNat:Int) 32=((s[k].toNat|||32:Nat):Int):=vC s[k].toNat 32 (uc _) (by omega);have w1:wrap64 ((k:Int)+1)=((k+1:Nat):Int):=by unfold wrap64;omega
    have a1:au s.data.toList k=s[k]:=ay hi;have a2:au m.data.toList k=m[k]:=ay wZ;have k1:k<s.data.toList.length:=by rw[af];exact hi
    have k2:k<m.data.toList.length:=by rw[af];exact wZ
    have Su:=ae k1;have H8:=ae k2;have HA1:=ae a1;have HA2:=ae a2;clear k1 k2 a1 a2;cases ne:(((s[k].toNat|||32:Nat):Int) != (m[k].toNat:Int))
    ·have he:(s[k].toNat|||32)=m[k].toNat:=by
      have:((s[k].toNat|||32:Nat):Int)=(m[k].toNat:Int):=by simpa using ne
      omega
     have HN:=ae (Kl Su H8 hk.2 (by rw[HA1.out,HA2.out];exact he));have Xk:=ae (show k+1≤s.size from hi);clear he;go_wp2_with fail;go_quiet (fail);go_wp2_with fail;go_round
     case rel=>exact⟨k+1,ae ⟨Xk,HN⟩,(by first|rfl|simp),ae (bZ hb _)⟩
     case measure=>simp[intOf];omega
    ·have he:(s[k].toNat|||32)≠m[k].toNat:=by
      have: ¬((s[k].toNat|||32:Nat):Int)=(m[k].toNat:Int):=by simpa using ne
      omega
     have HN:=ae (Vr Su H8 (by rw[HA1.out,HA2.out];exact he));clear he;go_wp2_with fail;go_quiet (fail);go_wp2_with fail;go_ret;rw[HN.out];exact⟨rfl,bZ hb _⟩
   ·have uT:k=s.size:=by omega
    have hw:=hk.2;rw[uT,←af]at hw;have HW:=ae (QY HLL hw);clear hw;subst uT;go_wp2_with fail;go_ret;rw[HW.out];exact⟨rfl,hb⟩
 ·have q1:((s.size:Int) != (m.size:Int))=true:=by simp;omega
  go_enter func168,ntmps168;go_wp2_with fail;go_ret;refine⟨ar ?_,aU _ _⟩;have:(s.data.toList.length==m.data.toList.length)=false:=by rw[af,af];simpa using hl
  rw[tE,this,qX]
theorem cS {fn:Func} {a b c:Tmp} (h:fn.results= #[.tmp a,.tmp b,.tmp c]) (tmps:Array Value) (P:Program) (w:World):
  (results fn tmps).run P w= .ok (.tuple #[tmps.getD a undef,tmps.getD b undef,tmps.getD c undef]) w:=by
 simp[results,h]
theorem ki (s:ByteArray) (w:World) (h0:0<s.size) (hd:digit s[0]=true∨s[0].toNat=46):
  Calls prog 205 #[.string s] w fun e w'=>e= .returned (.tuple #[.float .f64 0,.int .i64 0,.bool false])∧w=w':=by
 have hb:s[0].toNat=46∨48≤s[0].toNat∧s[0].toNat≤57:=by
  rcases hd with h|h
  ·exact .inr (aJ h)
  ·exact .inl h
 have e1:((s[0].toNat:Int)==43)=false:=by simp;omega
 have e2:((s[0].toNat:Int)==45)=false:=by simp;omega
 have e3:((s[0].toNat:Int)==105)=false:=by simp;omega
 have e4:((s[0].toNat:Int)==73)=false:=by simp;omega
 have e5:((s[0].toNat:Int)==110)=false:=by simp;omega
 have e6:((s[0].toNat:Int)==78)=false:=by simp;omega
 have z1:(s=ByteArray.empty)=False:=by
  apply bT;intro h;rw[h]at h0;simp at h0
 clear hb hd;go_enter func205,ntmps205;go_wp2_with fail;refine cB (cS rfl _ _ _) rfl ?_;exact⟨rfl,rfl⟩
def oT (w:World) (r:Option Nat) (e:Ending) (w':World):Prop:=
 (∃v ok,e= .returned (.tuple #[.float .f64 v,.bool ok])∧(match r with|some x=>ok=true∧v=x|none=>ok=false))∧w=w'
theorem oT.some {w:World} {r:Option Nat} {x:Nat} (h:r=Option.some x):oT w r (.returned (.tuple #[.float .f64 x,.bool true])) w:=⟨⟨x,true,rfl,by rw[h];exact⟨rfl,rfl⟩⟩,rfl⟩
theorem oT.none {w:World} {r:Option Nat} {x:Nat} (h:r=Option.none):oT w r (.returned (.tuple #[.float .f64 x,.bool false])) w:=⟨⟨x,false,rfl,by rw[h]⟩,rfl⟩
theorem Vs (m:Nat) (p:Int) (w:World) (hp: -400≤p∧p≤400) (PT:m<18446744073709551616) (c0:w.cell? ⟨6,0,none⟩=some (.int .u64 52)) (b o c:Nat) (g:w.cell? ⟨9,0,none⟩=some (.slice (some ⟨b,o,none⟩) 23 c))
  (hT: ∀k,k<23→w.cell? ⟨b,o+k,none⟩=some (.float .f64 (fi k))):
  Calls prog 216 #[.int .u64 (m:Int),.int .i64 p,.bool false] w (oT w (fJ m p)):=by
 have HT:=ae hT;have HP:=ae hp;have HM:=ae PT;clear hT hp PT;obtain⟨f,hf⟩: ∃f,f=floatOfInt .f64 (m:Int):=⟨_,rfl⟩;have af2:f≤eY:=by rw[hf];exact I8 m
 have HF:=ae hf;have K4:=ae af2;have hfe:floatOfInt .f64 (m:Int)=f:=hf.symm;clear hf af2;by_cases hm:m/4503599627370496≠0
 ·have HX:=ae (show fJ m p=none by rw[fJ,az hm]);have b0:((m:Int)/4503599627370496 != 0)=true:=by simp;omega
  clear hm;go_enter func216,ntmps216;go_wp2_with fail;go_ret2;exact .none HX.out
 ·have b0:((m:Int)/4503599627370496 != 0)=false:=by simp;omega
  by_cases h0:p=0
  ·have HX:=ae (show fJ m p=some f by rw[fJ,ah hm,az h0,HF.out]);subst h0;clear hm;go_enter func216,ntmps216;go_wp2_with fail;go_ret2;exact .some HX.out
  ·have e0:(p==0)=false:=by simp;exact h0
   by_cases h1:0<p∧p≤37
   ·have d1: ∀[inst:Decidable ((0:Int)<p)],@decide _ inst=true:=fun {inst}=>dO h1.1
    have d2: ∀[inst:Decidable (p≤37)],@decide _ inst=true:=fun {inst}=>dO h1.2
    have d1':((0:Int)<p)=True:=aD h1.1;have d2':(p≤37)=True:=aD h1.2;by_cases h2:22<p
    ·obtain⟨k,rfl⟩: ∃k:Nat,p=(k:Int)+22:=⟨(p-22).toNat,by omega⟩;have d3:((22:Int)<(k:Int)+22)=True:=aD h2;have hk:k<23:=by omega
     have lK:0<k:=by omega
     have w22:wrap64 ((k:Int)+22-22)=(k:Int):=by unfold wrap64;omega
     have gk:=HT.out k hk;have g22:=HT.out 22 (by omega);obtain⟨tW,φ⟩:=Gg K4.out (rA hk);have HM1:=ae tW;obtain⟨hmul,_⟩:=Gg φ (rA (show 22<23 by omega));have S6:=ae hmul;have hE:fJ m ((k:Int)+22)=if FR (u9 f (fi k))then none else some (u9 (u9 f (fi k)) (fi 22)):=by
      rw[fJ,ah hm,ah h0,az h1,hfe,az h2,az h2,show ((k:Int)+22-22).toNat=k by omega]
     have HE:=ae hE;clear hmul hE h1 h2 hm h0 tW φ;generalize u9 f (fi k)=f1 at*
     cases b1:(FloatKind.f64.format.order f1 4831355200913801216==some .gt)
     ·cases b2:(FloatKind.f64.format.order f1 14054727237768577024==some .lt)
      ·go_enter func216,ntmps216;go_wp2_with fail;rw[A5 _ _ _ _ _ _ _ HM1.out];simp only[Result.andThen];rw[jQ];go_wp2_with fail;rw[A5 _ _ _ _ _ _ _ S6.out];simp only[Result.andThen];rw[jQ];go_wp2_with fail;go_ret2;exact .some (by rw[HE.out,FR,b1,b2];rfl)
      ·go_enter func216,ntmps216;go_wp2_with fail;rw[A5 _ _ _ _ _ _ _ HM1.out];simp only[Result.andThen];rw[jQ];go_wp2_with fail;go_ret2;exact .none (by rw[HE.out,FR,b1,b2];rfl)
     ·go_enter func216,ntmps216;go_wp2_with fail;rw[A5 _ _ _ _ _ _ _ HM1.out];simp only[Result.andThen];rw[jQ];go_wp2_with fail;go_ret2;exact .none (by rw[HE.out,FR,b1];rfl)
    ·obtain⟨k,rfl⟩: ∃k:Nat,p=(k:Int):=⟨p.toNat,by omega⟩;have d3:((22:Int)<(k:Int))=False:=bT h2;have hk:k<23:=by omega
     have lK:0<k:=by omega
     have gk:=HT.out k hk;obtain⟨hmul,_⟩:=Gg K4.out (rA hk);have S6:=ae hmul;have hE:fJ m (k:Int)=if FR f then none else some (u9 f (fi k)):=by
      rw[fJ,ah hm,ah h0,az h1,hfe,ah h2,ah h2,mn]
     have HE:=ae hE;clear hmul hE h1 h2 hm h0;cases b1:(FloatKind.f64.format.order f 4831355200913801216==some .gt)
     ·cases b2:(FloatKind.f64.format.order f 14054727237768577024==some .lt)
      ·go_enter func216,ntmps216;go_wp2_with fail;rw[A5 _ _ _ _ _ _ _ S6.out];simp only[Result.andThen];rw[jQ];go_wp2_with fail;go_ret2;exact .some (by rw[HE.out,FR,b1,b2];rfl)
      ·go_enter func216,ntmps216;go_wp2_with fail;go_ret2;exact .none (by rw[HE.out,FR,b1,b2];rfl)
     ·go_enter func216,ntmps216;go_wp2_with fail;go_ret2;exact .none (by rw[HE.out,FR,b1];rfl)
   ·by_cases h2:p<0∧ -22≤p
    ·obtain⟨k,rfl⟩: ∃k:Nat,p= -(k:Int):=⟨(-p).toNat,by omega⟩;have d1: ∀[inst:Decidable ((0:Int)< -(k:Int))],@decide _ inst=false:=fun {inst}=>gj (by omega)
     have d1':((0:Int)< -(k:Int))=False:=bT (by omega);have d2: ∀[inst:Decidable (-(k:Int)<0)],@decide _ inst=true:=fun {inst}=>dO h2.1
     have d2':(-(k:Int)<0)=True:=aD h2.1;have d3: ∀[inst:Decidable ((-22:Int)≤ -(k:Int))],@decide _ inst=true:=fun {inst}=>dO h2.2
     have d3':((-22:Int)≤ -(k:Int))=True:=aD h2.2;have hk:k<23:=by omega
     have lK:0<k:=by omega
     have wk:wrap64 (- -(k:Int))=(k:Int):=by unfold wrap64;omega
     have gk:=HT.out k hk;obtain⟨hmul,_⟩:=OE K4.out (rA hk);have S6:=ae hmul;have hE:fJ m (-(k:Int))=some (FQ f (fi k)):=by
      rw[fJ,ah hm,ah h0,ah h1,az h2,hfe,show (- -(k:Int)).toNat=k by omega]
     have HE:=ae hE;clear hmul hE h1 h2 hm h0;go_enter func216,ntmps216;go_wp2_with fail;rw[A5 _ _ _ _ _ _ _ S6.out];simp only[Result.andThen];rw[jQ];go_wp2_with fail;go_ret2;exact .some HE.out
    ·have hE:fJ m p=none:=by rw[fJ,ah hm,ah h0,ah h1,ah h2]
     have HE:=ae hE;by_cases hp0:0<p
     ·have d1: ∀[inst:Decidable ((0:Int)<p)],@decide _ inst=true:=fun {inst}=>dO hp0
      have d1':((0:Int)<p)=True:=aD hp0;have d2: ∀[inst:Decidable (p≤37)],@decide _ inst=false:=fun {inst}=>gj (by omega)
      have d2':(p≤37)=False:=bT (by omega);have d3: ∀[inst:Decidable (p<0)],@decide _ inst=false:=fun {inst}=>gj (by omega)
      have d3':(p<0)=False:=bT (by omega);clear hE h1 h2 hm h0;go_enter func216,ntmps216;go_wp2_with fail;go_ret2;exact .none HE.out
     ·have d1: ∀[inst:Decidable ((0:Int)<p)],@decide _ inst=false:=fun {inst}=>gj hp0
      have d1':((0:Int)<p)=False:=bT hp0;have d2: ∀[inst:Decidable (p<0)],@decide _ inst=true:=fun {inst}=>dO (by omega)
      have d2':(p<0)=True:=aD (by omega);have d3: ∀[inst:Decidable ((-22:Int)≤p)],@decide _ inst=false:=fun {inst}=>gj (by omega)
      have d3':((-22:Int)≤p)=False:=bT (by omega);clear hE h1 h2 hm h0;go_enter func216,ntmps216;go_wp2_with fail;go_ret2;exact .none HE.out
structure bu (w:World) (g:Nat) (D:Nat→Nat) (nd:Nat) (dp:Int) (neg tr:Bool):Prop where
 gK: ∀i,i<800→w.cell? ⟨g,i,none⟩=some (.int .u8 (D i:Int))
 nd:w.cell? ⟨g,800,none⟩=some (.int .i64 (nd:Int))
 dp:w.cell? ⟨g,801,none⟩=some (.int .i64 dp)
 neg:w.cell? ⟨g,802,none⟩=some (.bool neg)
 tr:w.cell? ⟨g,803,none⟩=some (.bool tr)
 free: ∀i,w.frozen? ⟨g,i,none⟩=false
 lt:g<w.heap.size
section
variable {w:World} {g:Nat} {D:Nat→Nat} {nd:Nat} {dp:Int} {neg tr:Bool}
theorem bu.other (_:bu w g D nd dp neg tr) (u:Value) {j:Nat} (hj:j≠i) {v:Value} (hv:w.cell? ⟨g,j,none⟩=some v):(w.setCell ⟨g,i,none⟩ u).cell? ⟨g,j,none⟩=some v:=by
 rw[mQ _ _ _ _ (by simp[hj]),hv]
theorem bu.IT (h:bu w g D nd dp neg tr) (u:Value) (j:Nat):(w.setCell ⟨g,i,none⟩ u).frozen? ⟨g,j,none⟩=false:=(World.frozen?_setCell _ _ _ _).trans (h.free j)
theorem bu.lt' (h:bu w g D nd dp neg tr) (u:Value):g<(w.setCell ⟨g,i,none⟩ u).heap.size:=by simpa using h.lt
theorem bu.Bo (h:bu w g D nd dp neg tr) {i c:Nat} (hi:i<800) {z:Int} (hz:z=(c:Int)):bu (w.setCell ⟨g,i,none⟩ (.int .u8 z)) g (Hh D i c) nd dp neg tr:=by
 subst hz;refine⟨fun j hj=>?_,h.other _ (by omega) h.nd,h.other _ (by omega) h.dp,h.other _ (by omega) h.neg,h.other _ (by omega) h.tr,h.IT _,h.lt' _⟩;by_cases e:j=i
 ·subst e;rw[D7 _ _ _ (h.gK j hj),Hh,az rfl]
 ·rw[h.other _ e (h.gK j hj),Hh,ah e]
theorem bu.Bi (h:bu w g D nd dp neg tr) {n:Nat} {z:Int} (hz:z=(n:Int)):bu (w.setCell ⟨g,800,none⟩ (.int .i64 z)) g D n dp neg tr:=by
 subst hz;exact⟨fun j hj=>h.other _ (by omega) (h.gK j hj),D7 _ _ _ h.nd,h.other _ (by omega) h.dp,h.other _ (by omega) h.neg,h.other _ (by omega) h.tr,h.IT _,h.lt' _⟩
theorem bu.Es (h:bu w g D nd dp neg tr) (z:Int):bu (w.setCell ⟨g,801,none⟩ (.int .i64 z)) g D nd z neg tr:=
 ⟨fun j hj=>h.other _ (by omega) (h.gK j hj),h.other _ (by omega) h.nd,D7 _ _ _ h.dp,h.other _ (by omega) h.neg,h.other _ (by omega) h.tr,h.IT _,h.lt' _⟩
theorem bu.ace (h:bu w g D nd dp neg tr) (b:Bool):bu (w.setCell ⟨g,802,none⟩ (.bool b)) g D nd dp b tr:=
 ⟨fun j hj=>h.other _ (by omega) (h.gK j hj),h.other _ (by omega) h.nd,h.other _ (by omega) h.dp,D7 _ _ _ h.neg,h.other _ (by omega) h.tr,h.IT _,h.lt' _⟩
theorem bu.Oq (h:bu w g D nd dp neg tr) (b:Bool):bu (w.setCell ⟨g,803,none⟩ (.bool b)) g D nd dp neg b:=
 ⟨fun j hj=>h.other _ (by omega) (h.gK j hj),h.other _ (by omega) h.nd,h.other _ (by omega) h.dp,h.other _ (by omega) h.neg,D7 _ _ _ h.tr,h.IT _,h.lt' _⟩
theorem bu.drew (h:bu w g D nd dp neg tr) (n:Nat):bu (w.drewN n) g D nd dp neg tr:=⟨h.gK,h.nd,h.dp,h.neg,h.tr,h.free,h.lt⟩
end
def LM (w:World) (g:Nat):Nat:=match w.cell? ⟨g,800,none⟩with|some (.int _ k)=>k.toNat|_=>0
theorem bu.LM {w:World} {g:Nat} {D:Nat→Nat} {nd:Nat} {dp:Int} {neg tr:Bool} (h:bu w g D nd dp neg tr):LM w g=nd:=by
 unfold Go.Proofs.YtcdoilkjmjbgmaaGreatDoor.LM;rw[h.nd];simp
theorem BR (w:World) (B g:Nat) (D:Nat→Nat) (nd:Nat) (dp:Int) (neg tr:Bool) (h:bu w g D nd dp neg tr) (qM:nd≤800) (hB:B≤g):
  Calls prog 245 #[.pointer (some ⟨g,0,none⟩)] w fun e w'=>e= .returned (.tuple #[])∧bu w' g D (eE D nd) (pB D nd dp) neg tr∧Below B w w':=by
 obtain⟨T,hT⟩: ∃T,T=eE D nd:=⟨_,rfl⟩;obtain⟨DP,hDP⟩: ∃DP,DP=pB D nd dp:=⟨_,rfl⟩;have xc:DP=if T=0 then 0 else dp:=by rw[hDP,pB,hT]
 rw[←hDP,←hT];clear hDP;have HT:=ae hT;have H0:=ae h;have xb:=ae xc;clear hT h xc;go_enter func245,ntmps245;go_wp2_with fail;go_loopw [] (fun wr=> ∃m:Nat,Hid (m≤800∧bu wr g D m dp neg tr∧eE D m=T∧Below B w wr)) (fun wr=>LM wr g)
 case atStart=>exact⟨nd,ae ⟨qM,H0,HT.symm,aU _ _⟩⟩
 case round=>
  obtain⟨m,hI⟩:=hrel;have d0:=hI.2.1.nd;have d1:=hI.2.1.dp;have f0:=hI.2.1.free 800;have f1:=hI.2.1.free 801;cases m with
  |zero=>
   go_wp2_with fail;go_quiet (fail);have kq:bu (wr.drewN nq) g D 0 dp neg tr:=hI.2.1.drew nq;have aQ:=bZ hI.2.2.2 nq;have Xy:T=0:=by rw[←hI.out.2.2.1];rfl
   clear d0 d1 f0 f1;generalize wr.drewN nq=w2 at kq aQ ⊢
   have d0:=kq.nd;have d1:=kq.dp;have f1:=kq.free 801;have H2:=ae kq;have bF:=ae aQ;have HT0:=ae Xy;clear kq aQ Xy;go_wp2_with fail;go_end0;refine⟨rfl,?_,bF.setCell (p:=⟨g,801,none⟩) hB _⟩;rw[xb.out,az HT0.out,HT0.out];exact H2.Es 0
  |succ k=>
   have hk:k<800:=hI.1;have p1:((k:Int)<800)=True:=by simp;omega
   have p0:((0:Int)<(k:Int)+1)=True:=aD (by omega);have dk:=hI.2.1.gK k hk;cases qz:((D k:Int)==48)
   ·have bW:D k≠48:=by intro h;rw[h]at qz;simp at qz
    have NW:T=k+1:=by rw[←hI.out.2.2.1,eE,ah bW]
    go_wp2_with fail;go_quiet (fail);have kq:bu (wr.drewN nq) g D (k+1) dp neg tr:=hI.2.1.drew nq;have aQ:=bZ hI.2.2.2 nq;clear d0 d1 f0 f1 dk;generalize wr.drewN nq=w2 at kq aQ ⊢
    have d0:=kq.nd;have p2:((k:Int)+1=0)=False:=bT (by omega);have H2:=ae kq;have bF:=ae aQ;have Sv:=ae NW;clear kq aQ NW bW;go_wp2_with fail;go_end0;rw[xb.out,ah (by rw[Sv.out];omega),Sv.out];exact⟨rfl,H2,bF⟩
   ·have he:D k=48:=by
     have:(D k:Int)=48:=by simpa using qz
     omega
    have NW:eE D k=T:=by rw[←hI.out.2.2.1,eE,az he]
    go_wp2_with fail;go_quiet (fail);have kq:bu (wr.drewN nq) g D (k+1) dp neg tr:=hI.2.1.drew nq;have aQ:=bZ hI.2.2.2 nq;have qM:LM wr g=k+1:=hI.2.1.LM;clear d0 d1 f0 f1 dk;generalize wr.drewN nq=w2 at kq aQ ⊢
    have d0:=kq.nd;have f0:=kq.free 800;have H2:=ae kq;have bF:=ae aQ;have Sv:=ae NW;have HND:=ae qM;clear kq aQ NW he qM;go_wp2_with fail;go_roundw
    case rel=>exact⟨k,ae ⟨by omega,H2.Bi (by first|rfl|(simp only[wrap64];omega)),Sv,bF.setCell (p:=⟨g,800,none⟩) hB _⟩⟩
    case measure=>
     rw[HND.out,(H2.out.Bi (n:=k) (by first|rfl|(simp only[wrap64];omega))).LM];exact vu k
theorem agd {M:Int} (h:X=X') (hz:z=z'):Ending.returned (.tuple #[.int .u64 M,.int .i64 X,.bool false,.bool tr,.bool true,.int .i64 z,.bool true])= .returned (.tuple #[.int .u64 M,.int .i64 X',.bool false,.bool tr,.bool true,.int .i64 z',.bool true]):=by rw[h,hz]
def L6 (m k:Nat) (P:Int) (dg:Bool):Prop:=2≤k∧k≤m∧ -(k:Int)≤P∧P≤0∧(2<k→dg=true)
def ly (M N D:Nat):Int:=if M≠0 then 4*(D:Int)-4*(N:Int)else 0
theorem Vt (h:M=0):ly M N D=0:=by rw[ly,ah (by simpa using h)]
theorem QZ (hM:M≠0) (h:N≤16∧D≤1000):wrap64 (wrap64 (wrap64 ((D:Int)*4))-wrap64 ((N:Int)*4))=ly M N D:=by
 rw[ly,az hM];unfold wrap64;omega
theorem akj (h:M<1152921504606846976) (hv:v<16):IntKind.u64.wrap ((M:Int)*16)=((M*16:Nat):Int)∧IntKind.u64.wrap (((M*16:Nat):Int)+(v:Int))=((M*16+v:Nat):Int):=by
 constructor<;>(rw[cZ];omega)
set_option maxHeartbeats 8000000 in
theorem ya (s:ByteArray) (w:World) (m:Nat) (hs:s.size≤1000) (Xs:3≤m) (hmz:m+1<s.size) (ZP:s[0].toNat=48) (lh:(s[1].toNat|||32)=120) (hm:Eo s.data.toList m) (hp1:s[m].toNat=112) (Ai:s[m+1].toNat=48) (iI:s.size=m+2)
  (M N D:Nat) (tr:Bool) (hr:eH s.data.toList m=⟨M,N,D,tr⟩):
  Calls prog 206 #[.string s] w fun e w'=>e= .returned (.tuple #[.int .u64 (M:Int),.int .i64 (ly M N D),.bool false,.bool tr,.bool true,.int .i64 (s.size:Int),.bool true])∧w=w':=by
 have Zz:=ae iI;clear iI;have h2s:2<s.size:=by omega
 have e43:((s[0].toNat:Int)==43)=false:=by rw[ZP];rfl
 have e45:((s[0].toNat:Int)==45)=false:=by rw[ZP];rfl
 have z1:(s=ByteArray.empty)=False:=by
  apply bT;intro h;rw[h]at h2s;simp at h2s
 have HM:=ae hm;have HR:=ae hr;have HP1:=ae hp1;have HP2:=ae Ai;have WH:=ae lh;have HX0:=ae ZP;clear hm hr hp1 Ai lh ZP;go_enter func206,ntmps206;go_wp2_with fail;go_step3;go_upto_region 12 with fail
 go_cut [54]from 36 to 54 (fun c wx=>c= .bool true∧wx=w)
 case first=>
  have q1:((2:Int)<(s.size:Int))=True:=by simp;omega
  have qz:((s[0].toNat:Int)==48)=true:=by rw[HX0.out];rfl
  have akh:(bits .or .u8 ((s[1].toNat:Nat):Int) 32==120)=true:=by
   rw[show bits .or .u8 ((s[1].toNat:Nat):Int) 32=((s[1].toNat|||32:Nat):Int)from vC s[1].toNat 32 (uc _) (by omega),WH.out];rfl
  go_wp2_with fail;refine(Tryz.internal_strconv_lower _ _).mono ?_;rintro e w' ⟨rfl,rfl⟩;go_wp2_with fail;go_meet;exact⟨rfl,rfl⟩
 case rest=>
  obtain⟨rfl,rfl⟩:=hcut;go_wp2_with fail;go_step3;go_wp2_with fail;go_loop [2,5,7,9,13,14,15,16,17] (fun t2 t5 t7 t9 t13 t14 t15 t16 t17=> ∃(k M N D:Nat) (P:Int) (dg tr:Bool),Hid (eH s.data.toList k=⟨M,N,D,tr⟩)∧Hid (L6 m k P dg)∧t2= .int .u64 (M:Int)∧t5= .bool tr∧t7= .int .i64 (k:Int)∧t9= .bool false∧t13= .bool false∧t14= .bool dg∧t15= .int .i64 (D:Int)∧t16= .int .i64 (N:Int)∧t17= .int .i64 P) (fun t2 t5 t7 t9 t13 t14 t15 t16 t17=>s.size-(intOf t7).toNat)
  case atStart=>exact⟨2,0,0,0,0,false,false,ae (BD _),ae ⟨aS _,by omega,by omega,by omega,by omega⟩,rfl,rfl,rfl,rfl,rfl,rfl,rfl,rfl,rfl⟩
  case round=>
   obtain⟨k,M1,N1,D1,P1,dg1,Xx,dy,jJ,rfl,rfl,rfl,rfl,rfl,rfl,rfl,rfl,rfl⟩:=hrel;obtain⟨k2,Ph,p1b,p2b,qw⟩:=jJ.out;have cH:=Gl HM.out k k2 Ph;rw[dy.out]at cH;have n123:=cH.th;have n4:=cH.fk;simp only at n123 n4;have H4:=ae n4;clear n4 cH;by_cases aA:k<m
   ·have nZ:k<s.size:=by omega
    have cI:au s.data.toList k=s[k]:=ay nZ;have q1:((k:Int)<(s.size:Int))=True:=by simp;omega
    have mX:=HM.out.2 k k2 aA;rw[cI]at mX;have p10:N1<16→M1<1152921504606846976:=fun h=>iv H4.out (dZ (n:=16) (by omega) (show N1≤15 by omega))
    have XT:=ae p10;have Hx:=ae cI;have HHX:=ae mX;have HKL:=ae (show ¬(s.data.toList.length≤k)by rw[af];omega);have HN3:=ae n123;have H8:=ae k2;have HK:Hid (L6 m (k+1) P1 true):=ae ⟨by omega,by omega,by omega,by omega,fun _=>rfl⟩;have HK0:Hid (L6 m (k+1) (P1-1) true):=ae ⟨by omega,by omega,by omega,by omega,fun _=>rfl⟩;have hP1: -1000≤P1∧P1≤0:=by omega
    have hK1:k<1000:=by omega
    have Et:=Gk _ mX;have hD1:N1≤16∧D1≤1000:=by omega
    clear p10 cI n123 k2 p1b p2b qw;cases hd:digit s[k]
    ·
     have Ij:=BE _ HHX.out hd;obtain⟨L,hL⟩: ∃L,L=(s[k].toNat|||32):=⟨_,rfl⟩;have hv:mv s[k]=L-87:=by
      rw[hL];have h1:mv s[k]=(s[k].toNat|||32)-87:=by unfold mv;rw[hd,ah (by simp)]
      exact h1
     have Ij:97≤L∧L≤102:=by rw[hL];exact Ij
     have o1:bits .or .u8 (s[k].toNat:Int) 32=(L:Int):=by rw[hL];exact vC s[k].toNat 32 (uc _) (by omega)
     have oX:digit (au s.data.toList k)=false:=by rw[Hx.out];exact hd
     have mj:gO (au s.data.toList k)=true:=by rw[Hx.out];exact HHX.out
     have ZQ:(au s.data.toList k).toNat=s[k].toNat:=cn UInt8.toNat Hx.out;have af3:(97≤(au s.data.toList k).toNat∧(au s.data.toList k).toNat≤102)∨(65≤(au s.data.toList k).toNat∧(au s.data.toList k).toNat≤70):=by
      simpa [gO,oX]using mj
     have af4:65≤s[k].toNat:=by omega
     have ZO:((s[k].toNat:Int)==95)=false:=by simp;omega
     have se:((s[k].toNat:Int)==46)=false:=by simp;omega
     have g1: ∀[inst:Decidable ((48:Int)≤(s[k].toNat:Int))],@decide _ inst=true:=fun {inst}=>dO (by omega)
     have g2: ∀[inst:Decidable ((s[k].toNat:Int)≤57)],@decide _ inst=false:=fun {inst}=>gj (by omega)
     have g3: ∀[inst:Decidable ((97:Int)≤(L:Int))],@decide _ inst=true:=fun {inst}=>dO (by omega)
     have g4: ∀[inst:Decidable ((L:Int)≤102)],@decide _ inst=true:=fun {inst}=>dO (by omega)
     have HV:=ae hv;have HLW:=ae Ij;have af5:s[k].toNat≠48:=by omega
     by_cases hn:N1<16
     ·have WG:((N1:Int)<16)=True:=by simp;omega
      have Sb:mv (au s.data.toList k)=L-87:=by rw[Hx.out];exact hv
      have hN:=θ dy.out H8.out (Ej HKL.out) (by omega) hn;rw[Sb]at hN;have HN:=ae hN;obtain⟨mx1,mx2⟩:=akj (XT.out hn) (show L-87<16 by omega);have u1:IntKind.u8.wrap (IntKind.u8.wrap ((L:Int)-97)+10)=((L-87:Nat):Int):=by rw[iN,iN];omega
      clear hN Sb oX mj ZQ af3 hv Ij af4 mX Et af5 hL;go_wp2_with fail
      all_goals first
       |(exfalso;omega)
       |(refine(Tryz.internal_strconv_lower _ _).mono ?_;rintro e w' ⟨rfl,rfl⟩;rw[o1];go_wp2_with fail)
      all_goals first
       |(exfalso;omega)
       |(refine(Tryz.internal_strconv_lower _ _).mono ?_;rintro e w' ⟨rfl,rfl⟩;rw[o1];go_wp2_with fail)
      all_goals first
       |(exfalso;omega)
       |(refine(Tryz.internal_strconv_lower _ _).mono ?_;rintro e w' ⟨rfl,rfl⟩;rw[o1];go_wp2_with fail)
      all_goals first
       |(exfalso;omega)
       |(go_round;(case rel=>exact⟨k+1,M1*16+(L-87),N1+1,D1+1,P1,true,Xx,HN,HK,(vi (by first|rfl|omega|(have oc:=XT.out hn;have H5:=HLW.out;simp only[cZ,iN];omega))),rfl,(vi (by first|rfl|omega)),rfl,rfl,rfl,(vi (by first|rfl|omega|(simp only[wrap64];omega))),(vi (by first|rfl|omega|(simp only[wrap64];omega))),rfl⟩);(case measure=>simp[intOf];omega))
     ·have WG:((N1:Int)<16)=False:=by simp;omega
      have hN:=OI dy.out H8.out (Ej HKL.out) (by omega) hn;have HN:=ae hN;clear hN oX mj ZQ af3 hv Ij af4 mX Et af5 hL;go_wp2_with fail
      all_goals first
       |(exfalso;omega)
       |(refine(Tryz.internal_strconv_lower _ _).mono ?_;rintro e w' ⟨rfl,rfl⟩;rw[o1];go_wp2_with fail)
      all_goals first
       |(exfalso;omega)
       |(refine(Tryz.internal_strconv_lower _ _).mono ?_;rintro e w' ⟨rfl,rfl⟩;rw[o1];go_wp2_with fail)
      all_goals first
       |(exfalso;omega)
       |(go_round;(case rel=>exact⟨k+1,M1,N1,D1+1,P1,true,true,HN,HK,(vi (by first|rfl|omega|(have oc:=XT.out hn;have H5:=HLW.out;simp only[cZ,iN];omega))),rfl,(vi (by first|rfl|omega)),rfl,rfl,rfl,(vi (by first|rfl|omega|(simp only[wrap64];omega))),(vi (by first|rfl|omega|(simp only[wrap64];omega))),rfl⟩);(case measure=>simp[intOf];omega))
    ·
     have FJ:=aJ hd;have oX:digit (au s.data.toList k)=true:=by rw[Hx.out];exact hd
     have ZQ:(au s.data.toList k).toNat=s[k].toNat:=cn UInt8.toNat Hx.out;have Sb:mv (au s.data.toList k)=s[k].toNat-48:=by unfold mv;rw[az oX,ZQ]
     have ZO:((s[k].toNat:Int)==95)=false:=by simp;omega
     have se:((s[k].toNat:Int)==46)=false:=by simp;omega
     have g1: ∀[inst:Decidable ((48:Int)≤(s[k].toNat:Int))],@decide _ inst=true:=fun {inst}=>dO (by omega)
     have g2: ∀[inst:Decidable ((s[k].toNat:Int)≤57)],@decide _ inst=true:=fun {inst}=>dO (by omega)
     by_cases hz:s[k].toNat=48∧D1=0
     ·obtain⟨de,rfl⟩:=hz;have qz:((s[k].toNat:Int)==48)=true:=by rw[de];rfl
      have HN:=ae (Yu dy.out H8.out (Ej HKL.out) (by omega) rfl);clear Sb oX ZQ mX Et;go_wp2_with fail
      all_goals first
       |(exfalso;first|omega|(have:=jn qz;omega)|(have:=kE qz;omega))
       |(go_round;(case rel=>exact⟨k+1,M1,N1,0,P1-1,true,Xx,HN,HK0,(vi (by first|rfl|omega)),rfl,(vi (by first|rfl|omega)),rfl,rfl,rfl,(vi (by first|rfl|omega|(simp only[wrap64];omega))),(vi (by first|rfl|omega|(simp only[wrap64];omega))),(vi (by first|rfl|omega|(simp only[wrap64];omega)))⟩);(case measure=>simp[intOf];omega))
     ·by_cases hn:N1<16
      ·have WG:((N1:Int)<16)=True:=by simp;omega
       have hN:=θ dy.out H8.out (Ej HKL.out) (by omega) hn;rw[Sb]at hN;have HN:=ae hN;clear hN Sb oX ZQ mX Et;cases qz:((s[k].toNat:Int)==48)
       all_goals
        go_wp2_with fail
        all_goals first
         |(exfalso;first|omega|(have:=jn qz;omega)|(have:=kE qz;omega))
         |(go_round;(case rel=>exact⟨k+1,M1*16+(s[k].toNat-48),N1+1,D1+1,P1,true,Xx,HN,HK,(vi (by first|rfl|omega|(have oc:=XT.out hn;simp only[cZ,iN];omega))),rfl,(vi (by first|rfl|omega)),rfl,rfl,rfl,(vi (by first|rfl|omega|(simp only[wrap64];omega))),(vi (by first|rfl|omega|(simp only[wrap64];omega))),(vi (by first|rfl|omega|(simp only[wrap64];omega)))⟩);(case measure=>simp[intOf];omega))
      ·have WG:((N1:Int)<16)=False:=by simp;omega
       by_cases RT:s[k].toNat=48
       ·have HN:=ae (Yv dy.out H8.out (Ej HKL.out) (by omega) (by omega) hn);have qz:((s[k].toNat:Int)==48)=true:=by rw[RT];rfl
        clear Sb oX ZQ mX Et;go_wp2_with fail
        all_goals first
         |(exfalso;first|omega|(have:=jn qz;omega)|(have:=kE qz;omega))
         |(go_round;(case rel=>exact⟨k+1,M1,N1,D1+1,P1,true,Xx,HN,HK,(vi (by first|rfl|omega)),rfl,(vi (by first|rfl|omega)),rfl,rfl,rfl,(vi (by first|rfl|omega|(simp only[wrap64];omega))),(vi (by first|rfl|omega|(simp only[wrap64];omega))),(vi (by first|rfl|omega|(simp only[wrap64];omega)))⟩);(case measure=>simp[intOf];omega))
       ·have HN:=ae (OI dy.out H8.out (Ej HKL.out) (by omega) hn);have qz:((s[k].toNat:Int)==48)=false:=by simp;exact fun h=>RT (by omega)
        clear Sb oX ZQ mX Et;go_wp2_with fail
        all_goals first
         |(exfalso;first|omega|(have:=jn qz;omega)|(have:=kE qz;omega))
         |(go_round;(case rel=>exact⟨k+1,M1,N1,D1+1,P1,true,true,HN,HK,(vi (by first|rfl|omega)),rfl,(vi (by first|rfl|omega)),rfl,rfl,rfl,(vi (by first|rfl|omega|(simp only[wrap64];omega))),(vi (by first|rfl|omega|(simp only[wrap64];omega))),(vi (by first|rfl|omega|(simp only[wrap64];omega)))⟩);(case measure=>simp[intOf];omega))
   ·have LK:k=m:=by omega
    subst LK;have mu:=dy.out;rw[HR.out]at mu;injection mu with i1 i2 i3 i4
    subst i1 i2 i3 i4;have hdt:dg1=true:=qw (by omega);subst hdt;have nZ:k<s.size:=by omega
    have q1:((k:Int)<(s.size:Int))=True:=by simp;omega
    have hc:=HP1.out;have ZO:((s[k].toNat:Int)==95)=false:=by rw[hc];rfl
    have se:((s[k].toNat:Int)==46)=false:=by rw[hc];rfl
    have g1: ∀[inst:Decidable ((48:Int)≤(s[k].toNat:Int))],@decide _ inst=true:=fun {inst}=>dO (by omega)
    have g2: ∀[inst:Decidable ((s[k].toNat:Int)≤57)],@decide _ inst=false:=fun {inst}=>gj (by omega)
    have o1:bits .or .u8 (s[k].toNat:Int) 32=112:=by
     rw[show bits .or .u8 (s[k].toNat:Int) 32=((s[k].toNat|||32:Nat):Int)from vC s[k].toNat 32 (uc _) (by omega),hc];rfl
    have NT:=ae (show N≤16∧D≤1000 from⟨n123.1,by omega⟩);clear n123 k2 Ph p1b p2b qw hc aA;go_wp2_with fail
    all_goals first
     |(exfalso;omega)
     |(refine(Tryz.internal_strconv_lower _ _).mono ?_;rintro e w' ⟨rfl,rfl⟩;rw[o1];go_wp2_with fail)
    all_goals first
     |(exfalso;omega)
     |(refine(Tryz.internal_strconv_lower _ _).mono ?_;rintro e WY ⟨rfl,rfl⟩;rw[o1];go_wp2_with fail)
    refine(Tryz.internal_strconv_lower _ _).mono ?_;rintro e w3 ⟨rfl,rfl⟩;rw[o1];have ko:=HP2.out;have q2:((s.size:Int)≤(k:Int)+1)=False:=by simp;omega
    have x43:((s[k+1].toNat:Int)==43)=false:=by rw[ko];rfl
    have x45:((s[k+1].toNat:Int)==45)=false:=by rw[ko];rfl
    have r2n: ∀[inst:Decidable ((s[k+1].toNat:Int)<48)],@decide _ inst=false:=fun {inst}=>gj (by omega)
    have r3n: ∀[inst:Decidable ((57:Int)<(s[k+1].toNat:Int))],@decide _ inst=false:=fun {inst}=>gj (by omega)
    go_upto_region 67 with fail
    go_upto_region 68 with fail
    go_wp2_with fail;go_loop [7,9,20] (fun t7 t9 t20=> ∃(i:Nat),Hid (k+1≤i∧i≤k+2)∧t7= .int .i64 (i:Int)∧t9= .bool false∧t20= .int .i64 0) (fun t7 t9 t20=>s.size-(intOf t7).toNat)
    case atStart=>exact⟨k+1,ae ⟨aS _,by omega⟩,(vi (by first|rfl|omega)),rfl,rfl⟩
    case round=>
     obtain⟨i,ZK,rfl,rfl,rfl⟩:=hrel;have Ik:=ZK.out;have iI:=Zz.out;by_cases hi:i<s.size
     ·obtain rfl:i=k+1:=by omega
      have WJ:48≤s[k+1].toNat∧s[k+1].toNat≤57:=by omega
      have p1:(((k+1:Nat):Int)<(s.size:Int))=True:=by simp;omega
      have WC:((k:Int)+1<(s.size:Int))=True:=by simp;omega
      have p2: ∀[inst:Decidable ((48:Int)≤(s[k+1].toNat:Int))],@decide _ inst=true:=fun {inst}=>dO (by omega)
      have p3: ∀[inst:Decidable ((s[k+1].toNat:Int)≤57)],@decide _ inst=true:=fun {inst}=>dO (by omega)
      have p4:((s[k+1].toNat:Int)==95)=false:=by rw[ko];rfl
      clear Ik q2 iI;go_wp2_with fail
      all_goals first
       |(exfalso;omega)
       |(go_round;(case rel=>exact⟨k+2,ae ⟨by omega,aS _⟩,(vi (by first|rfl|omega|(simp only[wrap64];omega))),rfl,(vi (by first|rfl|omega|(simp only[wrap64];omega)))⟩);(case measure=>simp[intOf];omega))
     ·have Lu:i=s.size:=by omega
      subst Lu;clear q2 Ik iI;cases em:((M:Int) != 0)
      all_goals
       go_wp2_with fail
       try rw[qW]
       refine cB (qb rfl _ _ _) rfl ?_;refine⟨agd ?_ rfl,rfl⟩
       first
        |exact(Vt (AP em)).symm
        |exact QZ (zO em) NT.out
