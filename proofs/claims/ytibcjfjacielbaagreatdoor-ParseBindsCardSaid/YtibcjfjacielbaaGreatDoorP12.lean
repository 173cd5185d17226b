import Derived.Test.YtibcjfjacielbaaGreatDoorP04
import Derived.Deep.QuietTactic
import Derived.BigQuiet
import Derived.Deep.CutRange
import Derived.Shelf.LaysC
import Derived.Shelf.LaysM
import Derived.Shelf.Strconv.Lower
import Derived.Shelf.Strconv.ToErrorRange
import Derived.Shelf.Strconv.Itoa0
import Derived.Shelf.Strconv.Itoa1
import Derived.Shelf.Strconv.Itoa2
import Derived.Shelf.Bits.Mul64
import Derived.Laws.BitsAllLaws
import Derived.Laws.ShiftsVarLaws
import Derived.Deep.Cut
import Derived.Deep.RegionLaw
import Derived.BigRegion
import Derived.Deep.RegionHeld3
/- Part of the proof of YtibcjfjacielbaaGreatDoorCardP: NumC FpF FpG DecA. -/
set_option maxRecDepth 100000
set_option maxHeartbeats 4000000
set_option linter.unusedVariables false
set_option linter.unusedSimpArgs false
namespace Go.Proofs.YtibcjfjacielbaaGreatDoor
open Go.RowKit
theorem run_mfrombits (x:Int) (w:World):(callFunc 192 #[.int .u64 x]).run Tryz.prog w= .ok (.value (.float .f64 x.toNat)) w:=by
 rw[run_callFunc_extern Tryz.func192 (by kernel_rfl) (by kernel_rfl) (by kernel_rfl) (e:=Extern.MathFloatBits.float64frombits) (by kernel_rfl)];rfl
theorem run_mbits (x:Nat) (w:World):(callFunc 286 #[.float .f64 x]).run Tryz.prog w= .ok (.value (.int .u64 (x:Int))) w:=by
 rw[run_callFunc_extern Tryz.func286 (by kernel_rfl) (by kernel_rfl) (by kernel_rfl) (e:=Extern.MathFloatBits.float64bits) (by kernel_rfl)];rfl
theorem math_Inf (w:World):Calls Tryz.prog 239 #[.int .i64 1] w fun e w'=>e= .returned (.float .f64 9218868437227405312)∧w=w':=by
 go_enter Tryz.func239,Tryz.ntmps239;go_wp2_with fail;rw[run_mfrombits];rw[Oper.upon_value];go_wp2_with fail;go_ret;exact⟨rfl,rfl⟩
theorem math_NaN (w:World):Calls Tryz.prog 240 #[] w fun e w'=>e= .returned (.float .f64 9221120237041090561)∧w=w':=by
 go_enter Tryz.func240,Tryz.ntmps240;go_wp2_with fail;rw[run_mfrombits];rw[Oper.upon_value];go_wp2_with fail;go_ret;exact⟨rfl,rfl⟩
theorem math_Abs (x:Nat) (w:World):Calls Tryz.prog 265 #[.float .f64 x] w fun e w'=>e= .returned (.float .f64 (absB x))∧w=w':=by
 have h1:bits .andNot .u64 (x:Int) 9223372036854775808=((absB x:Nat):Int):=by
  have e:bits .andNot .u64 (x:Int) 9223372036854775808=bits .andNot .u64 ((x%18446744073709551616:Nat):Int) 9223372036854775808:=by
   have hb:BitVec.ofInt 64 (x:Int)=BitVec.ofInt 64 ((x%18446744073709551616:Nat):Int):=by
    apply BitVec.eq_of_toNat_eq;simp only[BitVec.toNat_ofInt];omega
   unfold bits;show IntKind.u64.wrap _=IntKind.u64.wrap _;simp only[IntKind.bits];rw[hb]
  rw[e];exact u64_andNot_nat (x%18446744073709551616) 9223372036854775808 (Nat.mod_lt _ (by omega)) (by omega)
 go_enter Tryz.func265,Tryz.ntmps265;go_wp2_with fail;rw[run_mbits];rw[Oper.upon_value];go_wp2_with fail;rw[run_mfrombits];rw[Oper.upon_value];go_wp2_with fail;go_ret;exact⟨rfl,rfl⟩
theorem math_IsInf (x:Nat) (w:World):Calls Tryz.prog 243 #[.float .f64 x,.int .i64 0] w fun e w'=>e= .returned (.bool (isInfB x))∧w=w':=by
 go_enter Tryz.func243,Tryz.ntmps243;go_wp2_with fail;refine(math_Abs x _).mono ?_;rintro e w' ⟨rfl,rfl⟩;go_wp2_with fail;go_ret;exact⟨rfl,rfl⟩
def wordB (l m:List UInt8):Bool:=l.length==m.length&&(l.zip m).all fun p=>(p.1.toNat|||32)==p.2.toNat
def wordTo (l m:List UInt8) (k:Nat):Prop:=((l.take k).zip (m.take k)).all (fun p=>(p.1.toNat|||32)==p.2.toNat)=true
theorem wordTo_zero (l m:List UInt8):wordTo l m 0:=rfl
theorem zip_take_succ {l m:List UInt8} {k:Nat} (h1:k<l.length) (h2:k<m.length):(l.take (k+1)).zip (m.take (k+1))=(l.take k).zip (m.take k)++[(atB l k,atB m k)]:=by
 have e1:l[k]=atB l k:=by rw[atB,List.getD_eq_getElem?_getD,List.getElem?_eq_getElem h1];rfl
 have e2:m[k]=atB m k:=by rw[atB,List.getD_eq_getElem?_getD,List.getElem?_eq_getElem h2];rfl
 rw[List.take_succ_eq_append_getElem h1,List.take_succ_eq_append_getElem h2,List.zip_append (by simp;omega),e1,e2];rfl
theorem wordTo_succ {l m:List UInt8} {k:Nat} (h1:k<l.length) (h2:k<m.length) (h:wordTo l m k) (he:((atB l k).toNat|||32)=(atB m k).toNat):wordTo l m (k+1):=by
 unfold wordTo at*
 rw[zip_take_succ h1 h2,List.all_append,h];simp[he]
theorem wordB_all {l m:List UInt8} (hl:l.length=m.length) (h:wordTo l m l.length):wordB l m=true:=by
 unfold wordTo at h;rw[List.take_length,hl,List.take_length]at h;rw[wordB,h];simp[hl]
theorem wordB_no {l m:List UInt8} {k:Nat} (h1:k<l.length) (h2:k<m.length) (he:((atB l k).toNat|||32)≠(atB m k).toNat):wordB l m=false:=by
 have:(l.zip m).all (fun p=>(p.1.toNat|||32)==p.2.toNat)=false:=by
  rw[List.all_eq_false];refine⟨(l.zip m)[k]'(by simp;omega),List.getElem_mem _,?_⟩;have e1:l[k]=atB l k:=by rw[atB,List.getD_eq_getElem?_getD,List.getElem?_eq_getElem h1];rfl
  have e2:m[k]=atB m k:=by rw[atB,List.getD_eq_getElem?_getD,List.getElem?_eq_getElem h2];rfl
  rw[List.getElem_zip,e1,e2];simpa using he
 rw[wordB,this,Bool.and_false]
theorem num_word (s m:ByteArray) (w:World) (hs:s.size≤1000) (hm:m.size≤1000):
  Calls Tryz.prog 238 #[.string s,.string m] w fun e w'=>e= .returned (.bool (wordB s.data.toList m.data.toList))∧Below w.heap.size w w':=by
 by_cases hl:s.size=m.size
 ·have q1:((s.size:Int) != (m.size:Int))=false:=by rw[hl];simp
  have hll:s.data.toList.length=m.data.toList.length:=by rw[len_data,len_data,hl]
  have HLL:=Lib.hid hll;clear hll;go_enter Tryz.func238,Tryz.ntmps238;go_wp2_with fail;go_loopw [13] (fun t wr=> ∃k:Nat,Hid (k≤s.size∧wordTo s.data.toList m.data.toList k)∧t= .int .i64 (k:Int)∧Hid (Below w.heap.size w wr)) (fun t wr=>s.size-(intOf t).toNat)
  case atStart=>exact⟨0,Lib.hid ⟨Nat.zero_le _,wordTo_zero _ _⟩,rfl,Lib.hid (Below.refl _ _)⟩
  case round=>
   obtain⟨k,hk,rfl,hb⟩:=hrel;have hk':=hk.out.1;by_cases hi:k<s.size
   ·have hi2:k<m.size:=by omega
    have p1:((k:Int)<(s.size:Int))=True:=by simp;omega
    have p2:((k:Int)<(m.size:Int))=True:=by simp;omega
    have o1:bits .or .u8 (s[k].toNat:Int) 32=((s[k].toNat|||32:Nat):Int):=u8_or_nat s[k].toNat 32 (UInt8.toNat_lt _) (by omega);have w1:wrap64 ((k:Int)+1)=((k+1:Nat):Int):=by unfold wrap64;omega
    have a1:atB s.data.toList k=s[k]:=atB_lt hi;have a2:atB m.data.toList k=m[k]:=atB_lt hi2;have k1:k<s.data.toList.length:=by rw[len_data];exact hi
    have k2:k<m.data.toList.length:=by rw[len_data];exact hi2
    have HK1:=Lib.hid k1;have HK2:=Lib.hid k2;have HA1:=Lib.hid a1;have HA2:=Lib.hid a2;clear k1 k2 a1 a2;cases ne:(((s[k].toNat|||32:Nat):Int) != (m[k].toNat:Int))
    ·have he:(s[k].toNat|||32)=m[k].toNat:=by
      have:((s[k].toNat|||32:Nat):Int)=(m[k].toNat:Int):=by simpa using ne
      omega
     have HN:=Lib.hid (wordTo_succ HK1.out HK2.out hk.out.2 (by rw[HA1.out,HA2.out];exact he));have HLE:=Lib.hid (show k+1≤s.size from hi);clear he;go_wp2_with fail;go_quiet (fail);go_wp2_with fail;go_round
     case rel=>exact⟨k+1,Lib.hid ⟨HLE.out,HN.out⟩,(by first|rfl|simp),Lib.hid (Go.below_drewN hb.out _)⟩
     case measure=>simp[intOf];omega
    ·have he:(s[k].toNat|||32)≠m[k].toNat:=by
      have: ¬((s[k].toNat|||32:Nat):Int)=(m[k].toNat:Int):=by simpa using ne
      omega
     have HN:=Lib.hid (wordB_no HK1.out HK2.out (by rw[HA1.out,HA2.out];exact he));clear he;go_wp2_with fail;go_quiet (fail);go_wp2_with fail;go_ret;rw[HN.out];exact⟨rfl,Go.below_drewN hb.out _⟩
   ·have hke:k=s.size:=by omega
    have hw:=hk.out.2;rw[hke,←len_data]at hw;have HW:=Lib.hid (wordB_all HLL.out hw);clear hw;subst hke;go_wp2_with fail;go_ret;rw[HW.out];exact⟨rfl,hb.out⟩
 ·have q1:((s.size:Int) != (m.size:Int))=true:=by simp;omega
  go_enter Tryz.func238,Tryz.ntmps238;go_wp2_with fail;go_ret;refine⟨ret_bool ?_,Below.refl _ _⟩;have:(s.data.toList.length==m.data.toList.length)=false:=by rw[len_data,len_data];simpa using hl
  rw[wordB,this,Bool.false_and]
theorem results_tmp3' {fn:Func} {a b c:Tmp} (h:fn.results= #[.tmp a,.tmp b,.tmp c]) (tmps:Array Value) (P:Program) (w:World):
  (results fn tmps).run P w= .ok (.tuple #[tmps.getD a undef,tmps.getD b undef,tmps.getD c undef]) w:=by
 simp[results,h]
theorem fp_special (s:ByteArray) (w:World) (h0:0<s.size) (hd:digit s[0]=true∨s[0].toNat=46):
  Calls Tryz.prog 299 #[.string s] w fun e w'=>e= .returned (.tuple #[.float .f64 0,.int .i64 0,.bool false])∧w=w':=by
 have hb:s[0].toNat=46∨48≤s[0].toNat∧s[0].toNat≤57:=by
  rcases hd with h|h
  ·exact .inr (digit_fits h)
  ·exact .inl h
 have e1:((s[0].toNat:Int)==43)=false:=by simp;omega
 have e2:((s[0].toNat:Int)==45)=false:=by simp;omega
 have e3:((s[0].toNat:Int)==105)=false:=by simp;omega
 have e4:((s[0].toNat:Int)==73)=false:=by simp;omega
 have e5:((s[0].toNat:Int)==110)=false:=by simp;omega
 have e6:((s[0].toNat:Int)==78)=false:=by simp;omega
 have z1:(s=ByteArray.empty)=False:=by
  apply eq_false;intro h;rw[h]at h0;simp at h0
 clear hb hd;go_enter Tryz.func299,Tryz.ntmps299;go_wp2_with fail;refine bodyPost_ret (results_tmp3' rfl _ _ _) rfl ?_;exact⟨rfl,rfl⟩
def ExactPost (w:World) (r:Option Nat) (e:Ending) (w':World):Prop:=
 (∃v ok,e= .returned (.tuple #[.float .f64 v,.bool ok])∧(match r with|some x=>ok=true∧v=x|none=>ok=false))∧w=w'
theorem ExactPost.some {w:World} {r:Option Nat} {x:Nat} (h:r=Option.some x):ExactPost w r (.returned (.tuple #[.float .f64 x,.bool true])) w:=⟨⟨x,true,rfl,by rw[h];exact⟨rfl,rfl⟩⟩,rfl⟩
theorem ExactPost.none {w:World} {r:Option Nat} {x:Nat} (h:r=Option.none):ExactPost w r (.returned (.tuple #[.float .f64 x,.bool false])) w:=⟨⟨x,false,rfl,by rw[h]⟩,rfl⟩
theorem fp_exact (m:Nat) (p:Int) (w:World) (hp: -400≤p∧p≤400) (hm64:m<18446744073709551616) (c0:w.cell? ⟨7,0,none⟩=some (.int .u64 52)) (b o c:Nat) (g:w.cell? ⟨10,0,none⟩=some (.slice (some ⟨b,o,none⟩) 23 c))
  (hT: ∀k,k<23→w.cell? ⟨b,o+k,none⟩=some (.float .f64 (p10W k))):
  Calls Tryz.prog 310 #[.int .u64 (m:Int),.int .i64 p,.bool false] w (ExactPost w (exactW m p)):=by
 have HT:=Lib.hid hT;have HP:=Lib.hid hp;have HM:=Lib.hid hm64;clear hT hp hm64;obtain⟨f,hf⟩: ∃f,f=floatOfInt .f64 (m:Int):=⟨_,rfl⟩;have hfle:f≤infW:=by rw[hf];exact ofInt_le m
 have HF:=Lib.hid hf;have HFL:=Lib.hid hfle;have hfe:floatOfInt .f64 (m:Int)=f:=hf.symm;clear hf hfle;by_cases hm:m/4503599627370496≠0
 ·have HX:=Lib.hid (show exactW m p=none by rw[exactW,if_pos hm]);have b0:((m:Int)/4503599627370496 != 0)=true:=by simp;omega
  clear hm;go_enter Tryz.func310,Tryz.ntmps310;go_wp2_with fail;go_ret2;exact .none HX.out
 ·have b0:((m:Int)/4503599627370496 != 0)=false:=by simp;omega
  by_cases h0:p=0
  ·have HX:=Lib.hid (show exactW m p=some f by rw[exactW,if_neg hm,if_pos h0,HF.out]);subst h0;clear hm;go_enter Tryz.func310,Tryz.ntmps310;go_wp2_with fail;go_ret2;exact .some HX.out
  ·have e0:(p==0)=false:=by simp;exact h0
   by_cases h1:0<p∧p≤37
   ·have d1: ∀[inst:Decidable ((0:Int)<p)],@decide _ inst=true:=fun {inst}=>decide_eq_true h1.1
    have d2: ∀[inst:Decidable (p≤37)],@decide _ inst=true:=fun {inst}=>decide_eq_true h1.2
    have d1':((0:Int)<p)=True:=eq_true h1.1;have d2':(p≤37)=True:=eq_true h1.2;by_cases h2:22<p
    ·obtain⟨k,rfl⟩: ∃k:Nat,p=(k:Int)+22:=⟨(p-22).toNat,by omega⟩;have d3:((22:Int)<(k:Int)+22)=True:=eq_true h2;have hk:k<23:=by omega
     have hk0:0<k:=by omega
     have w22:wrap64 ((k:Int)+22-22)=(k:Int):=by unfold wrap64;omega
     have gk:=HT.out k hk;have g22:=HT.out 22 (by omega);obtain⟨hm1,hm1le⟩:=mulW_eq HFL.out (p10W_pos hk);have HM1:=Lib.hid hm1;obtain⟨hmul,_⟩:=mulW_eq hm1le (p10W_pos (show 22<23 by omega));have HMUL:=Lib.hid hmul;have hE:exactW m ((k:Int)+22)=if bigW (mulW f (p10W k))then none else some (mulW (mulW f (p10W k)) (p10W 22)):=by
      rw[exactW,if_neg hm,if_neg h0,if_pos h1,hfe,if_pos h2,if_pos h2,show ((k:Int)+22-22).toNat=k by omega]
     have HE:=Lib.hid hE;clear hmul hE h1 h2 hm h0 hm1 hm1le;generalize mulW f (p10W k)=f1 at*
     cases b1:(FloatKind.f64.format.order f1 4831355200913801216==some .gt)
     ·cases b2:(FloatKind.f64.format.order f1 14054727237768577024==some .lt)
      ·go_enter Tryz.func310,Tryz.ntmps310;go_wp2_with fail;rw[run_float_arith _ _ _ _ _ _ _ HM1.out];simp only[Result.andThen];rw[Oper.upon_value];go_wp2_with fail;rw[run_float_arith _ _ _ _ _ _ _ HMUL.out];simp only[Result.andThen];rw[Oper.upon_value];go_wp2_with fail;go_ret2;exact .some (by rw[HE.out,bigW,b1,b2];rfl)
      ·go_enter Tryz.func310,Tryz.ntmps310;go_wp2_with fail;rw[run_float_arith _ _ _ _ _ _ _ HM1.out];simp only[Result.andThen];rw[Oper.upon_value];go_wp2_with fail;go_ret2;exact .none (by rw[HE.out,bigW,b1,b2];rfl)
     ·go_enter Tryz.func310,Tryz.ntmps310;go_wp2_with fail;rw[run_float_arith _ _ _ _ _ _ _ HM1.out];simp only[Result.andThen];rw[Oper.upon_value];go_wp2_with fail;go_ret2;exact .none (by rw[HE.out,bigW,b1];rfl)
    ·obtain⟨k,rfl⟩: ∃k:Nat,p=(k:Int):=⟨p.toNat,by omega⟩;have d3:((22:Int)<(k:Int))=False:=eq_false h2;have hk:k<23:=by omega
     have hk0:0<k:=by omega
     have gk:=HT.out k hk;obtain⟨hmul,_⟩:=mulW_eq HFL.out (p10W_pos hk);have HMUL:=Lib.hid hmul;have hE:exactW m (k:Int)=if bigW f then none else some (mulW f (p10W k)):=by
      rw[exactW,if_neg hm,if_neg h0,if_pos h1,hfe,if_neg h2,if_neg h2,Int.toNat_natCast]
     have HE:=Lib.hid hE;clear hmul hE h1 h2 hm h0;cases b1:(FloatKind.f64.format.order f 4831355200913801216==some .gt)
     ·cases b2:(FloatKind.f64.format.order f 14054727237768577024==some .lt)
      ·go_enter Tryz.func310,Tryz.ntmps310;go_wp2_with fail;rw[run_float_arith _ _ _ _ _ _ _ HMUL.out];simp only[Result.andThen];rw[Oper.upon_value];go_wp2_with fail;go_ret2;exact .some (by rw[HE.out,bigW,b1,b2];rfl)
      ·go_enter Tryz.func310,Tryz.ntmps310;go_wp2_with fail;go_ret2;exact .none (by rw[HE.out,bigW,b1,b2];rfl)
     ·go_enter Tryz.func310,Tryz.ntmps310;go_wp2_with fail;go_ret2;exact .none (by rw[HE.out,bigW,b1];rfl)
   ·by_cases h2:p<0∧ -22≤p
    ·obtain⟨k,rfl⟩: ∃k:Nat,p= -(k:Int):=⟨(-p).toNat,by omega⟩;have d1: ∀[inst:Decidable ((0:Int)< -(k:Int))],@decide _ inst=false:=fun {inst}=>decide_eq_false (by omega)
     have d1':((0:Int)< -(k:Int))=False:=eq_false (by omega);have d2: ∀[inst:Decidable (-(k:Int)<0)],@decide _ inst=true:=fun {inst}=>decide_eq_true h2.1
     have d2':(-(k:Int)<0)=True:=eq_true h2.1;have d3: ∀[inst:Decidable ((-22:Int)≤ -(k:Int))],@decide _ inst=true:=fun {inst}=>decide_eq_true h2.2
     have d3':((-22:Int)≤ -(k:Int))=True:=eq_true h2.2;have hk:k<23:=by omega
     have hk0:0<k:=by omega
     have wk:wrap64 (- -(k:Int))=(k:Int):=by unfold wrap64;omega
     have gk:=HT.out k hk;obtain⟨hmul,_⟩:=divW_eq HFL.out (p10W_pos hk);have HMUL:=Lib.hid hmul;have hE:exactW m (-(k:Int))=some (divW f (p10W k)):=by
      rw[exactW,if_neg hm,if_neg h0,if_neg h1,if_pos h2,hfe,show (- -(k:Int)).toNat=k by omega]
     have HE:=Lib.hid hE;clear hmul hE h1 h2 hm h0;go_enter Tryz.func310,Tryz.ntmps310;go_wp2_with fail;rw[run_float_arith _ _ _ _ _ _ _ HMUL.out];simp only[Result.andThen];rw[Oper.upon_value];go_wp2_with fail;go_ret2;exact .some HE.out
    ·have hE:exactW m p=none:=by rw[exactW,if_neg hm,if_neg h0,if_neg h1,if_neg h2]
     have HE:=Lib.hid hE;by_cases hp0:0<p
     ·have d1: ∀[inst:Decidable ((0:Int)<p)],@decide _ inst=true:=fun {inst}=>decide_eq_true hp0
      have d1':((0:Int)<p)=True:=eq_true hp0;have d2: ∀[inst:Decidable (p≤37)],@decide _ inst=false:=fun {inst}=>decide_eq_false (by omega)
      have d2':(p≤37)=False:=eq_false (by omega);have d3: ∀[inst:Decidable (p<0)],@decide _ inst=false:=fun {inst}=>decide_eq_false (by omega)
      have d3':(p<0)=False:=eq_false (by omega);clear hE h1 h2 hm h0;go_enter Tryz.func310,Tryz.ntmps310;go_wp2_with fail;go_ret2;exact .none HE.out
     ·have d1: ∀[inst:Decidable ((0:Int)<p)],@decide _ inst=false:=fun {inst}=>decide_eq_false hp0
      have d1':((0:Int)<p)=False:=eq_false hp0;have d2: ∀[inst:Decidable (p<0)],@decide _ inst=true:=fun {inst}=>decide_eq_true (by omega)
      have d2':(p<0)=True:=eq_true (by omega);have d3: ∀[inst:Decidable ((-22:Int)≤p)],@decide _ inst=false:=fun {inst}=>decide_eq_false (by omega)
      have d3':((-22:Int)≤p)=False:=eq_false (by omega);clear hE h1 h2 hm h0;go_enter Tryz.func310,Tryz.ntmps310;go_wp2_with fail;go_ret2;exact .none HE.out
structure DecAt (w:World) (g:Nat) (D:Nat→Nat) (nd:Nat) (dp:Int) (neg tr:Bool):Prop where
 dig: ∀i,i<800→w.cell? ⟨g,i,none⟩=some (.int .u8 (D i:Int))
 nd:w.cell? ⟨g,800,none⟩=some (.int .i64 (nd:Int))
 dp:w.cell? ⟨g,801,none⟩=some (.int .i64 dp)
 neg:w.cell? ⟨g,802,none⟩=some (.bool neg)
 tr:w.cell? ⟨g,803,none⟩=some (.bool tr)
 free: ∀i,w.frozen? ⟨g,i,none⟩=false
 lt:g<w.heap.size
section
variable {w:World} {g:Nat} {D:Nat→Nat} {nd:Nat} {dp:Int} {neg tr:Bool}
theorem DecAt.other {i:Nat} (_:DecAt w g D nd dp neg tr) (u:Value) {j:Nat} (hj:j≠i) {v:Value} (hv:w.cell? ⟨g,j,none⟩=some v):(w.setCell ⟨g,i,none⟩ u).cell? ⟨g,j,none⟩=some v:=by
 rw[World.cell?_setCell_other _ _ _ _ (by simp[hj]),hv]
theorem DecAt.free' {i:Nat} (h:DecAt w g D nd dp neg tr) (u:Value) (j:Nat):(w.setCell ⟨g,i,none⟩ u).frozen? ⟨g,j,none⟩=false:=(World.frozen?_setCell _ _ _ _).trans (h.free j)
theorem DecAt.lt' {i:Nat} (h:DecAt w g D nd dp neg tr) (u:Value):g<(w.setCell ⟨g,i,none⟩ u).heap.size:=by simpa using h.lt
theorem DecAt.setDig (h:DecAt w g D nd dp neg tr) {i c:Nat} (hi:i<800) {z:Int} (hz:z=(c:Int)):DecAt (w.setCell ⟨g,i,none⟩ (.int .u8 z)) g (upd D i c) nd dp neg tr:=by
 subst hz;refine⟨fun j hj=>?_,h.other _ (by omega) h.nd,h.other _ (by omega) h.dp,h.other _ (by omega) h.neg,h.other _ (by omega) h.tr,h.free' _,h.lt' _⟩;by_cases e:j=i
 ·subst e;rw[World.cell?_setCell_same _ _ _ (h.dig j hj),upd,if_pos rfl]
 ·rw[h.other _ e (h.dig j hj),upd,if_neg e]
theorem DecAt.setNd (h:DecAt w g D nd dp neg tr) {n:Nat} {z:Int} (hz:z=(n:Int)):DecAt (w.setCell ⟨g,800,none⟩ (.int .i64 z)) g D n dp neg tr:=by
 subst hz;exact⟨fun j hj=>h.other _ (by omega) (h.dig j hj),World.cell?_setCell_same _ _ _ h.nd,h.other _ (by omega) h.dp,h.other _ (by omega) h.neg,h.other _ (by omega) h.tr,h.free' _,h.lt' _⟩
theorem DecAt.setDp (h:DecAt w g D nd dp neg tr) (z:Int):DecAt (w.setCell ⟨g,801,none⟩ (.int .i64 z)) g D nd z neg tr:=
 ⟨fun j hj=>h.other _ (by omega) (h.dig j hj),h.other _ (by omega) h.nd,World.cell?_setCell_same _ _ _ h.dp,h.other _ (by omega) h.neg,h.other _ (by omega) h.tr,h.free' _,h.lt' _⟩
theorem DecAt.setNeg (h:DecAt w g D nd dp neg tr) (b:Bool):DecAt (w.setCell ⟨g,802,none⟩ (.bool b)) g D nd dp b tr:=
 ⟨fun j hj=>h.other _ (by omega) (h.dig j hj),h.other _ (by omega) h.nd,h.other _ (by omega) h.dp,World.cell?_setCell_same _ _ _ h.neg,h.other _ (by omega) h.tr,h.free' _,h.lt' _⟩
theorem DecAt.setTr (h:DecAt w g D nd dp neg tr) (b:Bool):DecAt (w.setCell ⟨g,803,none⟩ (.bool b)) g D nd dp neg b:=
 ⟨fun j hj=>h.other _ (by omega) (h.dig j hj),h.other _ (by omega) h.nd,h.other _ (by omega) h.dp,h.other _ (by omega) h.neg,World.cell?_setCell_same _ _ _ h.tr,h.free' _,h.lt' _⟩
theorem DecAt.drew (h:DecAt w g D nd dp neg tr) (n:Nat):DecAt (w.drewN n) g D nd dp neg tr:=⟨h.dig,h.nd,h.dp,h.neg,h.tr,h.free,h.lt⟩
end
def ndOf (w:World) (g:Nat):Nat:=match w.cell? ⟨g,800,none⟩with|some (.int _ k)=>k.toNat|_=>0
theorem DecAt.ndOf {w:World} {g:Nat} {D:Nat→Nat} {nd:Nat} {dp:Int} {neg tr:Bool} (h:DecAt w g D nd dp neg tr):ndOf w g=nd:=by
 unfold Go.Proofs.YtibcjfjacielbaaGreatDoor.ndOf;rw[h.nd];simp
theorem dec_trim (w : World) (B g : Nat) (D : Nat → Nat) (nd : Nat) (dp : Int) (neg tr : Bool) (h : DecAt w g D nd dp neg tr) (hnd : nd ≤ 800) (hB : B ≤ g) :
    Calls Tryz.prog 339 #[.pointer (some ⟨g,0,none⟩)] w fun e w'=>e= .returned (.tuple #[])∧DecAt w' g D (trimN D nd) (trimDp D nd dp) neg tr∧Below B w w':=by
  obtain⟨T,hT⟩: ∃T,T=trimN D nd:=⟨_,rfl⟩
  obtain⟨DP,hDP⟩: ∃DP,DP=trimDp D nd dp:=⟨_,rfl⟩
  have hTT:DP=if T=0 then 0 else dp:=by rw[hDP,trimDp,hT]
  rw[←hDP,←hT]
  clear hDP
  have HT:=Lib.hid hT
  have H0:=Lib.hid h
  have HTT:=Lib.hid hTT
  clear hT h hTT
  go_enter Tryz.func339,Tryz.ntmps339
  go_wp2_with fail
  go_loopw [] (fun wr=> ∃m:Nat,Hid (m≤800∧DecAt wr g D m dp neg tr∧trimN D m=T∧Below B w wr)) (fun wr=>ndOf wr g)
  case atStart=>exact⟨nd,Lib.hid ⟨hnd,H0.out,HT.out.symm,Below.refl _ _⟩⟩
  case round =>
    obtain⟨m,hI⟩:=hrel
    have d0:=hI.out.2.1.nd
    have d1:=hI.out.2.1.dp
    have f0:=hI.out.2.1.free 800
    have f1:=hI.out.2.1.free 801
    cases m with
    | zero =>
      go_wp2_with fail
      go_quiet (fail)
      have hI2:DecAt (wr.drewN nq) g D 0 dp neg tr:=hI.out.2.1.drew nq
      have hb2:=Go.below_drewN hI.out.2.2.2 nq
      have hT0:T=0:=by rw[←hI.out.2.2.1];rfl
      clear d0 d1 f0 f1
      generalize wr.drewN nq=w2 at hI2 hb2 ⊢
      have d0:=hI2.nd
      have d1:=hI2.dp
      have f1:=hI2.free 801
      have H2:=Lib.hid hI2
      have HB2:=Lib.hid hb2
      have HT0:=Lib.hid hT0
      clear hI2 hb2 hT0
      go_wp2_with fail
      go_end0
      refine⟨rfl,?_,HB2.out.setCell (p:=⟨g,801,none⟩) hB _⟩
      rw[HTT.out,if_pos HT0.out,HT0.out]
      exact H2.out.setDp 0
    | succ k =>
      have hk:k<800:=hI.out.1
      have p1:((k:Int)<800)=True:=by simp;omega
      have p0:((0:Int)<(k:Int)+1)=True:=eq_true (by omega)
      have dk:=hI.out.2.1.dig k hk
      cases e48:((D k:Int)==48)
      · have hne : D k ≠ 48 := by intro h; rw [h] at e48; simp at e48
        have hT1:T=k+1:=by rw[←hI.out.2.2.1,trimN,if_neg hne]
        go_wp2_with fail
        go_quiet (fail)
        have hI2:DecAt (wr.drewN nq) g D (k+1) dp neg tr:=hI.out.2.1.drew nq
        have hb2:=Go.below_drewN hI.out.2.2.2 nq
        clear d0 d1 f0 f1 dk
        generalize wr.drewN nq=w2 at hI2 hb2 ⊢
        have d0:=hI2.nd
        have p2:((k:Int)+1=0)=False:=eq_false (by omega)
        have H2:=Lib.hid hI2
        have HB2:=Lib.hid hb2
        have HT1:=Lib.hid hT1
        clear hI2 hb2 hT1 hne
        go_wp2_with fail
        go_end0
        rw[HTT.out,if_neg (by rw[HT1.out];omega),HT1.out]
        exact⟨rfl,H2.out,HB2.out⟩
      · have he : D k = 48 := by have : (D k : Int) = 48 := by simpa using e48
                                 omega
        have hT1:trimN D k=T:=by rw[←hI.out.2.2.1,trimN,if_pos he]
        go_wp2_with fail
        go_quiet (fail)
        have hI2:DecAt (wr.drewN nq) g D (k+1) dp neg tr:=hI.out.2.1.drew nq
        have hb2:=Go.below_drewN hI.out.2.2.2 nq
        have hnd:ndOf wr g=k+1:=hI.out.2.1.ndOf
        clear d0 d1 f0 f1 dk
        generalize wr.drewN nq=w2 at hI2 hb2 ⊢
        have d0:=hI2.nd
        have f0:=hI2.free 800
        have H2:=Lib.hid hI2
        have HB2:=Lib.hid hb2
        have HT1:=Lib.hid hT1
        have HND:=Lib.hid hnd
        clear hI2 hb2 hT1 he hnd
        go_wp2_with fail
        go_roundw
        case rel=>exact⟨k,Lib.hid ⟨by omega,H2.out.setNd (by first|rfl|(simp only[wrap64];omega)),HT1.out,HB2.out.setCell (p:=⟨g,800,none⟩) hB _⟩⟩
        case measure =>
          rw[HND.out,(H2.out.setNd (n:=k) (by first|rfl|(simp only[wrap64];omega))).ndOf]
          exact Nat.lt_succ_self k
end Go.Proofs.YtibcjfjacielbaaGreatDoor
