import Derived.Test.YtibcjfjacielbaaGreatDoorP01
import Derived.Test.YtibcjfjacielbaaGreatDoorP02
import Derived.Test.YtibcjfjacielbaaGreatDoorProg
import Derived.Shelf.LaysC
import Derived.Shelf.LaysM
import Derived.Shelf.Strconv.Lower
import Derived.Shelf.Strconv.ToErrorRange
import Derived.Shelf.Strconv.Itoa0
import Derived.Shelf.Strconv.Itoa1
import Derived.Shelf.Strconv.Itoa2
import Derived.Shelf.Bits.Mul64
import Derived.Laws.BitsAllLaws
import Derived.Laws.ShiftsVarLaws
/- Part of the proof of YtibcjfjacielbaaGreatDoorCardP: FpA. -/
set_option maxRecDepth 100000
set_option maxHeartbeats 4000000
set_option linter.unusedVariables false
set_option linter.unusedSimpArgs false
namespace Go.Proofs.YtibcjfjacielbaaGreatDoor
open Go.RowKit
theorem fp_bool2 (b:Bool) (w:World):
  Calls Tryz.prog 308 #[.bool b] w fun e w'=>e= .returned (.int .u64 (if b then 1 else 0))∧w=w':=by
 cases b
 all_goals
  go_enter Tryz.func308,Tryz.ntmps308;go_wp2;go_ret;exact⟨rfl,rfl⟩
theorem fp_round (u:Nat) (hu:u<18446744073709551600) (w:World):
  Calls Tryz.prog 325 #[.int .u64 (u:Int)] w fun e w'=>e= .returned (.int .u64 (roundU u:Nat))∧w=w':=by
 have h1:bits .and .u64 ((u:Int)/4) 1=((u/4&&&1:Nat):Int):=u64_and_nat (u/4) 1 (by omega) (by omega);have h2:(u/4&&&1)≤1:=Nat.and_le_right;have h3:IntKind.u64.wrap ((u:Int)+1)=(u:Int)+1:=by rw[IntKind.wrap_u64];omega
 have h4:IntKind.u64.wrap ((u:Int)+1+((u/4&&&1:Nat):Int))=((u+1+(u/4&&&1):Nat):Int):=by rw[IntKind.wrap_u64];omega
 go_enter Tryz.func325,Tryz.ntmps325;go_wp2;go_ret;refine⟨ret_int ?_,rfl⟩;have h5:(u/4&&&1)=u/4%2:=Nat.and_one_is_mod _;unfold roundU;rw[h5];simp
theorem fp_unmin (w:World):
  Calls Tryz.prog 323 #[.int .u64 9007199254740992] w fun e w'=>e= .returned (.int .u64 36028797018963966)∧w=w':=by
 go_enter Tryz.func323,Tryz.ntmps323;go_wp2;go_ret;exact⟨rfl,rfl⟩
theorem fp_log2Pow10 (p:Int) (h: -1000≤p∧p≤1000) (w:World):
  Calls Tryz.prog 319 #[.int .i64 p] w fun e w'=>e= .returned (.int .i64 (log2P p))∧w=w':=by
 have h1:wrap64 (p*108853)=p*108853:=by unfold wrap64;omega
 go_enter Tryz.func319,Tryz.ntmps319;go_wp2;go_ret;exact⟨rfl,rfl⟩
def rngV (r:Bool):Value:=if r then .iface 318 (.int .i64 1)else .nilIface
theorem run_frombits (x:Int) (w:World):(callFunc 309 #[.int .u64 x]).run Tryz.prog w= .ok (.value (.float .f64 x.toNat)) w:=by
 rw[run_callFunc_extern Tryz.func309 (by kernel_rfl) (by kernel_rfl) (by kernel_rfl) (e:=Extern.MathFloatBits.float64frombits) (by kernel_rfl)];rfl
theorem fp_pack64 (m:Nat) (e:Int) (hm:m<9223372036854775808) (he: -1074≤e∧e≤100000) (w:World):
  Calls Tryz.prog 328 #[.int .u64 (m:Int),.int .i64 e] w fun e' w'=>e'= .returned (.tuple #[.float .f64 (packB m e),rngV (packRng m e)])∧w=w':=by
 have h1:bits .and .u64 (m:Int) 4503599627370496=((m&&&4503599627370496:Nat):Int):=u64_and_nat m 4503599627370496 (by omega) (by omega);have h2:bits .and .u64 (m:Int) 9223372036854775808=0:=by
  have h3:=u64_and_nat m 9223372036854775808 (by omega) (by omega);have h4:m&&&9223372036854775808=0:=by
   apply Nat.eq_of_testBit_eq;intro i;rw[Nat.testBit_and,show (9223372036854775808:Nat)=2^63 from rfl,Nat.testBit_two_pow];by_cases h:63=i
   ·subst h;rw[Nat.testBit_lt_two_pow (by omega)];simp
   ·simp[h]
  rw[h4]at h3;exact h3
 have h5:bits .or .u64 0 9218868437227405312=9218868437227405312:=u64_or_nat 0 9218868437227405312 (by omega) (by omega);have h6:bits .andNot .u64 (m:Int) 4503599627370496=((m&&&18442240474082181119:Nat):Int):=u64_andNot_nat m 4503599627370496 (by omega) (by omega);obtain⟨q,hq⟩: ∃q:Nat,1075+e=(q:Int):=⟨(1075+e).toNat,by omega⟩;have h7:IntKind.u64.wrap (q:Int)=q:=by rw[IntKind.wrap_u64];omega
 have h8:IntKind.i64.wrap (1075+e)=q:=by rw[IntKind.wrap_i64];omega
 have h9:IntKind.u64.wrap ((q:Int)*4503599627370496)=((q*4503599627370496%18446744073709551616:Nat):Int):=by rw[IntKind.wrap_u64];omega
 have h10:bits .or .u64 ((m&&&18442240474082181119:Nat):Int) ((q:Int)*4503599627370496%18446744073709551616)=(((m&&&18442240474082181119)|||(q*4503599627370496%18446744073709551616):Nat):Int):=by
  rw[show (q:Int)*4503599627370496%18446744073709551616=((q*4503599627370496%18446744073709551616:Nat):Int)by omega];exact u64_or_nat _ _ (Nat.lt_of_le_of_lt Nat.and_le_left (by omega)) (Nat.mod_lt _ (by omega))
 by_cases h0:m&&&4503599627370496=0
 ·have b0:(bits .and .u64 (m:Int) 4503599627370496==0)=true:=by rw[h1,h0];rfl
  have hB:packB m e=m:=by rw[packB,if_pos h0]
  have hR:packRng m e=false:=by rw[packRng,decide_eq_false (by simpa using h0)];rfl
  clear h1 h2 h5 h6 h7 h8 h9 h10;go_enter Tryz.func328,Tryz.ntmps328;go_wp2_with fail;rw[run_frombits];rw[Oper.upon_value];go_wp2_with fail;go_ret2;rw[hB,hR];exact⟨rfl,rfl⟩
 ·have b0:(bits .and .u64 (m:Int) 4503599627370496==0)=false:=by
   rw[h1];have: ¬((m&&&4503599627370496:Nat):Int)=0:=by omega
   simpa using this
  by_cases hr:972≤e
  ·have hB:packB m e=9218868437227405312:=by rw[packB,if_neg h0,if_pos hr]
   have hR:packRng m e=true:=by rw[packRng,decide_eq_true h0,decide_eq_true hr];rfl
   clear h1 h6 h7 h8 h9 h10;go_enter Tryz.func328,Tryz.ntmps328;go_wp2_with fail;rw[run_frombits];rw[Oper.upon_value];go_wp2_with fail;go_ret2;rw[hB,hR];exact⟨rfl,rfl⟩
  ·have hB:packB m e=(m&&&18442240474082181119)|||(q*4503599627370496%18446744073709551616):=by
    rw[packB,if_neg h0,if_neg hr,hq];rfl
   have hR:packRng m e=false:=by rw[packRng,decide_eq_false hr,Bool.and_false]
   clear h1 h2 h5;go_enter Tryz.func328,Tryz.ntmps328;go_wp2_with fail;rw[run_frombits];rw[Oper.upon_value];go_wp2_with fail;go_ret2;rw[hB,hR];exact⟨rfl,rfl⟩
end Go.Proofs.YtibcjfjacielbaaGreatDoor
