import Derived.Test.YtcdoilkjmjbgmaaGreatDoorS01
import Derived.Test.YtcdoilkjmjbgmaaGreatDoorS04
import Derived.Shelf.LaysC
import Derived.Shelf.LaysM
import Derived.Shelf.Strconv.Lower
import Derived.Shelf.Strconv.ToErrorRange
import Derived.Shelf.Strconv.Itoa0
import Derived.Shelf.Strconv.Itoa1
import Derived.Shelf.Strconv.Itoa2
import Derived.Shelf.Bits.Mul64
import Derived.Laws.BitsAllLaws
import Derived.Laws.ShiftsVarLaws
/- Part of the proof of YtcdoilkjmjbgmaaGreatDoorCardY: FpA. -/
set_option maxRecDepth 100000
set_option maxHeartbeats 4000000
set_option linter.unusedVariables false
set_option linter.unusedSimpArgs false
namespace Go.Proofs.YtcdoilkjmjbgmaaGreatDoor
open Go.RowKit
open Go.Proofs.Tryz
theorem mJ (b:Bool) (w:World):
  Calls prog 214 #[.bool b] w fun e w'=>e= .returned (.int .u64 (if b then 1 else 0))∧w=w':=by
 cases b
 all_goals
  go_enter func214,ntmps214;go_wp2;go_ret;exact⟨rfl,rfl⟩
theorem Vj (u:Nat) (hu:u<18446744073709551600) (w:World):
  Calls prog 231 #[.int .u64 (u:Int)] w fun e w'=>e= .returned (.int .u64 (xw u:Nat))∧w=w':=by
 have h1:bits .and .u64 ((u:Int)/4) 1=((u/4&&&1:Nat):Int):=vA (u/4) 1 (by omega) (by omega);have h2:(u/4&&&1)≤1:=Nat.and_le_right;have h3:IntKind.u64.wrap ((u:Int)+1)=(u:Int)+1:=by rw[cZ];omega
 have h4:IntKind.u64.wrap ((u:Int)+1+((u/4&&&1:Nat):Int))=((u+1+(u/4&&&1):Nat):Int):=by rw[cZ];omega
 go_enter func231,ntmps231;go_wp2;go_ret;refine⟨aH ?_,rfl⟩;have h5:(u/4&&&1)=u/4%2:=Oj _;unfold xw;rw[h5];simp
theorem Vk (w:World):
  Calls prog 229 #[.int .u64 9007199254740992] w fun e w'=>e= .returned (.int .u64 36028797018963966)∧w=w':=by
 go_enter func229,ntmps229;go_wp2;go_ret;exact⟨rfl,rfl⟩
theorem wT (p:Int) (h: -1000≤p∧p≤1000) (w:World):
  Calls prog 225 #[.int .i64 p] w fun e w'=>e= .returned (.int .i64 (kO p))∧w=w':=by
 have h1:wrap64 (p*108853)=p*108853:=by unfold wrap64;omega
 go_enter func225,ntmps225;go_wp2;go_ret;exact⟨rfl,rfl⟩
def AS (r:Bool):Value:=if r then .iface 249 (.int .i64 1)else .nilIface
theorem dN (x:Int) (w:World):(callFunc 215 #[.int .u64 x]).run prog w= .ok (.value (.float .f64 x.toNat)) w:=by
 rw[run_callFunc_extern func215 (by kernel_rfl) (by kernel_rfl) (by kernel_rfl) (e:=Extern.MathFloatBits.float64frombits) (by kernel_rfl)];rfl
theorem QV (m:Nat) (e:Int) (hm:m<9223372036854775808) (he: -1074≤e∧e≤100000) (w:World):
  Calls prog 234 #[.int .u64 (m:Int),.int .i64 e] w fun e' w'=>e'= .returned (.tuple #[.float .f64 (lG m e),AS (ky m e)])∧w=w':=by
 have h1:bits .and .u64 (m:Int) 4503599627370496=((m&&&4503599627370496:Nat):Int):=vA m 4503599627370496 (by omega) (by omega);have h2:bits .and .u64 (m:Int) 9223372036854775808=0:=by
  have h3:=vA m 9223372036854775808 (by omega) (by omega);have h4:m&&&9223372036854775808=0:=by
   apply Nat.eq_of_testBit_eq;intro i;rw[Nat.testBit_and,show (9223372036854775808:Nat)=2^63 from rfl,Nat.testBit_two_pow];by_cases h:63=i
   ·subst h;rw[Nat.testBit_lt_two_pow (by omega)];simp
   ·simp[h]
  rw[h4]at h3;exact h3
 have h5:bits .or .u64 0 9218868437227405312=9218868437227405312:=qZ 0 9218868437227405312 (by omega) (by omega);have h6:bits .andNot .u64 (m:Int) 4503599627370496=((m&&&18442240474082181119:Nat):Int):=u64_andNot_nat m 4503599627370496 (by omega) (by omega);obtain⟨q,hq⟩: ∃q:Nat,1075+e=(q:Int):=⟨(1075+e).toNat,by omega⟩;have h7:IntKind.u64.wrap (q:Int)=q:=by rw[cZ];omega
 have h8:IntKind.i64.wrap (1075+e)=q:=by rw[ou];omega
 have h9:IntKind.u64.wrap ((q:Int)*4503599627370496)=((q*4503599627370496%18446744073709551616:Nat):Int):=by rw[cZ];omega
 have Hg:bits .or .u64 ((m&&&18442240474082181119:Nat):Int) ((q:Int)*4503599627370496%18446744073709551616)=(((m&&&18442240474082181119)|||(q*4503599627370496%18446744073709551616):Nat):Int):=by
  rw[show (q:Int)*4503599627370496%18446744073709551616=((q*4503599627370496%18446744073709551616:Nat):Int)by omega];exact qZ _ _ (o7 Nat.and_le_left (by omega)) (my _ (by omega))
 by_cases h0:m&&&4503599627370496=0
 ·have b0:(bits .and .u64 (m:Int) 4503599627370496==0)=true:=by rw[h1,h0];rfl
  have hB:lG m e=m:=by rw[lG,az h0]
  have hR:ky m e=false:=by rw[ky,gj (by simpa using h0)];rfl
  clear h1 h2 h5 h6 h7 h8 h9 Hg;go_enter func234,ntmps234;go_wp2_with fail;rw[dN];rw[jQ];go_wp2_with fail;go_ret2;rw[hB,hR];exact⟨rfl,rfl⟩
 ·have b0:(bits .and .u64 (m:Int) 4503599627370496==0)=false:=by
   rw[h1];have: ¬((m&&&4503599627370496:Nat):Int)=0:=by omega
   simpa using this
  by_cases hr:972≤e
  ·have hB:lG m e=9218868437227405312:=by rw[lG,ah h0,az hr]
   have hR:ky m e=true:=by rw[ky,dO h0,dO hr];rfl
   clear h1 h6 h7 h8 h9 Hg;go_enter func234,ntmps234;go_wp2_with fail;rw[dN];rw[jQ];go_wp2_with fail;go_ret2;rw[hB,hR];exact⟨rfl,rfl⟩
  ·have hB:lG m e=(m&&&18442240474082181119)|||(q*4503599627370496%18446744073709551616):=by
    rw[lG,ah h0,ah hr,hq];rfl
   have hR:ky m e=false:=by rw[ky,gj hr,tx]
   clear h1 h2 h5;go_enter func234,ntmps234;go_wp2_with fail;rw[dN];rw[jQ];go_wp2_with fail;go_ret2;rw[hB,hR];exact⟨rfl,rfl⟩
