import Derived.Test.YtibcjfjacielbaaGreatDoorP03
import Derived.Deep.QuietTactic
import Derived.BigQuiet
/- Part of the proof of YtibcjfjacielbaaGreatDoorCardP: NumA. -/
set_option maxRecDepth 100000
set_option maxHeartbeats 4000000
set_option linter.unusedVariables false
set_option linter.unusedSimpArgs false
namespace Go.Proofs.YtibcjfjacielbaaGreatDoor
open Go.RowKit
theorem num_digit (c:UInt8) (w:World):
  Calls Tryz.prog 235 #[.int .u8 (c.toNat:Int)] w fun e w'=>e= .returned (.bool (digit c))∧w=w':=by
 go_enter Tryz.func235,Tryz.ntmps235;go_wp2
 all_goals (go_ret;exact⟨ret_bool (by rw[Bool.eq_iff_iff];simp[digit];omega),rfl⟩)
theorem num_hex (c:UInt8) (w:World):
  Calls Tryz.prog 233 #[.int .u8 (c.toNat:Int)] w fun e w'=>e= .returned (.bool (hexd c))∧w=w':=by
 go_enter Tryz.func233,Tryz.ntmps233;cases hd:digit c
 all_goals
  go_wp2_with fail;refine(num_digit _ _).mono ?_;rintro e w' ⟨rfl,rfl⟩;rw[hd];go_wp2_with fail
 all_goals (go_ret;exact⟨ret_bool (by rw[Bool.eq_iff_iff];simp[hexd,hd];try omega),rfl⟩)
theorem num_digits (s:ByteArray) (x:Int) (i:Nat) (hx:x=(i:Int)) (w:World) (hs:s.size≤281474976710656) (hi:i≤281474976710656):
  Calls Tryz.prog 234 #[.string s,.int .i64 x,.func (.func 235) #[] #[]] w fun e w'=>e= .returned (.int .i64 (spanEnd digit s.data.toList i:Nat))∧w=w':=by
 subst hx;go_enter Tryz.func234,Tryz.ntmps234;go_wp2_with fail;go_loop [1] (fun t=> ∃k:Nat,k≤562949953421312∧t= .int .i64 k∧Hid (spanEnd digit s.data.toList k=spanEnd digit s.data.toList i)) (fun t=>s.size-(intOf t).toNat)
 case atStart=>exact⟨i,by omega,rfl,rfl⟩
 case round=>
  obtain⟨k,hk,rfl,hsp⟩:=hrel;by_cases hlt:k<s.size
  ·cases hd:digit s[k]
   all_goals
    go_wp2_with (go_at_call 235;refine(num_digit _ _).mono ?_;rintro e w' ⟨rfl,rfl⟩)
   ·go_ret;exact⟨ret_int (by rw[←hsp.out,spanEnd_stopB hlt hd]),rfl⟩
   ·go_round
    case rel=>exact⟨k+1,by omega,by go_num,(spanEnd_stepB hlt hd).trans hsp.out⟩
    case measure=>simp[intOf];omega
  ·go_wp2_with fail;go_ret;exact⟨ret_int (by rw[←hsp.out,spanEnd_end (by simpa using hlt)]),rfl⟩
theorem num_digitsx (s:ByteArray) (x:Int) (i:Nat) (hx:x=(i:Int)) (w:World) (hs:s.size≤281474976710656) (hi:i≤281474976710656):
  Calls Tryz.prog 234 #[.string s,.int .i64 x,.func (.func 233) #[] #[]] w fun e w'=>e= .returned (.int .i64 (spanEnd hexd s.data.toList i:Nat))∧w=w':=by
 subst hx;go_enter Tryz.func234,Tryz.ntmps234;go_wp2_with fail;go_loop [1] (fun t=> ∃k:Nat,k≤562949953421312∧t= .int .i64 k∧Hid (spanEnd hexd s.data.toList k=spanEnd hexd s.data.toList i)) (fun t=>s.size-(intOf t).toNat)
 case atStart=>exact⟨i,by omega,rfl,rfl⟩
 case round=>
  obtain⟨k,hk,rfl,hsp⟩:=hrel;by_cases hlt:k<s.size
  ·cases hd:hexd s[k]
   all_goals
    go_wp2_with (go_at_call 233;refine(num_hex _ _).mono ?_;rintro e w' ⟨rfl,rfl⟩)
   ·go_ret;exact⟨ret_int (by rw[←hsp.out,spanEnd_stopB hlt hd]),rfl⟩
   ·go_round
    case rel=>exact⟨k+1,by omega,by go_num,(spanEnd_stepB hlt hd).trans hsp.out⟩
    case measure=>simp[intOf];omega
  ·go_wp2_with fail;go_ret;exact⟨ret_int (by rw[←hsp.out,spanEnd_end (by simpa using hlt)]),rfl⟩
theorem num_exponent (s:ByteArray) (x:Int) (i:Nat) (hx:x=(i:Int)) (w:World) (hs:s.size≤281474976710656) (hi:i≤s.size):
  Calls Tryz.prog 236 #[.string s,.int .i64 x] w fun e w'=>e= .returned (.int .i64 (expEnd s.data.toList i:Nat))∧w=w':=by
 subst hx;by_cases ho:i=s.size
 ·have hE:=expEnd_out (s:=s) (i:=i) (by omega);subst ho;go_enter Tryz.func236,Tryz.ntmps236;go_wp2_with fail;go_ret;exact⟨ret_int (by rw[hE]),rfl⟩
 ·have hlt:i<s.size:=by omega
  have hne:((i:Int)==(s.size:Int))=false:=by rw[beq_eq_false_iff_ne];omega
  by_cases hEE:(s[i].toNat:Int)=101∨(s[i].toNat:Int)=69
  ·have hj: ∃j,expAt s.data.toList i=j∧Hid ((∃h:i+1<s.size,j=i+2∧((((s[i+1].toNat:Int)==43)=true)∨(((s[i+1].toNat:Int)==43)=false∧((s[i+1].toNat:Int)==45)=true)))∨(∃h:i+1<s.size,j=i+1∧((s[i+1].toNat:Int)==43)=false∧((s[i+1].toNat:Int)==45)=false)∨(¬i+1<s.size∧j=i+1)):=by
    refine⟨_,rfl,Lib.hid ?_⟩;by_cases h:i+1<s.size
    ·cases h1:((s[i+1].toNat:Int)==43)
     ·cases h2:((s[i+1].toNat:Int)==45)
      ·exact .inr (.inl ⟨h,expAt_ns (fun _=>⟨neT h1,neT h2⟩),by first|rfl|assumption,by first|rfl|assumption⟩)
      ·exact .inl ⟨h,expAt_sg h (.inr (eqT h2)),.inr ⟨by first|rfl|assumption,by first|rfl|assumption⟩⟩
     ·exact .inl ⟨h,expAt_sg h (.inl (eqT h1)),.inl (by first|rfl|assumption)⟩
    ·exact .inr (.inr ⟨h,expAt_ns (fun h'=>absurd h' h)⟩)
   obtain⟨j,hj,hJ⟩:=hj;obtain⟨k,hk⟩: ∃k,k=spanEnd digit s.data.toList j:=⟨_,rfl⟩;have hjb:=expAt_bound s.data.toList i (by rw[len_data];exact hlt);rw[hj,len_data]at hjb;obtain⟨hj1,hj2⟩:=hjb;have hY:=fun h=>expEnd_yes hlt hEE hj hk.symm h
   have hS:=fun h=>expEnd_sole hj hk.symm h
   have HK:=Lib.hid hk;have HY:=Lib.hid hY;have HS:=Lib.hid hS;clear hk hY hS hj;have hE1:(((s[i].toNat:Int) != 101)=false)∨(((s[i].toNat:Int) != 101)=true∧((s[i].toNat:Int) != 69)=false):=by
    rcases hEE with h|h<;>rw[h]<;>simp
   clear hEE;rcases hE1 with hE1|⟨hE1,hE2⟩
   all_goals
    rcases hJ.out with⟨h,rfl,hp|⟨hp,hp2⟩⟩|⟨h,rfl,hp,hp2⟩|⟨h,rfl⟩
    all_goals
     clear hJ;go_enter Tryz.func236,Tryz.ntmps236;go_wp2_with fail
     first
      |refine(num_digits s _ (i+1) (by omega) _ hs (by omega)).mono ?_
      |refine(num_digits s _ (i+2) (by omega) _ hs (by omega)).mono ?_
     rintro e w1 ⟨rfl,rfl⟩;rw[←HK.out];go_wp2_with fail
     all_goals
      go_ret
      first
       |exact⟨ret_int (by rw[HY.out (by omega)]),rfl⟩
       |exact⟨ret_int (by rw[HS.out (by omega)]),rfl⟩
  ·have h1:((s[i].toNat:Int) != 101)=true:=by rw[bne_iff_ne];omega
   have h2:((s[i].toNat:Int) != 69)=true:=by rw[bne_iff_ne];omega
   have hE:=expEnd_no hlt (by omega) (by omega);clear hEE;go_enter Tryz.func236,Tryz.ntmps236;go_wp2_with fail;go_ret;exact⟨ret_int (by rw[hE]),rfl⟩
end Go.Proofs.YtibcjfjacielbaaGreatDoor
