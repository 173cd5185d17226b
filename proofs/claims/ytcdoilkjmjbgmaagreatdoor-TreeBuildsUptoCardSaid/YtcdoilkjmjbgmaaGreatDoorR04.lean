import Derived.Test.YtcdoilkjmjbgmaaGreatDoorR03
import Derived.Deep.CutRange
/- Part of the proof of YtcdoilkjmjbgmaaGreatDoorCardR: NumA NumB. -/
set_option maxRecDepth 100000
set_option maxHeartbeats 4000000
set_option linter.unusedVariables false
set_option linter.unusedSimpArgs false
namespace Go.Proofs.YtcdoilkjmjbgmaaGreatDoor
open Go.RowKit
open Tryz
theorem oT (c:UInt8) (w:World):
  Calls prog 165 #[.int .u8 (c.toNat:Int)] w fun e w'=>e= .returned (.bool (digit c))∧w=w':=by
 go_enter func165,ntmps165;go_wp2
 all_goals (go_ret;exact⟨ah (by rw[eH];simp[digit];omega),rfl⟩)
theorem GD (c:UInt8) (w:World):
  Calls prog 163 #[.int .u8 (c.toNat:Int)] w fun e w'=>e= .returned (.bool (gX c))∧w=w':=by
 go_enter func163,ntmps163;cases hd:digit c
 all_goals
  go_wp2_with fail;refine(oT _ _).mono ?_;rintro e w' ⟨rfl,rfl⟩;rw[hd];go_wp2_with fail
 all_goals (go_ret;exact⟨ah (by rw[eH];simp[gX,hd];try omega),rfl⟩)
theorem mQ (s:ByteArray) (x:Int) (i:Nat) (hx:x=(i:Int)) (w:World) (hs:s.size≤281474976710656) (hi:i≤281474976710656):
  Calls prog 164 #[.string s,.int .i64 x,.func (.func 165) #[] #[]] w fun e w'=>e= .returned (.int .i64 (ae digit s.data.toList i:Nat))∧w=w':=by
 subst hx;go_enter func164,ntmps164;go_wp2_with fail;go_loop [1] (fun t=> ∃k:Nat,k≤562949953421312∧t= .int .i64 k∧Hid (ae digit s.data.toList k=ae digit s.data.toList i)) (fun t=>s.size-(intOf t).toNat)
 case atStart=>exact⟨i,by omega,rfl,rfl⟩
 case round=>
  obtain⟨k,hk,rfl,gV⟩:=hrel;by_cases ax:k<s.size
  ·cases hd:digit s[k]
   all_goals
    go_wp2_with (go_at_call 165;refine(oT _ _).mono ?_;rintro e w' ⟨rfl,rfl⟩)
   ·go_ret;exact⟨aH (by rw[←gV.out,gI ax hd]),rfl⟩
   ·go_round
    case rel=>exact⟨k+1,by omega,by go_num,(gH ax hd).trans gV.out⟩
    case measure=>simp[intOf];omega
  ·go_wp2_with fail;go_ret;exact⟨aH (by rw[←gV.out,bR (by simpa using ax)]),rfl⟩
theorem Ku (s:ByteArray) (x:Int) (i:Nat) (hx:x=(i:Int)) (w:World) (hs:s.size≤281474976710656) (hi:i≤281474976710656):
  Calls prog 164 #[.string s,.int .i64 x,.func (.func 163) #[] #[]] w fun e w'=>e= .returned (.int .i64 (ae gX s.data.toList i:Nat))∧w=w':=by
 subst hx;go_enter func164,ntmps164;go_wp2_with fail;go_loop [1] (fun t=> ∃k:Nat,k≤562949953421312∧t= .int .i64 k∧Hid (ae gX s.data.toList k=ae gX s.data.toList i)) (fun t=>s.size-(intOf t).toNat)
 case atStart=>exact⟨i,by omega,rfl,rfl⟩
 case round=>
  obtain⟨k,hk,rfl,gV⟩:=hrel;by_cases ax:k<s.size
  ·cases hd:gX s[k]
   all_goals
    go_wp2_with (go_at_call 163;refine(GD _ _).mono ?_;rintro e w' ⟨rfl,rfl⟩)
   ·go_ret;exact⟨aH (by rw[←gV.out,gI ax hd]),rfl⟩
   ·go_round
    case rel=>exact⟨k+1,by omega,by go_num,(gH ax hd).trans gV.out⟩
    case measure=>simp[intOf];omega
  ·go_wp2_with fail;go_ret;exact⟨aH (by rw[←gV.out,bR (by simpa using ax)]),rfl⟩
theorem qm (s:ByteArray) (x:Int) (i:Nat) (hx:x=(i:Int)) (w:World) (hs:s.size≤281474976710656) (hi:i≤s.size):
  Calls prog 166 #[.string s,.int .i64 x] w fun e w'=>e= .returned (.int .i64 (da s.data.toList i:Nat))∧w=w':=by
 subst hx;by_cases ho:i=s.size
 ·have hE:=MJ (s:=s) (i:=i) (by omega);subst ho;go_enter func166,ntmps166;go_wp2_with fail;go_ret;exact⟨aH (by rw[hE]),rfl⟩
 ·have ax:i<s.size:=by omega
  have bZ:((i:Int)==(s.size:Int))=false:=by rw[bN];omega
  by_cases hEE:(s[i].toNat:Int)=101∨(s[i].toNat:Int)=69
  ·have hj: ∃j,dH s.data.toList i=j∧Hid ((∃h:i+1<s.size,j=i+2∧((((s[i+1].toNat:Int)==43)=true)∨(((s[i+1].toNat:Int)==43)=false∧((s[i+1].toNat:Int)==45)=true)))∨(∃h:i+1<s.size,j=i+1∧((s[i+1].toNat:Int)==43)=false∧((s[i+1].toNat:Int)==45)=false)∨(¬i+1<s.size∧j=i+1)):=by
    refine⟨_,rfl,aa ?_⟩;by_cases h:i+1<s.size
    ·cases h1:((s[i+1].toNat:Int)==43)
     ·cases h2:((s[i+1].toNat:Int)==45)
      ·exact .inr (.inl ⟨h,Jt (fun _=>⟨kJ h1,kJ h2⟩),by first|rfl|assumption,by first|rfl|assumption⟩)
      ·exact .inl ⟨h,Js h (.inr (jx h2)),.inr ⟨by first|rfl|assumption,by first|rfl|assumption⟩⟩
     ·exact .inl ⟨h,Js h (.inl (jx h1)),.inl (by first|rfl|assumption)⟩
    ·exact .inr (.inr ⟨h,Jt (fun h'=>absurd h' h)⟩)
   obtain⟨j,hj,hJ⟩:=hj;obtain⟨k,hk⟩: ∃k,k=ae digit s.data.toList j:=⟨_,rfl⟩;have hjb:=nH s.data.toList i (by rw[ab];exact ax);rw[hj,ab]at hjb;obtain⟨hj1,hj2⟩:=hjb;have hY:=fun h=>MK ax hEE hj hk.symm h
   have hS:=fun h=>Kq hj hk.symm h
   have HK:=aa hk;have HY:=aa hY;have HS:=aa hS;clear hk hY hS hj;have PJ:(((s[i].toNat:Int) != 101)=false)∨(((s[i].toNat:Int) != 101)=true∧((s[i].toNat:Int) != 69)=false):=by
    rcases hEE with h|h<;>rw[h]<;>simp
   clear hEE;rcases PJ with PJ|⟨PJ,hE2⟩
   all_goals
    rcases hJ.out with⟨h,rfl,hp|⟨hp,Ay⟩⟩|⟨h,rfl,hp,Ay⟩|⟨h,rfl⟩
    all_goals
     clear hJ;go_enter func166,ntmps166;go_wp2_with fail
     first
      |refine(mQ s _ (i+1) (by omega) _ hs (by omega)).mono ?_
      |refine(mQ s _ (i+2) (by omega) _ hs (by omega)).mono ?_
     rintro e w1 ⟨rfl,rfl⟩;rw[←HK.out];go_wp2_with fail
     all_goals
      go_ret
      first
       |exact⟨aH (by rw[HY.out (by omega)]),rfl⟩
       |exact⟨aH (by rw[HS.out (by omega)]),rfl⟩
  ·have h1:((s[i].toNat:Int) != 101)=true:=by rw[jA];omega
   have h2:((s[i].toNat:Int) != 69)=true:=by rw[jA];omega
   have hE:=Qx ax (by omega) (by omega);clear hEE;go_enter func166,ntmps166;go_wp2_with fail;go_ret;exact⟨aH (by rw[hE]),rfl⟩
theorem Dj (s:ByteArray) (w:World) (hs:s.size≤281474976710656) (hh:aR s.data.toList=true):
  Calls prog 157 #[.string s] w fun e w'=>e= .returned (.int .i64 (ag s.data.toList:Nat))∧w=w':=by
 have hE:ag s.data.toList=ae gX s.data.toList 2:=by rw[ag,au hh]
 obtain⟨h2,h0,hx,h1⟩:=X5 hh;have HE:=aa hE;clear hE hh;rcases h1 with h1|⟨h1,h1'⟩
 all_goals
  go_enter func157,ntmps157;go_wp2_with fail;refine(GD _ _).mono ?_;rintro e w' ⟨rfl,rfl⟩;rw[hx];go_wp2_with fail;refine(Ku s _ 2 rfl _ hs (by omega)).mono ?_;rintro e w' ⟨rfl,rfl⟩;go_wp2_with fail;go_ret;exact⟨aH (by rw[HE.out]),rfl⟩
theorem Dk (s : ByteArray) (w : World) (hs : s.size ≤ 281474976710656) (hh : aR s.data.toList = false) :
    Calls prog 157 #[.string s] w fun e w'=>e= .returned (.int .i64 (ag s.data.toList:Nat))∧w=w':=by
  have hN:=abv hh
  have HH:=aa hh
  clear hh
  obtain⟨k,hk⟩: ∃k,ae digit s.data.toList 0=k:=⟨_,rfl⟩
  have jR:=bL digit s.data.toList 0 (dQ _)
  rw[hk,ab]at jR
  have HK:=aa hk
  clear hk
  rcases hN with h|⟨h,h1|⟨h1,⟨h2,h3⟩|⟨h2,h3⟩|⟨h2,h3,h4⟩⟩⟩
  all_goals
    go_enter func157,ntmps157
    go_wp2_with (go_at_call 163;refine(GD _ _).mono ?_;rintro e w' ⟨rfl,rfl⟩)
    refine(mQ s _ 0 rfl _ hs (by omega)).mono ?_
    rintro e w' ⟨rfl,rfl⟩
    rw[HK.out]
    go_wp2_with fail
  all_goals try
    (refine (oT _ _).mono ?_
     rintro e w' ⟨rfl,rfl⟩
     cases hd:digit s[1]
     all_goals go_wp2_with fail)
  all_goals first
    | (have hE := afv HH.out (HK.out.trans (by omega)) (by intro h h'; first | omega | (simp_all; done))
       go_ret
       exact⟨aH (by rw[hE];rfl),rfl⟩)
    | (have hE := afu HH.out HK.out (by omega) (by intro h; first | omega | (simp_all; done))
       refine(qm s _ k (by omega) _ hs (by omega)).mono ?_
       rintro e w' ⟨rfl,rfl⟩
       have HE:=aa hE
       clear hE
       go_wp2_with fail
       go_ret
       exact⟨aH (by rw[HE.out]),rfl⟩)
    | (have hE := afs HH.out HK.out (by omega) (by first | assumption | (simp_all; done)) (by omega)
       refine(mQ s _ (k+1) (by omega) _ hs (by omega)).mono ?_
       rintro e w' ⟨rfl,rfl⟩
       have h1:=aX digit s.data.toList (k+1)
       have h2:=bL digit s.data.toList (k+1) (by rw[ab];omega)
       rw[ab]at h2
       generalize ae digit s.data.toList (k+1)=m at h1 h2 hE ⊢
       have HE:=aa hE
       have hm:((m:Int)==0)=false:=by rw[bN];omega
       clear hE
       go_wp2_with fail
       refine(qm s _ m rfl _ hs (by omega)).mono ?_
       rintro e w' ⟨rfl,rfl⟩
       go_wp2_with fail
       go_ret
       exact⟨aH (by rw[HE.out]),rfl⟩)
    | (have hE := aft HH.out (HK.out.trans (by omega)) (by omega) (by first | assumption | (simp_all; done)) hd
       refine(mQ s _ 1 (by omega) _ hs (by omega)).mono ?_
       rintro e w' ⟨rfl,rfl⟩
       have h1:=aX digit s.data.toList 1
       have h2:=bL digit s.data.toList 1 (by rw[ab];omega)
       rw[ab]at h2
       generalize ae digit s.data.toList 1=m at h1 h2 hE ⊢
       have HE:=aa hE
       have hm:((m:Int)==0)=false:=by rw[bN];omega
       clear hE
       go_wp2_with fail
       refine(qm s _ m rfl _ hs (by omega)).mono ?_
       rintro e w' ⟨rfl,rfl⟩
       go_wp2_with fail
       go_ret
       exact⟨aH (by rw[HE.out]),rfl⟩)
theorem Cx (s:ByteArray) (w:World) (hs:s.size≤281474976710656):
  Calls prog 157 #[.string s] w fun e w'=>e= .returned (.int .i64 (ag s.data.toList:Nat))∧w=w':=by
 cases hh:aR s.data.toList
 ·exact Dk s w hs hh
 ·exact Dj s w hs hh
