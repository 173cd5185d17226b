import Derived.Test.YtibcjfjacielbaaGreatDoorP08
import Derived.Deep.CutRange
/- Part of the proof of YtibcjfjacielbaaGreatDoorCardP: NumB. -/
set_option maxRecDepth 100000
set_option maxHeartbeats 4000000
set_option linter.unusedVariables false
set_option linter.unusedSimpArgs false
namespace Go.Proofs.YtibcjfjacielbaaGreatDoor
open Go.RowKit
theorem num_Prefix_hex (s:ByteArray) (w:World) (hs:s.size≤281474976710656) (hh:hexHead s.data.toList=true):
  Calls Tryz.prog 201 #[.string s] w fun e w'=>e= .returned (.int .i64 (numPrefix s.data.toList:Nat))∧w=w':=by
 have hE:numPrefix s.data.toList=spanEnd hexd s.data.toList 2:=by rw[numPrefix,if_pos hh]
 obtain⟨h2,h0,hx,h1⟩:=hex_yes hh;have HE:=Lib.hid hE;clear hE hh;rcases h1 with h1|⟨h1,h1'⟩
 all_goals
  go_enter Tryz.func201,Tryz.ntmps201;go_wp2_with fail;refine(num_hex _ _).mono ?_;rintro e w' ⟨rfl,rfl⟩;rw[hx];go_wp2_with fail;refine(num_digitsx s _ 2 rfl _ hs (by omega)).mono ?_;rintro e w' ⟨rfl,rfl⟩;go_wp2_with fail;go_ret;exact⟨ret_int (by rw[HE.out]),rfl⟩
theorem num_Prefix_dec (s : ByteArray) (w : World) (hs : s.size ≤ 281474976710656) (hh : hexHead s.data.toList = false) :
    Calls Tryz.prog 201 #[.string s] w fun e w'=>e= .returned (.int .i64 (numPrefix s.data.toList:Nat))∧w=w':=by
  have hN:=hex_no hh
  have HH:=Lib.hid hh
  clear hh
  obtain⟨k,hk⟩: ∃k,spanEnd digit s.data.toList 0=k:=⟨_,rfl⟩
  have hkb:=spanEnd_le digit s.data.toList 0 (Nat.zero_le _)
  rw[hk,len_data]at hkb
  have HK:=Lib.hid hk
  clear hk
  rcases hN with h|⟨h,h1|⟨h1,⟨h2,h3⟩|⟨h2,h3⟩|⟨h2,h3,h4⟩⟩⟩
  all_goals
    go_enter Tryz.func201,Tryz.ntmps201
    go_wp2_with (go_at_call 233;refine(num_hex _ _).mono ?_;rintro e w' ⟨rfl,rfl⟩)
    refine(num_digits s _ 0 rfl _ hs (by omega)).mono ?_
    rintro e w' ⟨rfl,rfl⟩
    rw[HK.out]
    go_wp2_with fail
  all_goals try
    (refine (num_digit _ _).mono ?_
     rintro e w' ⟨rfl,rfl⟩
     cases hd:digit s[1]
     all_goals go_wp2_with fail)
  all_goals first
    | (have hE := dec_0 HH.out (HK.out.trans (by omega)) (by intro h h'; first | omega | (simp_all; done))
       go_ret
       exact⟨ret_int (by rw[hE];rfl),rfl⟩)
    | (have hE := dec_N HH.out HK.out (by omega) (by intro h; first | omega | (simp_all; done))
       refine(num_exponent s _ k (by omega) _ hs (by omega)).mono ?_
       rintro e w' ⟨rfl,rfl⟩
       have HE:=Lib.hid hE
       clear hE
       go_wp2_with fail
       go_ret
       exact⟨ret_int (by rw[HE.out]),rfl⟩)
    | (have hE := dec_A HH.out HK.out (by omega) (by first | assumption | (simp_all; done)) (by omega)
       refine(num_digits s _ (k+1) (by omega) _ hs (by omega)).mono ?_
       rintro e w' ⟨rfl,rfl⟩
       have h1:=spanEnd_ge digit s.data.toList (k+1)
       have h2:=spanEnd_le digit s.data.toList (k+1) (by rw[len_data];omega)
       rw[len_data]at h2
       generalize spanEnd digit s.data.toList (k+1)=m at h1 h2 hE ⊢
       have HE:=Lib.hid hE
       have hm:((m:Int)==0)=false:=by rw[beq_eq_false_iff_ne];omega
       clear hE
       go_wp2_with fail
       refine(num_exponent s _ m rfl _ hs (by omega)).mono ?_
       rintro e w' ⟨rfl,rfl⟩
       go_wp2_with fail
       go_ret
       exact⟨ret_int (by rw[HE.out]),rfl⟩)
    | (have hE := dec_C HH.out (HK.out.trans (by omega)) (by omega) (by first | assumption | (simp_all; done)) hd
       refine(num_digits s _ 1 (by omega) _ hs (by omega)).mono ?_
       rintro e w' ⟨rfl,rfl⟩
       have h1:=spanEnd_ge digit s.data.toList 1
       have h2:=spanEnd_le digit s.data.toList 1 (by rw[len_data];omega)
       rw[len_data]at h2
       generalize spanEnd digit s.data.toList 1=m at h1 h2 hE ⊢
       have HE:=Lib.hid hE
       have hm:((m:Int)==0)=false:=by rw[beq_eq_false_iff_ne];omega
       clear hE
       go_wp2_with fail
       refine(num_exponent s _ m rfl _ hs (by omega)).mono ?_
       rintro e w' ⟨rfl,rfl⟩
       go_wp2_with fail
       go_ret
       exact⟨ret_int (by rw[HE.out]),rfl⟩)
theorem num_Prefix (s:ByteArray) (w:World) (hs:s.size≤281474976710656):
  Calls Tryz.prog 201 #[.string s] w fun e w'=>e= .returned (.int .i64 (numPrefix s.data.toList:Nat))∧w=w':=by
 cases hh:hexHead s.data.toList
 ·exact num_Prefix_dec s w hs hh
 ·exact num_Prefix_hex s w hs hh
end Go.Proofs.YtibcjfjacielbaaGreatDoor
