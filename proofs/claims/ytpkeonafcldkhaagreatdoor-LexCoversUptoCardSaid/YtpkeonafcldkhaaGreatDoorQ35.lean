import Derived.Test.YtpkeonafcldkhaaGreatDoorQ28
import Derived.Test.YtpkeonafcldkhaaGreatDoorQ31
import Derived.Test.YtpkeonafcldkhaaGreatDoorQ30
import Derived.Test.YtpkeonafcldkhaaGreatDoorQ32
import Derived.Test.YtpkeonafcldkhaaGreatDoorQ34
/- Part of the proof of YtpkeonafcldkhaaGreatDoorCardS CardV: RbN RbO RdE. -/
set_option linter.unusedVariables false
set_option linter.unusedSimpArgs false
namespace Go.Proofs.YtpkeonafcldkhaaGreatDoor
open Go.RowKit
def nN (l : List UInt8) : Nat := if hexHead l = true then hexNK l l.length else (smAt l (mEnd l)).n
def nX (l : List UInt8) : Int := if hexHead l = true then 0 else rX l
theorem r02_number (s : ByteArray) (w : World) (hs : s.size ≤ 512) (h0 : numPrefix s.data.toList = s.data.toList.length) (hne : s.data.toList ≠ []) :
  Calls Tryz.prog 61 #[.string s] w (NumPost w s.size (nN s.data.toList) (nX s.data.toList)) := by
 cases hh : hexHead s.data.toList
 ·have h1 : nN s.data.toList = (smAt s.data.toList (mEnd s.data.toList)).n := by rw [nN, hh, if_neg (by simp)]
  have h2 : nX s.data.toList = rX s.data.toList := by rw [nX, hh, if_neg (by simp)]
  rw [h1, h2]
  obtain ⟨hm, _, he⟩ := shape_dec h0 hne hh
  refine r02_number_dec s w hs (fun h => ?_) _ rfl hm ?_
  ·have := (dec_noX h0 hne hh (by rw [len_data]; exact h)).1
   rwa [atB_lt h] at this
  ·rw [len_data] at he; exact he
 ·have h1 : nN s.data.toList = hexNK s.data.toList s.size := by rw [nN, hh, if_pos rfl, len_data]
  have h2 : nX s.data.toList = 0 := by rw [nX, hh, if_pos rfl]
  rw [h1, h2]
  obtain ⟨g1, _, g3, g4⟩ := shape_hex h0 hh
  rw [len_data] at g1
  refine r02_number_hex s w hs (by omega) ?_ (fun i h hi => ?_)
  ·rwa [atB_lt (by omega)] at g3
  ·have := g4.2 i hi (by rw [len_data]; exact h)
   rwa [atB_lt h] at this
theorem rX_eVal {l : List UInt8} (h0 : numPrefix l = l.length) (hne : l ≠ []) (hh : hexHead l = false) (hl : l.length ≤ 512) :
  (rX l = eVal l - ((smAt l (mEnd l)).behind : Int) ∨ (9000 ≤ rX l ∧ 9000 ≤ eVal l - ((smAt l (mEnd l)).behind : Int)) ∨ (rX l ≤ -10000 ∧ eVal l - ((smAt l (mEnd l)).behind : Int) ≤ -10000)) ∧ -2000000 ≤ rX l ∧ rX l ≤ 2000000 := by
 obtain ⟨hm, _, he⟩ := shape_dec h0 hne hh
 have hb := behind_le (l := l) (mEnd l) hm.1
 have hml := hm.1
 unfold rX eVal
 by_cases hlt : mEnd l < l.length
 ·rw [if_pos hlt, if_pos hlt]
  rcases he with he | ⟨_, he⟩
  ·omega
  ·obtain ⟨h1, h2⟩ := rAt_eAt (l := l) (j := eDig l) l.length (Nat.le_of_lt he.some) (Nat.le_refl _) he.digs
   generalize rAt l (eDig l) l.length = r at *
   generalize eAt l (eDig l) l.length = e at *
   split <;> omega
 ·rw [if_neg hlt, if_neg hlt]
  omega
theorem nX_bound {l : List UInt8} (h0 : numPrefix l = l.length) (hne : l ≠ []) (hl : l.length ≤ 512) : -2000000 ≤ nX l ∧ nX l ≤ 2000000 := by
 unfold nX
 cases hh : hexHead l
 ·rw [if_neg (by simp)]; exact (rX_eVal h0 hne hh hl).2
 ·rw [if_pos rfl]; omega
theorem ovN_pos : 0 < ovN := Nat.lt_of_lt_of_le (show 0 < 10000000000000000000 by decide) (Nat.le_of_lt ovN_big)
theorem verdict {l : List UInt8} (h0 : numPrefix l = l.length) (hne : l ≠ []) (hl : l.length ≤ 512) :
  (nN l = 0 → huge l = false) ∧ (nN l ≠ 0 → 400 < nX l → huge l = true) ∧ (nX l < -1000 → huge l = false) ∧ (-1000 ≤ nX l → nX l ≤ 400 → (huge l = true ↔ ovN * 10 ^ (-nX l).toNat ≤ nN l * 10 ^ (nX l).toNat)) := by
 have hi := huge_iff h0 hne hl
 unfold tooBig at hi
 cases hh : hexHead l
 ·have e1 : nN l = (smAt l (mEnd l)).n := by rw [nN, hh, if_neg (by simp)]
  have e2 : nX l = rX l := by rw [nX, hh, if_neg (by simp)]
  rw [if_neg (by rw [hh]; simp)] at hi
  obtain ⟨hm, _, _⟩ := shape_dec h0 hne hh
  have hml := hm.1
  have hn := smAt_lt hm (mEnd l) (Nat.le_refl _)
  obtain ⟨hx, _⟩ := rX_eVal h0 hne hh hl
  rw [e1, e2]
  have hN : ∀ b : Bool, ¬ b = true → b = false := by decide
  generalize (smAt l (mEnd l)).n = N at *
  generalize rX l = R at *
  generalize eVal l - ((smAt l (mEnd l)).behind : Int) = X at *
  have hn5 : N ≤ 10 ^ 512 := Nat.le_trans (Nat.le_of_lt hn) (pw_le _ 512 (by omega))
  refine ⟨fun hz => hN _ fun h => ?_, fun hz hg => ?_, fun hg => hN _ fun h => ?_, fun g1 g2 => ?_⟩
  ·subst hz; exact ov_zero (hi.1 h)
  ·refine hi.2 (ov_big (a := 0) (by rw [Nat.pow_zero]; omega) ?_)
   rcases hx with hx | hx | hx <;> omega
  ·refine ov_small (a := 512) hn5 ?_ (hi.1 h)
   rcases hx with hx | hx | hx <;> omega
  ·have : R = X := by rcases hx with hx | hx | hx <;> omega
   subst this
   exact hi
 ·have e1 : nN l = hexNK l l.length := by rw [nN, hh, if_pos rfl]
  have e2 : nX l = 0 := by rw [nX, hh, if_pos rfl]
  rw [if_pos hh] at hi
  rw [e1, e2]
  have hN : ∀ b : Bool, ¬ b = true → b = false := by decide
  have hp := ovN_pos
  refine ⟨fun hz => hN _ fun h => ?_, fun hz hg => ?_, fun hg => ?_, fun g1 g2 => ?_⟩
  ·have := hi.1 h; rw [hz] at this; exact absurd hp (Nat.not_lt.2 this)
  ·exact absurd hg (by decide)
  ·exact absurd hg (by decide)
  ·rw [show (-(0 : Int)).toNat = 0 from rfl, show (0 : Int).toNat = 0 from rfl, Nat.pow_zero, Nat.mul_one, Nat.mul_one]
   exact hi
def R02Post (w : World) (l : List UInt8) (e : Ending) (w' : World) : Prop :=
 ∃ x, e = .returned (.tuple #[.float .f64 x, .int .i64 (numErr l : Int)]) ∧ Below w.heap.size w w'
theorem word_inf (s : ByteArray) (w : World) : Calls Tryz.prog 59 #[.string s, .string { data := #[105, 110, 102] }] w fun e w' => e = .returned (.bool (isWord3 s.data.toList 105 110 102)) ∧ ∃ d, w' = w.drewN d :=
 r02_word s { data := #[105, 110, 102] } w rfl (by decide) _ (word_is s 105 110 102 (by decide) (by decide) (by decide))
theorem word_nan (s : ByteArray) (w : World) : Calls Tryz.prog 59 #[.string s, .string { data := #[110, 97, 110] }] w fun e w' => e = .returned (.bool (isWord3 s.data.toList 110 97 110)) ∧ ∃ d, w' = w.drewN d :=
 r02_word s { data := #[110, 97, 110] } w rfl (by decide) _ (word_is s 110 97 110 (by decide) (by decide) (by decide))
theorem r02Post_of {w w' : World} {l : List UInt8} {x n : Nat} (h : numErr l = n) (hb : Below w.heap.size w w') : R02Post w l (.returned (.tuple #[.float .f64 x, .int .i64 (n : Int)])) w' := ⟨x, by rw [h], hb⟩
set_option maxRecDepth 100000 in
set_option maxHeartbeats 4000000 in
theorem r02_Read (s : ByteArray) (w : World) (hs : s.size ≤ maxLen) :
  Calls Tryz.prog 37 #[.string s] w (R02Post w s.data.toList) := by
 unfold maxLen at hs
 by_cases h1 : 512 < s.size
 ·have hE : numErr s.data.toList = 1 := by rw [numErr, if_pos (by rw [len_data]; exact h1)]
  have HE := Lib.hid hE
  clear hE
  go_enter Tryz.func37, Tryz.ntmps37
  go_wp2_with fail
  go_ret2
  exact r02Post_of HE.out (Below.refl _ _)
 ·have HL : Hid (¬ 512 < s.data.toList.length) := Lib.hid (by rw [len_data]; exact h1)
  cases hw1 : isWord3 s.data.toList 105 110 102
  ·cases hw2 : isWord3 s.data.toList 110 97 110
   ·by_cases hbad : s.data.toList = [] ∨ numPrefix s.data.toList ≠ s.data.toList.length
    ·have hE : numErr s.data.toList = 20 := by rw [numErr, if_neg HL.out, hw1, hw2, if_neg (by simp), if_pos hbad]
     have HE := Lib.hid hE
     clear hE
     by_cases hz : s.size = 0
     ·go_enter Tryz.func37, Tryz.ntmps37
      go_wp2_with fail
      refine (word_inf s w).mono ?_
      rintro e w' ⟨rfl, d, rfl⟩
      rw [hw1]
      go_wp2_with fail
      refine (word_nan s _).mono ?_
      rintro e w' ⟨rfl, d2, rfl⟩
      rw [hw2, World.drewN_drewN]
      go_wp2_with fail
      go_ret2
      exact r02Post_of HE.out (Go.below_drewN (Below.refl _ _) _)
     ·have hnp : ¬ numPrefix s.data.toList = s.size := by
       rcases hbad with h | h
       ·exact absurd (by rw [← len_data, h]; rfl) hz
       ·rwa [len_data] at h
      obtain ⟨np, hnp'⟩ : ∃ n, n = numPrefix s.data.toList := ⟨_, rfl⟩
      have HNP := Lib.hid hnp'
      rw [← hnp'] at hnp
      clear hbad hnp'
      have p1 : ((np : Int) != (s.size : Int)) = true := bne_iff_ne.2 (by omega)
      have p2 : ((s.size : Int) == 0) = false := beq_eq_false_iff_ne.2 (by omega)
      go_enter Tryz.func37, Tryz.ntmps37
      go_wp2_with fail
      refine (word_inf s w).mono ?_
      rintro e w' ⟨rfl, d, rfl⟩
      rw [hw1]
      go_wp2_with fail
      refine (word_nan s _).mono ?_
      rintro e w' ⟨rfl, d2, rfl⟩
      rw [hw2, World.drewN_drewN]
      go_wp2_with (go_at_call 57; refine (r02_Prefix s _ (by omega)).mono ?_; rintro e w' ⟨rfl, rfl⟩; rw [← HNP.out])
      go_ret2
      exact r02Post_of HE.out (Go.below_drewN (Below.refl _ _) _)
    ·rw [not_or, Decidable.not_not] at hbad
     obtain ⟨hne, hnp⟩ := hbad
     have hE : numErr s.data.toList = if huge s.data.toList = true then 21 else 0 := by rw [numErr, if_neg HL.out, hw1, hw2, if_neg (by simp), if_neg (by rw [not_or, Decidable.not_not]; exact ⟨hne, hnp⟩)]
     have HE := Lib.hid hE
     have HV := Lib.hid (verdict hnp hne (Nat.le_of_not_lt HL.out))
     have HB := Lib.hid (nX_bound hnp hne (Nat.le_of_not_lt HL.out))
     have HNP := Lib.hid (And.intro hnp hne)
     have hz : ¬ s.size = 0 := by rw [← len_data]; exact fun h => hne (List.length_eq_zero_iff.1 h)
     clear hE
     have hnum : ∀ w1, Calls Tryz.prog 61 #[.string s] w1 (NumPost w1 s.size (nN s.data.toList) (nX s.data.toList)) := fun w1 => r02_number s w1 (by omega) hnp hne
     have HNUM := Lib.hid hnum
     clear hnum
     have hnp2 : numPrefix s.data.toList = s.size := by rw [hnp, len_data]
     have HNP2 := Lib.hid hnp2
     clear hnp hne hnp2
     generalize hX : nX s.data.toList = X at HV HB HNUM
     generalize hN : nN s.data.toList = N at HV HNUM
     clear hX hN
     have bX := HB.out
     have p2 : ((s.size : Int) == 0) = false := beq_eq_false_iff_ne.2 (by omega)
     go_enter Tryz.func37, Tryz.ntmps37
     go_wp2_with fail
     refine (word_inf s w).mono ?_
     rintro e w' ⟨rfl, d, rfl⟩
     rw [hw1]
     go_wp2_with fail
     refine (word_nan s _).mono ?_
     rintro e w' ⟨rfl, d2, rfl⟩
     rw [hw2, World.drewN_drewN]
     go_wp2_with (go_at_call 57; refine (r02_Prefix s _ (by omega)).mono ?_; rintro e w' ⟨rfl, rfl⟩; rw [HNP2.out])
     refine (HNUM.out _).mono ?_
     rintro e w2 ⟨v, es, rfl, hI⟩
     have hbel : Below w.heap.size w w2 := (Go.below_drewN (Below.refl _ w) _).trans hI.below
     obtain ⟨ao, cap, rfl, hcell⟩ := hI.r
     have hr2 : BigR w2 (.slice ao es.length cap) es := ⟨ao, cap, rfl, hcell⟩
     have HI := Lib.hid (And.intro hr2 (And.intro hI.ok (And.intro hI.norm (And.intro hI.val (And.intro hI.len hbel)))))
     have bl : es.length ≤ s.size := hI.len
     clear hI hbel hcell hr2
     by_cases he0 : es.length = 0
     ·have p3 : ((es.length : Int) == 0) = true := beq_iff_eq.2 (by omega)
      have hN0 : N = 0 := by rw [← HI.out.2.2.2.1, List.length_eq_zero_iff.1 he0]; rfl
      have hE0 : numErr s.data.toList = 0 := by rw [HE.out, HV.out.1 hN0, if_neg (by simp)]
      have HE0 := Lib.hid hE0
      clear hE0 hN0
      go_wp2_with fail
      go_ret2
      exact r02Post_of HE0.out HI.out.2.2.2.2.2
     ·have p3 : ((es.length : Int) == 0) = false := beq_eq_false_iff_ne.2 (by omega)
      have hN0 : N ≠ 0 := by
       have := norm_ge HI.out.2.2.1 (by omega)
       rw [← HI.out.2.2.2.1]
       have h4 : 0 < 4294967296 ^ (es.length - 1) := Nat.pow_pos (by decide)
       omega
      have HN0 := Lib.hid hN0
      clear hN0
      by_cases hx1 : 400 < X
      ·have hE0 : numErr s.data.toList = 21 := by rw [HE.out, HV.out.2.1 HN0.out hx1, if_pos rfl]
       have HE0 := Lib.hid hE0
       clear hE0
       go_wp2_with fail
       go_ret2
       exact r02Post_of HE0.out HI.out.2.2.2.2.2
      ·by_cases hx2 : X < -1000
       ·have hE0 : numErr s.data.toList = 0 := by rw [HE.out, HV.out.2.2.1 hx2, if_neg (by simp)]
        have HE0 := Lib.hid hE0
        clear hE0
        go_wp2_with fail
        go_ret2
        exact r02Post_of HE0.out HI.out.2.2.2.2.2
       ·have HX := Lib.hid (HV.out.2.2.2 (by omega) (by omega))
        by_cases hx0 : X < 0
        ·obtain ⟨k, hk⟩ : ∃ k : Nat, X = -(k : Int) := ⟨(-X).toNat, by omega⟩
         subst hk
         have q6 : (-(-(k : Int))) = (k : Int) := by omega
         have hi2 : Hid (huge s.data.toList = true ↔ ovN * 10 ^ k ≤ N) := Lib.hid (by
          have h := HX.out
          rw [Int.neg_neg, Int.toNat_natCast, show (-(k : Int)).toNat = 0 by omega, Nat.pow_zero, Nat.mul_one] at h
          exact h)
         go_wp2_with fail
         have hb1 := (Below.refl w2.heap.size w2).alloc (Nat.le_refl _) (.cells #[.int .u32 1] 92)
         refine (r02_power (w2.alloc (.cells #[.int .u32 1] 92)) k (by omega)).mono ?_
         rintro e w3 ⟨⟨v3, fs, rfl, f1, f2, f3, f4⟩, hb2⟩
         have hb3 := hb1.trans (hb2.mono hb1.size)
         have hfl : fs.length ≤ k + 1 := norm_len f3 (by rw [f2]; exact ten_lt k)
         have hn : Calls Tryz.prog 64 #[.slice ao es.length cap, v3] w3 (NearPost w3 (bigV es) (bigV fs)) :=
          r02_nearest w3 _ v3 es fs (HI.out.1.below hb3) f1.r HI.out.2.1 f4 HI.out.2.2.1 (by omega) (by omega)
         rw [f2, HI.out.2.2.2.1] at hn
         have HNR := Lib.hid hn
         have HB3 := Lib.hid (HI.out.2.2.2.2.2.trans (hb3.mono HI.out.2.2.2.2.2.size))
         clear hn hb1 hb2 hb3 f1 f2 f3 f4 hfl
         go_wp2_with fail
         refine HNR.out.mono ?_
         rintro e w4 ⟨b, rfl, n1, n2, n3⟩
         have HB4 := Lib.hid (HB3.out.trans (n3.mono HB3.out.size))
         have HB5 := Lib.hid n2
         clear n2 n3
         unfold infW at n1
         by_cases hbig : 9218868437227405312 ≤ b
         ·have p4 : ((9218868437227405312 : Int) ≤ (b : Int)) = True := eq_true (by omega)
          have hE0 : numErr s.data.toList = 21 := by rw [HE.out, if_pos (hi2.out.2 (HB5.out.1 hbig))]
          have HE0 := Lib.hid hE0
          clear hE0
          go_wp2_with fail
          go_ret2
          exact r02Post_of HE0.out HB4.out
         ·have p4 : ((9218868437227405312 : Int) ≤ (b : Int)) = False := eq_false (by omega)
          have hE0 : numErr s.data.toList = 0 := by rw [HE.out, if_neg (fun h => hbig (HB5.out.2 (hi2.out.1 h)))]
          have HE0 := Lib.hid hE0
          clear hE0
          go_wp2_with fail
          rw [run_mfrombits]
          rw [Oper.upon_value]
          go_wp2_with fail
          go_ret2
          exact r02Post_of HE0.out HB4.out
        ·obtain ⟨k, hk⟩ : ∃ k : Nat, X = (k : Int) := ⟨X.toNat, by omega⟩
         subst hk
         have hi2 : Hid (huge s.data.toList = true ↔ ovN * 1 ≤ N * 10 ^ k) := Lib.hid (by
          have h := HX.out
          rw [Int.toNat_natCast, show (-(k : Int)).toNat = 0 by omega, Nat.pow_zero] at h
          exact h)
         go_wp2_with fail
         have ho1 : BigO (w2.alloc (.cells #[.int .u32 1] 92)) w2.heap.size (.slice (some ⟨w2.heap.size, 0, none⟩) 1 1) [1] := World.ownsRow_lit (e := 92) (size := 1) w2 #[.int .u32 1] 1 (Nat.le_refl _) (by unfold maxLen; omega) rfl
         have hb1 := (Below.refl w2.heap.size w2).alloc (Nat.le_refl _) (.cells #[.int .u32 1] 92)
         refine (r02_power (w2.alloc (.cells #[.int .u32 1] 92)) k (by omega)).mono ?_
         rintro e w3 ⟨⟨v3, fs, rfl, f1, f2, f3, f4⟩, hb2⟩
         have hb3 := hb1.trans (hb2.mono hb1.size)
         have hfl : fs.length ≤ k + 1 := norm_len f3 (by rw [f2]; exact ten_lt k)
         have hp : Calls Tryz.prog 63 #[.slice ao es.length cap, v3] w3 (BigPost w3 (bigV es * bigV fs)) :=
          r02_product w3 _ v3 es fs (HI.out.1.below hb3) f1.r HI.out.2.1 f4 (by omega) (by omega)
         rw [f2, HI.out.2.2.2.1] at hp
         have HPR := Lib.hid hp
         have HB3 := Lib.hid (HI.out.2.2.2.2.2.trans (hb3.mono HI.out.2.2.2.2.2.size))
         have HD := Lib.hid (ho1.r.below hb2)
         have HFL := Lib.hid (show N * 10 ^ k < 4294967296 ^ (es.length + (k + 1)) by
          rw [← HI.out.2.2.2.1, Nat.pow_add]
          exact Nat.mul_lt_mul'' (bigV_lt es HI.out.2.1) (ten_lt k))
         clear hp hb1 hb2 hb3 f1 f2 f3 f4 hfl ho1
         go_wp2_with fail
         refine HPR.out.mono ?_
         rintro e w4 ⟨⟨v4, gs, rfl, g1, g2, g3, g4⟩, gb⟩
         have hgl : gs.length ≤ es.length + (k + 1) := norm_len g3 (by rw [g2]; exact HFL.out)
         have hn : Calls Tryz.prog 64 #[v4, .slice (some ⟨w2.heap.size, 0, none⟩) 1 1] w4 (NearPost w4 (bigV gs) (bigV [1])) :=
          r02_nearest w4 v4 _ gs [1] g1.r (HD.out.below gb) g4 (fun d hd => by simp at hd; omega) g3 (by omega) (by simp)
         rw [g2, show bigV [1] = 1 from rfl] at hn
         have HNR := Lib.hid hn
         have HB4' := Lib.hid (HB3.out.trans (gb.mono HB3.out.size))
         clear hn gb g1 g2 g3 g4 hgl
         go_wp2_with fail
         refine HNR.out.mono ?_
         rintro e w5 ⟨b, rfl, n1, n2, n3⟩
         have HB4 := Lib.hid (HB4'.out.trans (n3.mono HB4'.out.size))
         have HB5 := Lib.hid n2
         clear n2 n3
         unfold infW at n1
         by_cases hbig : 9218868437227405312 ≤ b
         ·have p4 : ((9218868437227405312 : Int) ≤ (b : Int)) = True := eq_true (by omega)
          have hE0 : numErr s.data.toList = 21 := by rw [HE.out, if_pos (hi2.out.2 (HB5.out.1 hbig))]
          have HE0 := Lib.hid hE0
          clear hE0
          go_wp2_with fail
          go_ret2
          exact r02Post_of HE0.out HB4.out
         ·have p4 : ((9218868437227405312 : Int) ≤ (b : Int)) = False := eq_false (by omega)
          have hE0 : numErr s.data.toList = 0 := by rw [HE.out, if_neg (fun h => hbig (HB5.out.2 (hi2.out.1 h)))]
          have HE0 := Lib.hid hE0
          clear hE0
          go_wp2_with fail
          rw [run_mfrombits]
          rw [Oper.upon_value]
          go_wp2_with fail
          go_ret2
          exact r02Post_of HE0.out HB4.out
   ·have hE : numErr s.data.toList = 0 := by rw [numErr, if_neg HL.out, hw2, if_pos (by simp)]
    have HE := Lib.hid hE
    clear hE
    go_enter Tryz.func37, Tryz.ntmps37
    go_wp2_with fail
    refine (word_inf s w).mono ?_
    rintro e w' ⟨rfl, d, rfl⟩
    rw [hw1]
    go_wp2_with fail
    refine (word_nan s _).mono ?_
    rintro e w' ⟨rfl, d2, rfl⟩
    rw [hw2, World.drewN_drewN]
    go_wp2_with fail
    rw [run_mfrombits]
    rw [Oper.upon_value]
    go_wp2_with fail
    go_ret2
    exact r02Post_of HE.out (Go.below_drewN (Below.refl _ _) _)
  ·have hE : numErr s.data.toList = 0 := by rw [numErr, if_neg HL.out, hw1, if_pos (by simp)]
   have HE := Lib.hid hE
   clear hE
   go_enter Tryz.func37, Tryz.ntmps37
   go_wp2_with fail
   refine (word_inf s w).mono ?_
   rintro e w' ⟨rfl, d, rfl⟩
   rw [hw1]
   go_wp2_with fail
   rw [run_mfrombits]
   rw [Oper.upon_value]
   go_wp2_with fail
   go_ret2
   exact r02Post_of HE.out (Go.below_drewN (Below.refl _ _) _)
theorem LexSt.from {base : Nat} {w0 : World} {p : Nat} {s : ByteArray} {at' : Nat} {br sq : Bool} {v : Value} {ts : List Tok} {w w' : World} (h : LexSt base w0 p s at' br sq v ts w) (hb : Below w.heap.size w w') : LexSt base w0 p s at' br sq v ts w' :=
 ⟨Blk.below h.z hb h.z.lt, own_belowT h.own hb, h.below.trans (hb.mono (Nat.le_of_lt (Nat.lt_of_le_of_lt h.bp h.z.lt))), h.bp⟩
theorem LexSt.fail {base : Nat} {w0 : World} {p : Nat} {s : ByteArray} {at' : Nat} {br sq : Bool} {v : Value} {ts : List Tok} {w : World} (h : LexSt base w0 p s at' br sq v ts w) {er : Nat} {y : Int} (hy : y = (er : Int)) : LZ (w.setCell ⟨p, 5, none⟩ (.int .i64 y)) p s at' br sq v er ∧ Below base w0 (w.setCell ⟨p, 5, none⟩ (.int .i64 y)) := by
 subst hy
 refine ⟨?_, h.below.setCell (p := ⟨p, 5, none⟩) h.bp _⟩
 have := Blk.set_ h.z 5 (.int .i64 (er : Int))
 simpa [LZ] using this
theorem numFault_all (l : List UInt8) : numFault l = (letter (atB l (numLen l)) || digit (atB l (numLen l)) || (atB l (numLen l)).toNat == 46) := by
 unfold numFault
 by_cases h : numLen l < l.length
 ·rw [decide_eq_true h, Bool.true_and]
 ·rw [decide_eq_false h, Bool.false_and, atB_ge (by omega)]; rfl
theorem numberR_all {l : List UInt8} {br sq : Bool} {k n E : Nat} {c : UInt8} (hk : numKind l = k) (hn : numLen l = n) (hE : numBad l = E) (hc : atB l n = c) :
    numberR l br sq = if E ≠ 0 ∨ letter c = true ∨ digit c = true ∨ c.toNat = 46 then .bad 112 else .tok k n br sq := by
  have hf := numFault_all l
  rw [hn, hc] at hf
  by_cases h : letter c = true ∨ digit c = true ∨ c.toNat = 46
  · have hf2 : numFault l = true := by
      rw [hf]
      rcases h with h | h | h <;> simp [h]
    rw [numberR_fault hf2, if_pos (.inr h)]
  · have hf2 : numFault l = false := by
      rw [hf]
      simp only [not_or, Bool.not_eq_true] at h
      simp [h]
    by_cases hE0 : E = 0
    · rw [numberR_ok hk hn hf2 (by omega), if_neg (by rintro (h2 | h2); · exact h2 hE0
                                                      · exact h h2)]
    · rw [numberR_bad hf2 (by omega), if_pos (.inl hE0)]
set_option maxRecDepth 100000 in
set_option maxHeartbeats 4000000 in
theorem r11_number (w : World) (base p : Nat) (s : ByteArray) (at' : Nat) (br sq : Bool) (v : Value) (ts : List Tok) (w0 : World) (hs : s.size ≤ 281474976710656) (hat : at' < s.size) (h : LexSt base w0 p s at' br sq v ts w) (hlen : ts.length ≤ 1099511627776) :
  Calls Tryz.prog 34 #[.pointer (some ⟨p, 0, none⟩)] w (LexPost base w0 p s at' ts (numberR (s.data.toList.drop at') br sq)) := by
 obtain ⟨t, ht⟩ : ∃ t, t = s.extract at' s.size := ⟨_, rfl⟩
 have htd : t.data.toList = s.data.toList.drop at' := by rw [ht, extract_from]
 have hts : t.size = s.size - at' := by rw [ht]; simp
 obtain ⟨Q, hQ⟩ : ∃ Q : Ending → World → Prop, Q = LexPost base w0 p s at' ts (numberR (s.data.toList.drop at') br sq) := ⟨_, rfl⟩
 rw [← hQ]
 rw [← htd] at hQ
 have c0 : w.cell? ⟨p, 0, none⟩ = some (.string s) := by rw [h.z.cell]; rfl
 have c1 : w.cell? ⟨p, 1, none⟩ = some (.int .i64 (at' : Int)) := by rw [h.z.cell]; rfl
 have q1 : ((at' : Int) ≤ (s.size : Int)) = True := by simp; omega
 have H := Lib.hid h
 have HQ := Lib.hid hQ
 have HT := Lib.hid ht
 have HTD := Lib.hid htd
 have hts2 : t.size ≤ s.size := by omega
 have HTS := Lib.hid hts
 clear h hQ htd hts ht
 go_enter Tryz.func34, Tryz.ntmps34
 go_wp2_with fail
 go_quiet (fail)
 have HS := Lib.hid (H.out.drewN nq)
 clear H c0 c1
 generalize w.drewN nq = w2 at HS ⊢
 rw [← HT.out]
 clear HT
 go_wp2_with fail
 refine (r03_Prefix t _ (by omega)).mono ?_
 rintro e w3 ⟨rfl, rfl⟩
 have hd1 := spanPrefix_le t.data.toList
 have hn1 := numPrefix_le t.data.toList
 rw [len_data] at hd1 hn1
 have hsp := fun sp => @num_span t.data.toList sp
 have hnn := fun np => @num_num t.data.toList np
 obtain ⟨d, hd⟩ : ∃ d, d = spanPrefix t.data.toList := ⟨_, rfl⟩
 obtain ⟨n, hn⟩ : ∃ n, n = numPrefix t.data.toList := ⟨_, rfl⟩
 rw [← hd] at hd1 ⊢
 rw [← hn] at hn1
 have HD := Lib.hid hd
 have HN := Lib.hid hn
 have HSP := Lib.hid hsp
 have HNN := Lib.hid hnn
 clear hd hsp hnn hn
 go_wp2_with fail
 refine (r02_Prefix t _ (by omega)).mono ?_
 rintro e w3 ⟨rfl, rfl⟩
 rw [← HN.out]
 by_cases hlt : n < d
 ·obtain ⟨hk, hl, hb⟩ := HSP.out d HD.out.symm (by rw [← HN.out]; exact hlt)
  obtain ⟨u, hu⟩ : ∃ u, u = t.extract 0 d := ⟨_, rfl⟩
  have hud : u.data.toList = t.data.toList.take d := by rw [hu, extract_to]
  have hus : u.size ≤ s.size := by rw [hu]; simp; omega
  obtain ⟨c, hc⟩ : ∃ c, c = atB t.data.toList d := ⟨_, rfl⟩
  obtain ⟨E, hE⟩ : ∃ E, E = (spanParse u.data.toList).2 := ⟨_, rfl⟩
  have hR := numberR_all (br := br) (sq := sq) hk hl hb hc.symm
  rw [← hud, ← hE] at hR
  have HR := Lib.hid hR
  have HU := Lib.hid hu
  have HA : Hid (∀ w, Calls Tryz.prog 33 #[.string t, .int .i64 (d : Int)] w fun e w' => e = .returned (.int .u8 (c.toNat : Int)) ∧ w = w') := Lib.hid (fun w => r11_at' t _ d rfl c hc.symm w (by unfold maxLen; omega))
  have HP : Hid (∀ w, Calls Tryz.prog 38 #[.string u] w fun e w' => e = .returned (.tuple #[.int .i64 ((spanParse u.data.toList).1 : Nat), .int .i64 (E : Nat)]) ∧ w = w') := Lib.hid (fun w => by rw [hE]; exact r03_Parse u w (by unfold maxLen; omega))
  clear hk hl hb hR hc hE hud hu
  go_wp2_with fail
  rw [← HU.out]
  refine (HP.out _).mono ?_
  rintro e w3 ⟨rfl, rfl⟩
  have f5 : w2.frozen? ⟨p, 5, none⟩ = false := HS.out.z.frozen 5
  have c5 : w2.cell? ⟨p, 5, none⟩ = some (.int .i64 0) := by rw [HS.out.z.cell]; rfl
  go_wp2_with fail
  refine (HA.out _).mono ?_
  rintro e w3 ⟨rfl, rfl⟩
  cases hE0 : ((E : Int) != 0)
  ·cases hl : letter c
   ·cases hd : digit c
    ·cases h46 : ((c.toNat : Int) == 46)
     ·have HK : Hid (numberR t.data.toList br sq = .tok 4 d br sq) := Lib.hid (by
       rw [HR.out, if_neg]
       rintro (h | h | h | h)
       ·exact h (bneF hE0)
       ·rw [hl] at h; cases h
       ·rw [hd] at h; cases h
       ·have := neT h46; omega)
      go_wp2_with (first | (go_at_call 30; refine (r11_letter' c false hl _).mono ?_; rintro e w' ⟨rfl, rfl⟩) | (go_at_call 32; refine (r11_digit' c false hd _).mono ?_; rintro e w' ⟨rfl, rfl⟩))
      refine (r11_take' w2 base p s at' 4 d _ _ (by rfl) rfl br sq v ts w0 hs (by have := HTS.out; omega) (by omega) HS.out hlen).mono ?_
      rintro e w5 ⟨rfl, hp5⟩
      have HP5 := Lib.hid hp5
      clear hp5
      go_wp2_with fail
      go_end0
      rw [HQ.out, HK.out]
      exact ⟨rfl, HP5.out⟩
     ·have HB : Hid (numberR t.data.toList br sq = .bad 112) := Lib.hid (by rw [HR.out, if_pos (.inr (.inr (.inr (by have := eqT h46; omega))))])
      go_wp2_with (first | (go_at_call 30; refine (r11_letter' c false hl _).mono ?_; rintro e w' ⟨rfl, rfl⟩) | (go_at_call 32; refine (r11_digit' c false hd _).mono ?_; rintro e w' ⟨rfl, rfl⟩))
      refine bodyPost_ret (results_none rfl _ _ _) rfl ?_
      rw [HQ.out, HB.out]
      exact ⟨rfl, br, sq, v, (HS.out.fail rfl).1, (HS.out.fail rfl).2⟩
    ·have HB : Hid (numberR t.data.toList br sq = .bad 112) := Lib.hid (by rw [HR.out, if_pos (.inr (.inr (.inl hd)))])
     go_wp2_with (first | (go_at_call 30; refine (r11_letter' c false hl _).mono ?_; rintro e w' ⟨rfl, rfl⟩) | (go_at_call 32; refine (r11_digit' c true hd _).mono ?_; rintro e w' ⟨rfl, rfl⟩))
     refine bodyPost_ret (results_none rfl _ _ _) rfl ?_
     rw [HQ.out, HB.out]
     exact ⟨rfl, br, sq, v, (HS.out.fail rfl).1, (HS.out.fail rfl).2⟩
   ·have HB : Hid (numberR t.data.toList br sq = .bad 112) := Lib.hid (by rw [HR.out, if_pos (.inr (.inl hl))])
    go_wp2_with (first | (go_at_call 30; refine (r11_letter' c true hl _).mono ?_; rintro e w' ⟨rfl, rfl⟩))
    refine bodyPost_ret (results_none rfl _ _ _) rfl ?_
    rw [HQ.out, HB.out]
    exact ⟨rfl, br, sq, v, (HS.out.fail rfl).1, (HS.out.fail rfl).2⟩
  ·have HB : Hid (numberR t.data.toList br sq = .bad 112) := Lib.hid (by rw [HR.out, if_pos (.inl (bneT hE0))])
   go_wp2_with fail
   refine bodyPost_ret (results_none rfl _ _ _) rfl ?_
   rw [HQ.out, HB.out]
   exact ⟨rfl, br, sq, v, (HS.out.fail rfl).1, (HS.out.fail rfl).2⟩
 ·obtain ⟨hk, hl, hb⟩ := HNN.out n HN.out.symm (by rw [← HD.out]; exact hlt)
  obtain ⟨u, hu⟩ : ∃ u, u = t.extract 0 n := ⟨_, rfl⟩
  have hud : u.data.toList = t.data.toList.take n := by rw [hu, extract_to]
  have hus : u.size ≤ s.size := by rw [hu]; simp; omega
  obtain ⟨c, hc⟩ : ∃ c, c = atB t.data.toList n := ⟨_, rfl⟩
  obtain ⟨E, hE⟩ : ∃ E, E = numErr u.data.toList := ⟨_, rfl⟩
  have hR := numberR_all (br := br) (sq := sq) hk hl hb hc.symm
  rw [← hud, ← hE] at hR
  have HR := Lib.hid hR
  have HU := Lib.hid hu
  have HA : Hid (∀ w, Calls Tryz.prog 33 #[.string t, .int .i64 (n : Int)] w fun e w' => e = .returned (.int .u8 (c.toNat : Int)) ∧ w = w') := Lib.hid (fun w => r11_at' t _ n rfl c hc.symm w (by unfold maxLen; omega))
  have HP : Hid (∀ w : World, Calls Tryz.prog 37 #[.string u] w fun e w' => ∃ x, e = .returned (.tuple #[.float .f64 x, .int .i64 (E : Int)]) ∧ Below w.heap.size w w') := Lib.hid (fun w => by rw [hE]; exact r02_Read u w (by unfold maxLen; omega))
  clear hk hl hb hR hc hE hud hu
  go_wp2_with fail
  rw [← HU.out]
  refine (HP.out _).mono ?_
  rintro e w3 ⟨x, rfl, hb3⟩
  replace HS := Lib.hid (HS.out.from hb3)
  clear hb3
  generalize w3 = w2 at HS ⊢
  have f5 : w2.frozen? ⟨p, 5, none⟩ = false := HS.out.z.frozen 5
  have c5 : w2.cell? ⟨p, 5, none⟩ = some (.int .i64 0) := by rw [HS.out.z.cell]; rfl
  go_wp2_with fail
  refine (HA.out _).mono ?_
  rintro e w3 ⟨rfl, rfl⟩
  cases hE0 : ((E : Int) != 0)
  ·cases hl : letter c
   ·cases hd : digit c
    ·cases h46 : ((c.toNat : Int) == 46)
     ·have HK : Hid (numberR t.data.toList br sq = .tok 3 n br sq) := Lib.hid (by
       rw [HR.out, if_neg]
       rintro (h | h | h | h)
       ·exact h (bneF hE0)
       ·rw [hl] at h; cases h
       ·rw [hd] at h; cases h
       ·have := neT h46; omega)
      go_wp2_with (first | (go_at_call 30; refine (r11_letter' c false hl _).mono ?_; rintro e w' ⟨rfl, rfl⟩) | (go_at_call 32; refine (r11_digit' c false hd _).mono ?_; rintro e w' ⟨rfl, rfl⟩))
      refine (r11_take' w2 base p s at' 3 n _ _ (by rfl) rfl br sq v ts w0 hs (by have := HTS.out; omega) (by omega) HS.out hlen).mono ?_
      rintro e w5 ⟨rfl, hp5⟩
      have HP5 := Lib.hid hp5
      clear hp5
      go_wp2_with fail
      go_end0
      rw [HQ.out, HK.out]
      exact ⟨rfl, HP5.out⟩
     ·have HB : Hid (numberR t.data.toList br sq = .bad 112) := Lib.hid (by rw [HR.out, if_pos (.inr (.inr (.inr (by have := eqT h46; omega))))])
      go_wp2_with (first | (go_at_call 30; refine (r11_letter' c false hl _).mono ?_; rintro e w' ⟨rfl, rfl⟩) | (go_at_call 32; refine (r11_digit' c false hd _).mono ?_; rintro e w' ⟨rfl, rfl⟩))
      refine bodyPost_ret (results_none rfl _ _ _) rfl ?_
      rw [HQ.out, HB.out]
      exact ⟨rfl, br, sq, v, (HS.out.fail rfl).1, (HS.out.fail rfl).2⟩
    ·have HB : Hid (numberR t.data.toList br sq = .bad 112) := Lib.hid (by rw [HR.out, if_pos (.inr (.inr (.inl hd)))])
     go_wp2_with (first | (go_at_call 30; refine (r11_letter' c false hl _).mono ?_; rintro e w' ⟨rfl, rfl⟩) | (go_at_call 32; refine (r11_digit' c true hd _).mono ?_; rintro e w' ⟨rfl, rfl⟩))
     refine bodyPost_ret (results_none rfl _ _ _) rfl ?_
     rw [HQ.out, HB.out]
     exact ⟨rfl, br, sq, v, (HS.out.fail rfl).1, (HS.out.fail rfl).2⟩
   ·have HB : Hid (numberR t.data.toList br sq = .bad 112) := Lib.hid (by rw [HR.out, if_pos (.inr (.inl hl))])
    go_wp2_with (first | (go_at_call 30; refine (r11_letter' c true hl _).mono ?_; rintro e w' ⟨rfl, rfl⟩))
    refine bodyPost_ret (results_none rfl _ _ _) rfl ?_
    rw [HQ.out, HB.out]
    exact ⟨rfl, br, sq, v, (HS.out.fail rfl).1, (HS.out.fail rfl).2⟩
  ·have HB : Hid (numberR t.data.toList br sq = .bad 112) := Lib.hid (by rw [HR.out, if_pos (.inl (bneT hE0))])
   go_wp2_with fail
   refine bodyPost_ret (results_none rfl _ _ _) rfl ?_
   rw [HQ.out, HB.out]
   exact ⟨rfl, br, sq, v, (HS.out.fail rfl).1, (HS.out.fail rfl).2⟩
end Go.Proofs.YtpkeonafcldkhaaGreatDoor
