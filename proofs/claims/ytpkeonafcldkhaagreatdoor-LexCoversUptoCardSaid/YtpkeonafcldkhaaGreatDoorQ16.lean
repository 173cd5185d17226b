import Derived.Test.YtpkeonafcldkhaaGreatDoorQ01
import Derived.Test.YtpkeonafcldkhaaGreatDoorProg
/- Part of the proof of YtpkeonafcldkhaaGreatDoorCardS CardV: RefA. -/
set_option linter.unusedVariables false
set_option linter.unusedSimpArgs false
namespace Go.Proofs.YtpkeonafcldkhaaGreatDoor
open Go.RowKit
theorem info_u8r : (Tryz.prog.info? 5).map (fun i => (i.zero, i.size, i.bytes)) = some (some (.int .u8 0), 1, 1) := by kernel_rfl
theorem r11_digit (c : UInt8) (w : World) :
  Calls Tryz.prog 32 #[.int .u8 (c.toNat : Int)] w fun e w' => e = .returned (.bool (digit c)) ∧ w = w' := by
 go_enter Tryz.func32, Tryz.ntmps32
 go_wp2
 all_goals (go_ret; exact ⟨ret_bool (by rw [Bool.eq_iff_iff]; simp [digit]; omega), rfl⟩)
theorem r11_letter (c : UInt8) (w : World) :
  Calls Tryz.prog 30 #[.int .u8 (c.toNat : Int)] w fun e w' => e = .returned (.bool (letter c)) ∧ w = w' := by
 have hc : c.toNat < 95 ∨ c.toNat = 95 ∨ 95 < c.toNat := by omega
 rcases hc with hc | hc | hc
 all_goals
  first | (have h1 : 95 ≤ c.toNat ∧ c.toNat ≤ 95 := by omega) | skip
  first | clear hc | skip
  go_enter Tryz.func30, Tryz.ntmps30
  go_wp2
  all_goals (go_ret; exact ⟨ret_bool (by rw [Bool.eq_iff_iff]; simp [letter]; omega), rfl⟩)
theorem r11_at (s : ByteArray) (i : Nat) (w : World) (_hs : s.size ≤ maxLen) :
  Calls Tryz.prog 33 #[.string s, .int .i64 (i : Int)] w fun e w' => e = .returned (.int .u8 ((atB s.data.toList i).toNat : Int)) ∧ w = w' := by
 by_cases h : i < s.size
 ·have ha := Lib.hid (atB_lt h)
  go_enter Tryz.func33, Tryz.ntmps33
  go_wp2_with fail
  go_ret
  exact ⟨ret_int (by rw [ha.out]), rfl⟩
 ·have ha := Lib.hid (atB_ge (l := s.data.toList) (i := i) (by rw [len_data]; omega))
  go_enter Tryz.func33, Tryz.ntmps33
  go_wp2_with fail
  go_ret
  exact ⟨ret_int (by rw [ha.out]; rfl), rfl⟩
set_option maxRecDepth 100000 in
set_option maxHeartbeats 400000 in
theorem r11_small (s : ByteArray) (w : World) (hs : s.size ≤ maxLen) (hs2 : s.size ≤ 281474976710656) :
  Calls Tryz.prog 46 #[.string s] w fun e w' => e = .returned (.string ⟨(s.data.toList.map low).toArray⟩) ∧ Below w.heap.size w w' := by
 have hs' := hs
 unfold maxLen at hs'
 obtain ⟨i0, hi0, hz0, hz1, hz2⟩ := info_parts info_u8r
 go_enter Tryz.func46, Tryz.ntmps46
 go_wp2_with (at_make; refine wpList_make_own _ rfl (.const (.int .i64 0)) (.tmp 7) 40 rfl w.heap.size 5 i0 (.int .u8 0) 1 Tryz.underlying40 hi0 hz0 hz1 _ _ _ s.size rfl rfl rfl (by rw [hz2]; omega) hs (Nat.le_refl _) ?_)
 intro w1 hown1 hgr1
 have hbel1 : Below w.heap.size w w1 := (Below.refl _ _).grown hgr1 (Nat.le_refl _) (by simp)
 have hlt1 : w.heap.size < w1.heap.size := (hown1.lt w.heap.size rfl).2
 go_wp2_with fail
 go_loopw [3, 4] (fun v i wr => ∃ k : Nat, k ≤ s.size ∧ i = .int .i64 k ∧ v = .slice (some ⟨w.heap.size, 0, none⟩) k s.size ∧ wr.ownsRow w.heap.size 5 1 (.slice (some ⟨w.heap.size, 0, none⟩) k s.size) k (cellsOf (lowPre s.data.toList k)) ∧ Below w.heap.size w wr ∧ w.heap.size < wr.heap.size) (fun _ i _ => s.size - (intOf i).toNat)
 case atStart => exact ⟨0, Nat.zero_le _, rfl, rfl, hown1, hbel1, hlt1⟩
 case round =>
  obtain ⟨k, hk, rfl, rfl, hown, hbel, hsz⟩ := hrel
  clear hown1 hgr1 hbel1 hlt1
  by_cases hlt : k < s.size
  ·have hkl : k < s.data.toList.length := by rw [len_data]; exact hlt
   have htk : cellsOf (lowPre s.data.toList (k + 1)) = cellsOf (lowPre s.data.toList k) ++ [.int .u8 ((low s[k]).toNat : Int)] := by
    rw [lowPre_succ _ _ hkl, gl, cellsOf_append]; rfl
   have HT := Lib.hid htk
   clear htk
   by_cases hup : 65 ≤ s[k].toNat ∧ s[k].toNat ≤ 90
   ·have HU := Lib.hid (low_up _ hup)
    obtain ⟨hu1, hu2⟩ := hup
    go_wp2_with (at_builtin; refine wpList_push_fits rfl (.tmp 26) (.tmp 28) 40 rfl w.heap.size 5 (.int .u8 0) 1 1 info_u8r Tryz.underlying40 w.heap.size k s.size _ rfl hown [.int .u8 ((s[k].toNat : Int) + 32)] rfl rfl (one1 rfl) (by omega) ?_)
    intro w2 hown2 hgr2
    have HO := Lib.hid hown2
    have HB := Lib.hid (hbel.grown hgr2 (Nat.le_of_lt hsz) (by intro g hg; cases hg; exact Nat.le_refl _))
    have hsz2 := Nat.lt_of_lt_of_le hsz hgr2.size
    clear hown2 hgr2 hown hbel
    go_wp2_with fail
    go_roundw
    case rel => exact ⟨k + 1, by omega, by go_num, rfl, by rw [HT.out, HU.out]; exact HO.out, HB.out, hsz2⟩
    case measure => simp [intOf]; omega
   ·have HU := Lib.hid (low_id _ hup)
    rcases (show s[k].toNat < 65 ∨ (65 ≤ s[k].toNat ∧ 90 < s[k].toNat) from by omega) with hu | ⟨hu1, hu2⟩
    all_goals
     go_wp2_with (at_builtin; refine wpList_push_fits rfl (.tmp 26) (.tmp 28) 40 rfl w.heap.size 5 (.int .u8 0) 1 1 info_u8r Tryz.underlying40 w.heap.size k s.size _ rfl hown [.int .u8 (s[k].toNat : Int)] rfl rfl (one1 rfl) (by omega) ?_)
     intro w2 hown2 hgr2
     have HO := Lib.hid hown2
     have HB := Lib.hid (hbel.grown hgr2 (Nat.le_of_lt hsz) (by intro g hg; cases hg; exact Nat.le_refl _))
     have hsz2 := Nat.lt_of_lt_of_le hsz hgr2.size
     clear hown2 hgr2 hown hbel
     go_wp2_with fail
     go_roundw
     case rel => exact ⟨k + 1, by omega, by go_num, rfl, by rw [HT.out, HU.out]; exact HO.out, HB.out, hsz2⟩
     case measure => simp [intOf]; omega
  ·have hke : lowPre s.data.toList k = s.data.toList.map low := by rw [lowPre, List.take_of_length_le (by rw [len_data]; omega)]
   have hlk : k = (s.data.toList.map low).length := by rw [List.length_map, len_data]; omega
   rw [hke] at hown
   have hback := run_string_of (P := Tryz.prog) (bytesAt_of_own hown) 40 9 5 k s.size hlk Tryz.underlying40 Tryz.underlying5 Tryz.underlying9
   have HB := Lib.hid hbel
   clear hke hlk hown hbel
   go_wp2_with fail
   go_ret
   exact ⟨rfl, HB.out⟩
end Go.Proofs.YtpkeonafcldkhaaGreatDoor
