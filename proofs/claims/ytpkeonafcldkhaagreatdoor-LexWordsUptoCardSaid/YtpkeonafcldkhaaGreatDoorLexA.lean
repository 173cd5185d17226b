import Derived.Test.YtpkeonafcldkhaaGreatDoorProg
import Derived.Test.YtpkeonafcldkhaaGreatDoorMem
import Derived.Test.YtpkeonafcldkhaaGreatDoorPlA
/- lex: the small functions. -/
set_option linter.unusedVariables false
set_option linter.unusedSimpArgs false
namespace Go.Proofs.YtpkeonafcldkhaaGreatDoor
open Go.RowKit

theorem lex_digit (c : UInt8) (w : World) :
    Calls Tryz.prog 47 #[.int .u8 (c.toNat : Int)] w fun e w' => e = .returned (.bool (digit c)) ∧ w = w' := by
  go_enter Tryz.func47, Tryz.ntmps47
  go_wp2
  all_goals (go_ret; exact ⟨ret_bool (by rw [Bool.eq_iff_iff]; simp [digit]; omega), rfl⟩)
theorem lex_letter (c : UInt8) (w : World) :
    Calls Tryz.prog 44 #[.int .u8 (c.toNat : Int)] w fun e w' => e = .returned (.bool (letter c)) ∧ w = w' := by
  go_enter Tryz.func44, Tryz.ntmps44
  go_wp2
  all_goals (go_ret; exact ⟨ret_bool (by rw [Bool.eq_iff_iff]; simp [letter]; omega), rfl⟩)

set_option maxHeartbeats 400000 in
theorem lex_nameEnd (s : ByteArray) (i : Nat) (col : Bool) (w : World) (hs : s.size ≤ maxLen) (hi : i ≤ maxLen) :
    Calls Tryz.prog 45 #[.string s, .int .i64 (i : Int), .bool col] w fun e w' => e = .returned (.int .i64 (spanEnd (nameCh col) s.data.toList i : Nat)) ∧ w = w' := by
  unfold maxLen at hs hi
  go_enter Tryz.func45, Tryz.ntmps45
  go_wp2_with fail
  go_loop [1] (fun t => ∃ k : Nat, k ≤ 9223372036854775807 ∧ t = .int .i64 k ∧ Hid (spanEnd (nameCh col) s.data.toList k = spanEnd (nameCh col) s.data.toList i)) (fun t => s.size - (intOf t).toNat)
  case atStart => exact ⟨i, hi, rfl, rfl⟩
  case round =>
    obtain ⟨k, hk, rfl, hsp⟩ := hrel
    by_cases hlt : k < s.size
    · cases hl : letter s[k] <;> cases hd : digit s[k] <;> cases col
      all_goals
        go_wp2_with (first | (go_at_call 44; refine (lex_letter _ _).mono ?_; rintro e w' ⟨rfl, rfl⟩) | (go_at_call 47; refine (lex_digit _ _).mono ?_; rintro e w' ⟨rfl, rfl⟩))
      all_goals first
        | (go_ret; exact ⟨ret_int (by rw [← hsp.out, spanEnd_stopB hlt (by simp [nameCh, *]; try (rename_i h; simp at h; omega))]), rfl⟩)
        | (go_round
           case rel => exact ⟨k + 1, by omega, by go_num, (spanEnd_stepB hlt (by simp [nameCh, *]; try (rename_i h; simp at h; omega))).trans hsp.out⟩
           case measure => simp [intOf]; omega)
    · go_wp2_with fail
      go_ret
      exact ⟨ret_int (by rw [← hsp.out, spanEnd_end (by simpa using hlt)]), rfl⟩

set_option maxHeartbeats 400000 in
theorem lex_lower (s : ByteArray) (w : World) (hs : s.size ≤ maxLen) :
    Calls Tryz.prog 43 #[.string s] w fun e w' => e = .returned (.string ⟨(s.data.toList.map low).toArray⟩) ∧ Below w.heap.size w w' := by
  unfold maxLen at hs
  go_enter Tryz.func43, Tryz.ntmps43
  go_wp2_with (with_reducible refine wpList_bytes_of_string rfl (.tmp 6) 9 40 5 rfl s rfl Tryz.underlying9 Tryz.underlying40 Tryz.underlying5 ?_)
  intro cap w1 hcap hb1 hbel1 hsz1
  go_wp2_with fail
  go_loopw [10] (fun i wr => ∃ k : Nat, k ≤ s.size ∧ i = .int .i64 k ∧ BytesAt wr w.heap.size (lowTo s.data.toList k) ∧ Below w.heap.size w wr ∧ w.heap.size < wr.heap.size) (fun i _ => s.size - (intOf i).toNat)
  case atStart => exact ⟨0, Nat.zero_le _, rfl, by rw [lowTo_zero]; exact hb1, hbel1, hsz1⟩
  case round =>
    obtain ⟨k, hk, rfl, hb, hbel, hsz⟩ := hrel
    by_cases hlt : k < s.size
    · have hkl : k < s.data.toList.length := by rw [len_data]; exact hlt
      have hkl' : k < (lowTo s.data.toList k).length := by rw [lowTo_len]; exact hkl
      have hc : wr.cell? ⟨w.heap.size, k, none⟩ = some (.int .u8 (s[k].toNat : Int)) := by
        rw [hb.cell hkl', lowTo_at _ _ hkl, gl]
      have hf : wr.frozen? ⟨w.heap.size, k, none⟩ = false := hb.free hkl'
      by_cases hup : 65 ≤ s[k].toNat ∧ s[k].toNat ≤ 90
      · have hset := hb.set_ hkl' (low s[k])
        rw [low_up _ hup] at hset
        have hnx : BytesAt (wr.setCell ⟨w.heap.size, k, none⟩ (.int .u8 ((s[k].toNat : Int) + 32))) w.heap.size (lowTo s.data.toList (k + 1)) := by
          rw [lowTo_succ _ _ hkl, gl]; exact hset
        have HN := Lib.hid hnx
        have HB := Lib.hid hbel
        clear hset hnx hb hb1 hbel hbel1
        obtain ⟨hu1, hu2⟩ := hup
        go_wp2_with fail
        go_roundw
        case rel => exact ⟨k + 1, by omega, by go_num, HN.out, HB.out.setCell (Nat.le_refl _) _, by simpa using hsz⟩
        case measure => simp [intOf]; omega
      · have hnx : BytesAt wr w.heap.size (lowTo s.data.toList (k + 1)) := by
          rw [lowTo_same _ _ hkl (by rw [gl]; exact low_id _ hup)]; exact hb
        have HN := Lib.hid hnx
        have HB := Lib.hid hbel
        clear hnx hb hb1 hbel hbel1
        rcases (show s[k].toNat < 65 ∨ (65 ≤ s[k].toNat ∧ 90 < s[k].toNat) from by omega) with hu | ⟨hu1, hu2⟩
        all_goals
          go_wp2_with fail
          go_roundw
          case rel => exact ⟨k + 1, by omega, by go_num, HN.out, HB.out, hsz⟩
          case measure => simp [intOf]; omega
    · have hke : k = s.size := by omega
      have hlen : s.data.toList.length = s.size := len_data s
      rw [lowTo_all _ (by omega)] at hb
      have hback := run_string_of (P := Tryz.prog) hb 40 9 5 s.size cap (by simp) Tryz.underlying40 Tryz.underlying5 Tryz.underlying9
      have HB := Lib.hid hbel
      clear hlen hke hb hbel
      go_wp2_with fail
      go_ret
      exact ⟨rfl, HB.out⟩
end Go.Proofs.YtpkeonafcldkhaaGreatDoor
