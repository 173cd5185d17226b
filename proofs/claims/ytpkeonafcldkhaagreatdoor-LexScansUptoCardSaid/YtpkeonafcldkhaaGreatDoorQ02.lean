import Derived.Test.YtpkeonafcldkhaaGreatDoorQ01
import Derived.Test.YtpkeonafcldkhaaGreatDoorProg
import Derived.Shelf.Strings.Builder1
import Derived.Shelf.Small.Strs
import Derived.Shelf.Strings.Search1
import Derived.Shelf.Strings.Search2
import Derived.Shelf.Strings.Search3
/- Part of the proof of YtpkeonafcldkhaaGreatDoorCardS CardV: LexA LexB BldA. -/
set_option linter.unusedVariables false
set_option linter.unusedSimpArgs false
namespace Go.Proofs.YtpkeonafcldkhaaGreatDoor
open Go.RowKit
theorem lex_digit (c : UInt8) (w : World) :
  Calls Tryz.prog 47 #[.int .u8 (c.toNat : Int)] w fun e w' => e = .returned (.bool (digit c)) ∧ w = w' := by
 go_enter Tryz.func47, Tryz.ntmps47
 go_wp2
 all_goals (go_ret; exact ⟨ret_bool (by rw [Bool.eq_iff_iff]; simp [digit]; omega), rfl⟩)
theorem lex_letter (c : UInt8) (w : World) :
  Calls Tryz.prog 44 #[.int .u8 (c.toNat : Int)] w fun e w' => e = .returned (.bool (letter c)) ∧ w = w' := by
 go_enter Tryz.func44, Tryz.ntmps44
 go_wp2
 all_goals (go_ret; exact ⟨ret_bool (by rw [Bool.eq_iff_iff]; simp [letter]; omega), rfl⟩)
set_option maxHeartbeats 400000 in
theorem lex_nameEnd (s : ByteArray) (i : Nat) (col : Bool) (w : World) (hs : s.size ≤ maxLen) (hi : i ≤ maxLen) :
    Calls Tryz.prog 45 #[.string s, .int .i64 (i : Int), .bool col] w fun e w' => e = .returned (.int .i64 (spanEnd (nameCh col) s.data.toList i : Nat)) ∧ w = w' := by
  unfold maxLen at hs hi
  go_enter Tryz.func45, Tryz.ntmps45
  go_wp2_with fail
  go_loop [1] (fun t => ∃ k : Nat, k ≤ 9223372036854775807 ∧ t = .int .i64 k ∧ Hid (spanEnd (nameCh col) s.data.toList k = spanEnd (nameCh col) s.data.toList i)) (fun t => s.size - (intOf t).toNat)
  case atStart => exact ⟨i, hi, rfl, rfl⟩
  case round =>
    obtain ⟨k, hk, rfl, hsp⟩ := hrel
    by_cases hlt : k < s.size
    · cases hl : letter s[k] <;> cases hd : digit s[k] <;> cases col
      all_goals
        go_wp2_with (first | (go_at_call 44; refine (lex_letter _ _).mono ?_; rintro e w' ⟨rfl, rfl⟩) | (go_at_call 47; refine (lex_digit _ _).mono ?_; rintro e w' ⟨rfl, rfl⟩))
      all_goals first
        | (go_ret; exact ⟨ret_int (by rw [← hsp.out, spanEnd_stopB hlt (by simp [nameCh, *]; try (rename_i h; simp at h; omega))]), rfl⟩)
        | (go_round
           case rel => exact ⟨k + 1, by omega, by go_num, (spanEnd_stepB hlt (by simp [nameCh, *]; try (rename_i h; simp at h; omega))).trans hsp.out⟩
           case measure => simp [intOf]; omega)
    · go_wp2_with fail
      go_ret
      exact ⟨ret_int (by rw [← hsp.out, spanEnd_end (by simpa using hlt)]), rfl⟩
set_option maxHeartbeats 400000 in
theorem lex_lower (s : ByteArray) (w : World) (hs : s.size ≤ maxLen) :
  Calls Tryz.prog 43 #[.string s] w fun e w' => e = .returned (.string ⟨(s.data.toList.map low).toArray⟩) ∧ Below w.heap.size w w' := by
 unfold maxLen at hs
 go_enter Tryz.func43, Tryz.ntmps43
 go_wp2_with (with_reducible refine wpList_bytes_of_string rfl (.tmp 6) 9 40 5 rfl s rfl Tryz.underlying9 Tryz.underlying40 Tryz.underlying5 ?_)
 intro cap w1 hcap hb1 hbel1 hsz1
 go_wp2_with fail
 go_loopw [10] (fun i wr => ∃ k : Nat, k ≤ s.size ∧ i = .int .i64 k ∧ BytesAt wr w.heap.size (lowTo s.data.toList k) ∧ Below w.heap.size w wr ∧ w.heap.size < wr.heap.size) (fun i _ => s.size - (intOf i).toNat)
 case atStart => exact ⟨0, Nat.zero_le _, rfl, by rw [lowTo_zero]; exact hb1, hbel1, hsz1⟩
 case round =>
  obtain ⟨k, hk, rfl, hb, hbel, hsz⟩ := hrel
  by_cases hlt : k < s.size
  ·have hkl : k < s.data.toList.length := by rw [len_data]; exact hlt
   have hkl' : k < (lowTo s.data.toList k).length := by rw [lowTo_len]; exact hkl
   have hc : wr.cell? ⟨w.heap.size, k, none⟩ = some (.int .u8 (s[k].toNat : Int)) := by
    rw [hb.cell hkl', lowTo_at _ _ hkl, gl]
   have hf : wr.frozen? ⟨w.heap.size, k, none⟩ = false := hb.free hkl'
   by_cases hup : 65 ≤ s[k].toNat ∧ s[k].toNat ≤ 90
   ·have hset := hb.set_ hkl' (low s[k])
    rw [low_up _ hup] at hset
    have hnx : BytesAt (wr.setCell ⟨w.heap.size, k, none⟩ (.int .u8 ((s[k].toNat : Int) + 32))) w.heap.size (lowTo s.data.toList (k + 1)) := by
     rw [lowTo_succ _ _ hkl, gl]; exact hset
    have HN := Lib.hid hnx
    have HB := Lib.hid hbel
    clear hset hnx hb hb1 hbel hbel1
    obtain ⟨hu1, hu2⟩ := hup
    go_wp2_with fail
    go_roundw
    case rel => exact ⟨k + 1, by omega, by go_num, HN.out, HB.out.setCell (Nat.le_refl _) _, by simpa using hsz⟩
    case measure => simp [intOf]; omega
   ·have hnx : BytesAt wr w.heap.size (lowTo s.data.toList (k + 1)) := by
     rw [lowTo_same _ _ hkl (by rw [gl]; exact low_id _ hup)]; exact hb
    have HN := Lib.hid hnx
    have HB := Lib.hid hbel
    clear hnx hb hb1 hbel hbel1
    rcases (show s[k].toNat < 65 ∨ (65 ≤ s[k].toNat ∧ 90 < s[k].toNat) from by omega) with hu | ⟨hu1, hu2⟩
    all_goals
     go_wp2_with fail
     go_roundw
     case rel => exact ⟨k + 1, by omega, by go_num, HN.out, HB.out, hsz⟩
     case measure => simp [intOf]; omega
  ·have hke : k = s.size := by omega
   have hlen : s.data.toList.length = s.size := len_data s
   rw [lowTo_all _ (by omega)] at hb
   have hback := run_string_of (P := Tryz.prog) hb 40 9 5 s.size cap (by simp) Tryz.underlying40 Tryz.underlying5 Tryz.underlying9
   have HB := Lib.hid hbel
   clear hlen hke hb hbel
   go_wp2_with fail
   go_ret
   exact ⟨rfl, HB.out⟩
theorem lex_isLabel_nil (w : World) : Calls Tryz.prog 21 #[.string ⟨#[]⟩] w fun e w' => e = .returned (.bool false) ∧ w = w' := by
 go_enter Tryz.func21, Tryz.ntmps21
 go_wp2_with fail
 go_ret
 exact ⟨rfl, rfl⟩
set_option maxHeartbeats 400000 in
theorem lex_isLabel (s : ByteArray) (w : World) (hs : s.size ≤ maxLen) :
  Calls Tryz.prog 21 #[.string s] w fun e w' => e = .returned (.bool (isLabel s.data.toList)) ∧ w = w' := by
 cases hl : s.data.toList with
 |nil =>
  have : s = ⟨#[]⟩ := by rw [← mk_data s, hl]
  subst this
  exact lex_isLabel_nil w
 |cons c r =>
  have hsz : 0 < s.size := by rw [← len_data, hl]; simp
  have hc : s[0] = c := by rw [← gl s 0 (by rw [hl]; simp)]; simp [hl]
  have hsp := spanEnd_all (nameCh false) s.data.toList
  rw [len_data] at hsp
  have hne : (s.toList == []) = false := by rw [ByteArray.toList_eq, hl]; rfl
  have hfin : isLabel s.data.toList = (letter c && s.data.toList.all (nameCh false)) := by rw [hl]; rfl
  rw [← hl, hfin, ← hsp, ← hc]
  have hs' := hs
  unfold maxLen at hs'
  clear hfin hc hsp hl
  cases hlt : letter s[0]
  all_goals
   go_enter Tryz.func21, Tryz.ntmps21
   go_wp2_with (first | (go_at_call 44; refine (lex_letter _ _).mono ?_; rintro e w' ⟨rfl, rfl⟩) | (go_at_call 45; refine (lex_nameEnd s 0 false _ hs (by decide)).mono ?_; rintro e w' ⟨rfl, rfl⟩))
   go_ret
   exact ⟨ret_bool (by rw [Bool.eq_iff_iff]; simp; try omega), rfl⟩
theorem lex_isMetric_nil (w : World) : Calls Tryz.prog 24 #[.string ⟨#[]⟩] w fun e w' => e = .returned (.bool false) ∧ w = w' := by
 go_enter Tryz.func24, Tryz.ntmps24
 go_wp2_with fail
 go_ret
 exact ⟨rfl, rfl⟩
set_option maxHeartbeats 400000 in
theorem lex_isMetric (s : ByteArray) (w : World) (hs : s.size ≤ maxLen) :
  Calls Tryz.prog 24 #[.string s] w fun e w' => e = .returned (.bool (isMetric s.data.toList)) ∧ w = w' := by
 cases hl : s.data.toList with
 |nil =>
  have : s = ⟨#[]⟩ := by rw [← mk_data s, hl]
  subst this
  exact lex_isMetric_nil w
 |cons c r =>
  have hsz : 0 < s.size := by rw [← len_data, hl]; simp
  have hc : s[0] = c := by rw [← gl s 0 (by rw [hl]; simp)]; simp [hl]
  have hsp := spanEnd_all (nameCh true) s.data.toList
  rw [len_data] at hsp
  have hne : (s.toList == []) = false := by rw [ByteArray.toList_eq, hl]; rfl
  have hfin : isMetric s.data.toList = (!digit c && s.data.toList.all (nameCh true)) := by rw [hl]; rfl
  rw [← hl, hfin, ← hsp, ← hc]
  have hs' := hs
  unfold maxLen at hs'
  clear hfin hc hsp hl
  cases hlt : digit s[0]
  all_goals
   go_enter Tryz.func24, Tryz.ntmps24
   go_wp2_with (first | (go_at_call 47; refine (lex_digit _ _).mono ?_; rintro e w' ⟨rfl, rfl⟩) | (go_at_call 45; refine (lex_nameEnd s 0 true _ hs (by decide)).mono ?_; rintro e w' ⟨rfl, rfl⟩))
   go_ret
   exact ⟨ret_bool (by rw [Bool.eq_iff_iff]; simp; try omega), rfl⟩
theorem bld_size : (Tryz.prog.info? 68).map (·.size) = some 2 := by kernel_rfl
theorem bld_lies : liesAt Tryz.prog Tryz.prog.depth 68 (2 / Tryz.prog.cellsOf 68) 0 68 1 = true := by kernel_rfl
theorem byte_info : (Tryz.prog.info? 5).map (fun i => (i.zero, i.size, i.bytes)) = some (some (.int .u8 0), 1, 1) := by kernel_rfl
def BlkKept (w w' : World) : Prop := ∀ (g : Nat) (t : TypeId) (cs : Array Value), t ≠ 68 → t ≠ 5 → Blk w g t cs → Blk w' g t cs
theorem BlkKept.refl (w : World) : BlkKept w w := fun _ _ _ _ _ h => h
set_option maxHeartbeats 1000000 in
set_option maxRecDepth 100000 in
theorem bld_copyCheck_used (b : Nat) (w : World) (h0 : w.cell? ⟨b, 0, none⟩ = some (.pointer (some ⟨b, 0, none⟩))) :
  Calls Tryz.prog 70 #[.pointer (some ⟨b, 0, none⟩)] w fun e w' => e = .returned (.tuple #[]) ∧ w' = w := by
 obtain ⟨j, hj, _⟩ := Option.map_eq_some_iff.1 bld_size
 go_enter Tryz.func70, Tryz.ntmps70
 go_wp2
 rw [Lib.run_neq_ptr_same w _ Tryz.underlying66 hj]
 go_wp2
 go_end0
 exact ⟨rfl, rfl⟩
set_option maxHeartbeats 1000000 in
set_option maxRecDepth 100000 in
theorem bld_copyCheck_fresh (b : Nat) (w : World) (h0 : w.cell? ⟨b, 0, none⟩ = some (.pointer none)) (hsh : w.shape? b = some (68, 2)) (hfz : w.frozen? ⟨b, 0, none⟩ = false) :
  Calls Tryz.prog 70 #[.pointer (some ⟨b, 0, none⟩)] w fun e w' => e = .returned (.tuple #[]) ∧ w' = w.setCell ⟨b, 0, none⟩ (.pointer (some ⟨b, 0, none⟩)) := by
 obtain ⟨j, hj, hjs⟩ := Option.map_eq_some_iff.1 bld_size
 go_enter Tryz.func70, Tryz.ntmps70
 go_wp2
 rw [Lib.run_to_unsafe w ⟨b, 0, none⟩ Tryz.underlying66 Tryz.underlying122 hj (by rw [hjs]; decide) hsh (Nat.zero_lt_succ 1)]
 simp only [Result.andThen]
 rw [Oper.upon_value]
 go_wp2
 rw [run_callFunc_extern Tryz.func92 (by kernel_rfl) (by kernel_rfl) (by kernel_rfl) (e := Extern.AbiNoEscape.same) (by kernel_rfl)]
 rw [Lib.run_noEscape]
 simp only [Result.andThen]
 rw [Oper.upon_value]
 go_wp2
 rw [Lib.run_from_unsafe w ⟨b, 0, none⟩ Tryz.underlying122 Tryz.underlying66 hj hsh bld_lies]
 simp only [Result.andThen]
 rw [Oper.upon_value]
 go_wp2
 go_end0
 exact ⟨rfl, rfl⟩
theorem bld_copyCheck (B b : Nat) (bs : List Value) (w : World) (h : Lib.IsBuilder 68 5 B b bs w) :
  Calls Tryz.prog 70 #[.pointer (some ⟨b, 0, none⟩)] w fun e w' => e = .returned (.tuple #[]) ∧ (Lib.BuilderAt 68 5 B b (.pointer (some ⟨b, 0, none⟩)) bs w' ∧ Below B w w' ∧ BlkKept w w') := by
 rcases h with h | h
 ·refine (bld_copyCheck_fresh b w h.cell0 h.shape h.frozen0).mono ?_
  rintro e w' ⟨rfl, rfl⟩
  exact ⟨rfl, h.used _, (Below.refl B w).setCell (p := ⟨b, 0, none⟩) h.1 _, fun g t cs h1 _ hg => by
   obtain ⟨_, v, hb, _⟩ := h
   exact Blk.far hg (p := ⟨b, 0, none⟩) (Blk.ne_ (t := t) (t' := 68) hg hb h1) _⟩
 ·refine (bld_copyCheck_used b w h.cell0).mono ?_
  rintro e w' ⟨rfl, rfl⟩
  exact ⟨rfl, h, Below.refl B _, BlkKept.refl _⟩
set_option maxHeartbeats 2000000 in
set_option maxRecDepth 100000 in
theorem bld_WriteByte (B b : Nat) (bs : List Value) (c : Int) (w : World) (h : Lib.IsBuilder 68 5 B b bs w) (hlen : bs.length + 1 ≤ 140737488355328) (hBw : B ≤ w.heap.size) :
  Calls Tryz.prog 40 #[.pointer (some ⟨b, 0, none⟩), .int .u8 c] w fun e w' => e = .returned .nilIface ∧ (Lib.BuilderAt 68 5 B b (.pointer (some ⟨b, 0, none⟩)) (bs ++ [.int .u8 c]) w' ∧ Below B w w' ∧ BlkKept w w') := by
 obtain ⟨i0, hi, hz0, hz1, hz2⟩ := info_parts byte_info
 go_enter Tryz.func40, Tryz.ntmps40
 go_wp2_with (go_at_call 70; refine (bld_copyCheck B b bs _ h).mono ?_)
 rintro e w1 ⟨rfl, h1, hb1, hk1⟩
 obtain ⟨hB, v, hbk, hown, hne⟩ := h1
 have c0 : w1.cell? ⟨b, 0, none⟩ = some (.pointer (some ⟨b, 0, none⟩)) := by rw [Lib.cell_of_heap hbk]; rfl
 have c1 : w1.cell? ⟨b, 1, none⟩ = some v := by rw [Lib.cell_of_heap hbk]; rfl
 go_wp2_with (at_builtin; refine wpList_append_own _ rfl _ _ 40 rfl B 5 i0 (.int .u8 0) 1 1 Tryz.underlying40 hi hz0 hz1 hz2 rfl (by decide) _ _ _ rfl (hown.alloc _) ⟨w1.heap.size, 0, none⟩ 1 1 [.int .u8 c] rfl rfl ?c1 ?c2 ?c3 ?c4 ?c5 ?_)
 case c1 =>
  intro j u hj
  match j, hj with
  | 0, hj => simp at hj; subst hj; simp [Addr.add]
 case c2 => intro u hu; simp at hu; subst hu; rfl
 case c3 => unfold maxLen; omega
 case c4 => omega
 case c5 => have := hb1.size; simp; omega
 intro v' w2 hown' hgrow _
 have hlt : b < w1.heap.size := by
  rcases Nat.lt_or_ge b w1.heap.size with h' | h'
  ·exact h'
  ·simp [Array.getElem?_eq_none h'] at hbk
 have hb2 : w2.heap[b]? = some (.cells #[.pointer (some ⟨b, 0, none⟩), v] 68 (0, 0)) := by
  rw [hgrow.block b (by simp; omega) (fun e => hne e.symm), Lib.alloc_old w1 _ b hlt]
  exact hbk
 have d0 : w2.cell? ⟨b, 0, none⟩ = some (.pointer (some ⟨b, 0, none⟩)) := by rw [Lib.cell_of_heap hb2]; rfl
 have d1 : w2.cell? ⟨b, 1, none⟩ = some v := by rw [Lib.cell_of_heap hb2]; rfl
 have f1 : w2.frozen? ⟨b, 1, none⟩ = false := Lib.frozen_of_heap hb2 1
 obtain ⟨g, cap, rfl⟩ : ∃ g cap, v' = .slice (some ⟨g, 0, none⟩) (bs.length + 1) cap := by
  rcases hown'.2 with ⟨_, h0⟩ | ⟨g, cap, cur, hv, _⟩
  ·omega
  ·exact ⟨g, cap, hv⟩
 go_wp2
 go_ret
 refine ⟨rfl, ?_, ?_, fun g t cs h1 h2 hg => Blk.far (Blk.grown ((hk1 g t cs h1 h2 hg).alloc _) hgrow (fun e => own_blk_ne hown (hk1 g t cs h1 h2 hg) (Ne.symm h2) e.symm)) (p := ⟨b, 1, none⟩) (Blk.ne_ (t := t) (t' := 68) (hk1 g t cs h1 h2 hg) hbk h1) _⟩
 ·exact Lib.BuilderAt.put (T := 68) (e := 5) hB hb2 (bs' := bs ++ [.int .u8 c]) (by simpa using hown') (by decide)
 ·exact ((hb1.alloc (by have := hb1.size; omega) _).grown hgrow (by have := hb1.size; simp; omega) (fun k hk => (hown.lt k hk).1)).setCell (p := ⟨b, 1, none⟩) hB _
set_option maxHeartbeats 2000000 in
set_option maxRecDepth 100000 in
theorem bld_WriteString (B b : Nat) (bs : List Value) (s : ByteArray) (w : World) (h : Lib.IsBuilder 68 5 B b bs w) (hlen : bs.length + s.size ≤ 140737488355328) (hBw : B ≤ w.heap.size) :
  Calls Tryz.prog 41 #[.pointer (some ⟨b, 0, none⟩), .string s] w fun e w' => e = .returned (.tuple #[.int .i64 s.size, .nilIface]) ∧ (Lib.BuilderAt 68 5 B b (.pointer (some ⟨b, 0, none⟩)) (bs ++ Lib.strCells s) w' ∧ Below B w w' ∧ BlkKept w w') := by
 obtain ⟨i0, hi, hz0, hz1, hz2⟩ := info_parts byte_info
 go_enter Tryz.func41, Tryz.ntmps41
 go_wp2_with (go_at_call 70; refine (bld_copyCheck B b bs _ h).mono ?_)
 rintro e w1 ⟨rfl, h1, hb1, hk1⟩
 obtain ⟨hB, v, hbk, hown, hne⟩ := h1
 have c0 : w1.cell? ⟨b, 0, none⟩ = some (.pointer (some ⟨b, 0, none⟩)) := by rw [Lib.cell_of_heap hbk]; rfl
 have c1 : w1.cell? ⟨b, 1, none⟩ = some v := by rw [Lib.cell_of_heap hbk]; rfl
 go_wp2_with (at_builtin; refine Lib.wpList_append_own_string _ rfl _ _ 40 9 rfl B 5 i0 Tryz.underlying40 Tryz.underlying9 hi hz0 hz1 hz2 _ _ _ rfl hown s rfl ?c3 ?c4 ?c5 ?_)
 case c3 => unfold maxLen; omega
 case c4 => omega
 case c5 => have := hb1.size; omega
 intro v' w2 hown' hgrow _
 have hlt : b < w1.heap.size := by
  rcases Nat.lt_or_ge b w1.heap.size with h' | h'
  ·exact h'
  ·simp [Array.getElem?_eq_none h'] at hbk
 have hb2 : w2.heap[b]? = some (.cells #[.pointer (some ⟨b, 0, none⟩), v] 68 (0, 0)) := by
  rw [hgrow.block b hlt (fun e => hne e.symm)]
  exact hbk
 have d0 : w2.cell? ⟨b, 0, none⟩ = some (.pointer (some ⟨b, 0, none⟩)) := by rw [Lib.cell_of_heap hb2]; rfl
 have d1 : w2.cell? ⟨b, 1, none⟩ = some v := by rw [Lib.cell_of_heap hb2]; rfl
 have f1 : w2.frozen? ⟨b, 1, none⟩ = false := Lib.frozen_of_heap hb2 1
 obtain ⟨ao, n', cap, rfl⟩ : ∃ ao n' cap, v' = .slice ao n' cap := by
  rcases hown'.2 with ⟨hv, _⟩ | ⟨g, cap, cur, hv, _⟩
  ·exact ⟨_, _, _, hv⟩
  ·exact ⟨_, _, _, hv⟩
 go_wp2
 go_ret2
 refine ⟨rfl, ?_, ?_, fun g t cs h1 h2 hg => Blk.far (Blk.grown (hk1 g t cs h1 h2 hg) hgrow (fun e => own_blk_ne hown (hk1 g t cs h1 h2 hg) (Ne.symm h2) e.symm)) (p := ⟨b, 1, none⟩) (Blk.ne_ (t := t) (t' := 68) (hk1 g t cs h1 h2 hg) hbk h1) _⟩
 ·exact Lib.BuilderAt.put (T := 68) (e := 5) hB hb2 (bs' := bs ++ Lib.strCells s) (by simpa [Lib.strCells_length] using hown') (by decide)
 ·exact (hb1.grown hgrow (by have := hb1.size; omega) (fun k hk => (hown.lt k hk).1)).setCell (p := ⟨b, 1, none⟩) hB _
end Go.Proofs.YtpkeonafcldkhaaGreatDoor
