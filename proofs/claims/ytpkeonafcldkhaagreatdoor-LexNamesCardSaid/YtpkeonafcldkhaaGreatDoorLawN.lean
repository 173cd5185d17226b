import Derived.Test.YtpkeonafcldkhaaGreatDoorLawA
import Derived.Deep.CutRange
/- weirlaw11: LexNames. -/
set_option linter.unusedVariables false
set_option linter.unusedSimpArgs false
namespace Go.Proofs.YtpkeonafcldkhaaGreatDoor
open Go.RowKit

/-- Nothing is asked of num.Read. -/
theorem noNum : NumT (fun _ => False) (fun _ _ => True) := ⟨fun _ _ => trivial, fun _ _ => trivial, fun _ _ _ h => h.elim⟩
def allW : List (List UInt8) := [[97, 110, 100], [97, 118, 103], [98, 111, 111, 108], [98, 111, 116, 116, 111, 109, 107], [98, 121], [99, 111, 117, 110, 116], [99, 111, 117, 110, 116, 95, 118, 97, 108, 117, 101, 115], [103, 114, 111, 117, 112], [103, 114, 111, 117, 112, 95, 108, 101, 102, 116], [103, 114, 111, 117, 112, 95, 114, 105, 103, 104, 116], [105, 103, 110, 111, 114, 105, 110, 103], [109, 97, 120], [109, 105, 110], [111, 102, 102, 115, 101, 116], [111, 110], [111, 114], [113, 117, 97, 110, 116, 105, 108, 101], [115, 116, 100, 100, 101, 118], [115, 116, 100, 118, 97, 114], [115, 117, 109], [116, 111, 112, 107], [117, 110, 108, 101, 115, 115], [119, 105, 116, 104, 111, 117, 116]]
theorem allW_ok : ∀ l ∈ allW, word l = true ∧ l.map low = l ∧ isLabel l = true ∧ l.length ≤ 12 := by decide
theorem blanks_head (m : Nat) : atB (List.replicate (m + 1) (32 : UInt8)) 0 = 32 := rfl
theorem scanF_blanks : ∀ (m p : Nat) (br sq : Bool), scanF (List.replicate m (32 : UInt8)) p br sq = ([], none)
  | 0, p, br, sq => scanF_nil p br sq
  | m + 1, p, br, sq => by
    rw [scanF_blank (by simp [List.replicate_succ]) (by rw [blanks_head]; decide)]
    rw [List.replicate_succ]
    exact scanF_blanks m (p + 1) br sq
theorem blanks_ok (ok : List UInt8 → Prop) (m k : Nat) : NumOk ok ((List.replicate m (32 : UInt8)).drop k) := by
  rw [List.drop_replicate]
  intro h
  cases hm : m - k with
  | zero =>
    rw [hm] at h
    rcases h with h | ⟨_, h, _⟩
    · exact absurd h (by decide)
    · exact absurd h (by decide)
  | succ n =>
    rw [hm] at h
    rcases h with h | ⟨h, _⟩
    · rw [blanks_head] at h; exact absurd h (by decide)
    · rw [blanks_head] at h; exact absurd h (by decide)
/-- A row of N bytes at g, the first k of them blanks. -/
def FillI (w : World) (g N k : Nat) : Prop := (∀ j, j < N → w.frozen? ⟨g, j, none⟩ = false ∧ w.cell? ⟨g, j, none⟩ = some (.int .u8 (if j < k then 32 else 0)))
theorem FillI.step {w : World} {g N k : Nat} (h : FillI w g N k) (hk : k < N) : FillI (w.setCell ⟨g, k, none⟩ (.int .u8 32)) g N (k + 1) := by
  intro j hj
  obtain ⟨h1, h2⟩ := h j hj
  refine ⟨(World.frozen?_setCell _ _ _ _).trans h1, ?_⟩
  by_cases e : j = k
  · subst e
    rw [World.cell?_setCell_same _ _ _ h2, if_pos (by omega)]
  · rw [World.cell?_setCell_other _ _ _ _ (by simp [e]), h2]
    congr 2
    by_cases h3 : j < k
    · rw [if_pos h3, if_pos (by omega)]
    · rw [if_neg h3, if_neg (by omega)]
theorem FillI.of_made {w : World} {base e g N cap : Nat} (h : w.ownsRow base e 1 (.slice (some ⟨g, 0, none⟩) N cap) N (madeCells #[Value.int .u8 0] N).toList) : FillI w g N 0 := by
  intro j hj
  refine ⟨h.frozenAt j, ?_⟩
  rw [h.cellAt j (by omega), if_neg (by omega)]
  simp [madeCells, Nat.mod_one, hj]
theorem FillI.text {w : World} {g N : Nat} (h : FillI w g N N) (o m : Nat) (hm : o + m ≤ N) : ∀ j (hj : j < (List.replicate m (32 : UInt8)).length), w.cell? ((⟨g, o, none⟩ : Addr).add j) = some (.int .u8 ((List.replicate m (32 : UInt8))[j].toNat : Int)) := by
  intro j hj
  have hj' : j < m := by simpa using hj
  rw [Addr.add_lit, (h (o + j) (by omega)).2, if_pos (by omega)]
  simp
theorem FillI.below {w w' : World} {g N k : Nat} (h : FillI w g N k) (hb : Below w.heap.size w w') (hg : g < w.heap.size) : FillI w' g N k :=
  fun j hj => ⟨(hb.frozen (p := ⟨g, j, none⟩) hg).trans (h j hj).1, (hb.cell (p := ⟨g, j, none⟩) hg).trans (h j hj).2⟩
theorem allW_at (k : Nat) (hk : k < 23) : ∃ t : ByteArray, ((allW.map fun l => Value.string ⟨l.toArray⟩).toArray)[k]? = some (.string t) ∧ word t.data.toList = true ∧ wordOut t.data.toList = t ∧ isLabel t.data.toList = true ∧ t.size ≤ 12 := by
  have hl : k < allW.length := hk
  obtain ⟨h1, h2, h3, h4⟩ := allW_ok allW[k] (List.getElem_mem hl)
  refine ⟨⟨allW[k].toArray⟩, by simp [hl], h1, ?_, h3, by simpa [ByteArray.size] using h4⟩
  rw [wordOut, h1, if_pos rfl]
  show (⟨(allW[k].map low).toArray⟩ : ByteArray) = _
  rw [h2]
theorem fill_wrap {N k : Nat} (hk : k < N) (hN : N ≤ 281474976710656) : wrap64 ((k : Int) + 1) = (k : Int) + 1 := by
  simp only [wrap64]; omega
theorem fill_measure {N k : Nat} (hk : k < N) (hN : N ≤ 281474976710656) : N - (intOf (.int .i64 (wrap64 ((k : Int) + 1)))).toNat < N - (intOf (.int .i64 (k : Int))).toNat := by
  have h1 : (intOf (.int .i64 (wrap64 ((k : Int) + 1)))).toNat = k + 1 := by rw [fill_wrap hk hN]; rfl
  have h2 : (intOf (.int .i64 (k : Int))).toNat = k := rfl
  rw [h1, h2]
  exact Nat.sub_lt_sub_left hk (Nat.lt_succ_self k)
theorem fill_next {N k : Nat} (hk : k < N) (hN : N ≤ 281474976710656) : Value.int .i64 (wrap64 ((k : Int) + 1)) = .int .i64 ((k + 1 : Nat) : Int) := by
  rw [fill_wrap hk hN]; rfl
set_option maxRecDepth 100000 in
set_option maxHeartbeats 2000000 in
theorem law_LexNames (w : World) : Calls Tryz.prog 8 #[] w fun e w' => e = .returned (.bool true) ∧ Below w.heap.size w w' := by
  obtain ⟨i0, hi0, hz0, hz1, hz2⟩ := info_parts info_u8
  obtain ⟨N, hN⟩ : ∃ N : Nat, N = 33554433 := ⟨_, rfl⟩
  have HN := Lib.hid hN
  have HLE := Lib.hid (show N ≤ 281474976710656 by rw [hN]; decide)
  have HGE := Lib.hid (show 2 ≤ N by rw [hN]; decide)
  clear hN
  go_enter Tryz.func8, Tryz.ntmps8
  go_wp2_with fail
  go_loopw [2] (fun t2 wr => ∃ k : Nat, Hid (k ≤ 23) ∧ t2 = .int .i64 (k : Int) ∧ Hid (Blk wr w.heap.size 9 ((allW.map fun l => Value.string ⟨l.toArray⟩).toArray) ∧ Below w.heap.size w wr)) (fun t2 _ => 23 - (intOf t2).toNat)
  case atStart => exact ⟨0, Lib.hid (Nat.zero_le _), rfl, Lib.hid ⟨Blk.new w _ _, (Below.refl _ _).alloc (Nat.le_refl _) _⟩⟩
  case round =>
    obtain ⟨k, hk, rfl, hB⟩ := hrel
    by_cases hi : k < 23
    · obtain ⟨t, ht, hw, hwo, hlab, hsz⟩ := allW_at k hi
      have p1 : ((k : Int) < 23) = True := by simp; omega
      have c1 : wr.cell? ⟨w.heap.size, k, none⟩ = some (.string t) := by rw [hB.out.1.cell, ht]
      have hms : t.size ≤ maxLen := by unfold maxLen; omega
      have HW := Lib.hid hw
      have HWO := Lib.hid hwo
      have HL := Lib.hid hlab
      have HM := Lib.hid hms
      clear ht hw hwo hlab hsz hms
      go_wp2_with fail
      refine (lex_word t _ HM.out).mono ?_
      rintro e w2 ⟨rfl, hb2⟩
      rw [HW.out, HWO.out]
      have hlt := hB.out.1.lt
      have HB2 := Lib.hid (And.intro (hB.out.1.below hb2 hlt) (hB.out.2.trans (hb2.mono hB.out.2.size)))
      have c2 : w2.cell? ⟨w.heap.size, k, none⟩ = some (.string t) := (hb2.cell (p := ⟨w.heap.size, k, none⟩) hlt).trans c1
      clear hb2 hB hlt
      go_wp2_with (go_at_call 21; refine (lex_isLabel t _ HM.out).mono ?_; rintro e w' ⟨rfl, rfl⟩; rw [HL.out])
      go_roundw
      case rel => exact ⟨k + 1, Lib.hid hi, (by first | rfl | (simp; done) | (apply vi'; simp only [wrap64]; omega)), HB2⟩
      case measure => simp [intOf]; omega
    · have p1 : ((k : Int) < 23) = False := by simp; omega
      have HBB := Lib.hid hB.out.2
      clear hB hk
      have HSZ := Lib.hid (show N ≤ maxLen by rw [HN.out]; decide)
      have HBY := Lib.hid (show i0.bytes * N ≤ 281474976710656 by rw [hz2, HN.out]; decide)
      go_wp2_with (at_make; refine wpList_make_full _ rfl (.const (.int .i64 33554433)) (.const (.int .i64 33554433)) 40 rfl w.heap.size 5 i0 (.int .u8 0) 1 Tryz.underlying40 hi0 hz0 hz1 .i64 .i64 33554433 33554433 N rfl rfl (by rw [HN.out]; rfl) (by rw [HN.out]; rfl) HBY.out HSZ.out HBB.out.size ?_)
      intro w2 hown hgr
      have hfill := FillI.of_made hown
      have hlt2 := (hown.lt wr.heap.size rfl).2
      have HB2 := Lib.hid (HBB.out.grown hgr HBB.out.size (by simp))
      obtain ⟨g, hg⟩ : ∃ g, g = wr.heap.size := ⟨_, rfl⟩
      have hbg : w.heap.size ≤ g := by rw [hg]; exact HBB.out.size
      rw [← hg] at hfill hlt2 ⊢
      have HF := Lib.hid hfill
      clear hown hgr hfill hg HBY HSZ HBB
      go_wp2_with fail
      go_loopw [6] (fun t6 wr => ∃ k : Nat, Hid (k ≤ N) ∧ t6 = .int .i64 (k : Int) ∧ Hid (FillI wr g N k ∧ Below w.heap.size w wr ∧ g < wr.heap.size)) (fun t6 _ => N - (intOf t6).toNat)
      case atStart => exact ⟨0, Lib.hid (Nat.zero_le _), rfl, Lib.hid ⟨HF.out, HB2.out, hlt2⟩⟩
      case round =>
        obtain ⟨k, hk, rfl, hB⟩ := hrel
        by_cases hi : k < N
        · have p2 : ((k : Int) < (N : Int)) = True := by simp; omega
          obtain ⟨f1, c1⟩ := hB.out.1 k hi
          rw [if_neg (by omega)] at c1
          have HI := Lib.hid hB.out
          clear hB
          go_wp2_with fail
          go_roundw
          case rel => exact ⟨k + 1, Lib.hid hi, (by first | rfl | (simp; done) | exact fill_next hi HLE.out), Lib.hid ⟨HI.out.1.step hi, HI.out.2.1.setCell (p := ⟨g, k, none⟩) hbg _, by simpa using HI.out.2.2⟩⟩
          case measure => exact fill_measure hi HLE.out
        · have p2 : ((k : Int) < (N : Int)) = False := by simp; omega
          have hke : k = N := by have := hk.out; omega
          obtain ⟨hI, hBl, hgl⟩ := hB.out
          rw [hke] at hI
          have HB3 := Lib.hid hBl
          have b1 := run_convert_bytes_back (P := Tryz.prog) wr 40 9 5 ⟨g, 1, none⟩ (N - 1) (List.replicate (N - 1) 32) Tryz.underlying40 Tryz.underlying5 Tryz.underlying9 (hI.text 1 (N - 1) (by have := HGE.out; omega))
          rw [List.length_replicate] at b1
          have q1 : ((1 : Int) ≤ (N : Int)) = True := by have := HGE.out; simp; omega
          have q3 : (1 = N) = False := by have := HGE.out; simp; omega
          have q4 : (N = 1) = False := by have := HGE.out; simp; omega
          have hI2 := Lib.hid hI
          clear hI hBl hB hke
          go_wp2_with fail
          have hs1 : (⟨Array.replicate (N - 1) 32⟩ : ByteArray).size = N - 1 := by simp [ByteArray.size]
          have hl1 : (⟨Array.replicate (N - 1) 32⟩ : ByteArray).data.toList = List.replicate (N - 1) 32 := by simp
          refine (lex_Scan noNum _ ⟨Array.replicate (N - 1) 32⟩ (by rw [hs1]; have := HN.out; rw [this]; decide) (fun k => by rw [hl1]; exact blanks_ok _ _ _) trivial).mono ?_
          rintro e w4 ⟨v, rfl, hown, hb4⟩
          have es : scanAll (⟨Array.replicate (N - 1) 32⟩ : ByteArray).data.toList = ([], none) := by
            rw [hl1, scanAll, if_neg (by rw [List.length_replicate, HN.out]; decide), scanF_blanks]
          rw [es] at hown ⊢
          simp only [outToks, outAt, outErr] at hown ⊢
          obtain ⟨ao, cap, rfl⟩ : ∃ ao cap, v = .slice ao 0 cap := by
            rcases hown.2 with ⟨h, _⟩ | ⟨g, cap, cur, h, _⟩
            · exact ⟨_, _, h⟩
            · exact ⟨_, _, h⟩
          have HB4 := Lib.hid (HB3.out.trans (hb4.mono HB3.out.size))
          have b2 := run_convert_bytes_back (P := Tryz.prog) w4 40 9 5 ⟨g, 0, none⟩ N (List.replicate N 32) Tryz.underlying40 Tryz.underlying5 Tryz.underlying9 ((hI2.out.below hb4 hgl).text 0 N (by omega))
          rw [List.length_replicate] at b2
          clear es hs1 hl1 hown hI2 hb4 b1
          go_wp2_with fail
          have hs1 : (⟨Array.replicate N 32⟩ : ByteArray).size = N := by simp [ByteArray.size]
          have hl1 : (⟨Array.replicate N 32⟩ : ByteArray).data.toList = List.replicate N 32 := by simp
          refine (lex_Scan noNum _ ⟨Array.replicate N 32⟩ (by rw [hs1]; have := HN.out; rw [this]; decide) (fun k => by rw [hl1]; exact blanks_ok _ _ _) trivial).mono ?_
          rintro e w5 ⟨v, rfl, hown, hb5⟩
          have es : scanAll (⟨Array.replicate N 32⟩ : ByteArray).data.toList = ([], some (0, 1)) := by
            rw [hl1, scanAll, if_pos (by rw [List.length_replicate, HN.out]; decide)]
          rw [es]
          simp only [outAt, outErr]
          have HB5 := Lib.hid (HB4.out.trans (hb5.mono HB4.out.size))
          clear es hs1 hl1 hown hb5 b2 hgl
          go_wp2_with fail
          refine (lex_word ⟨#[114, 97, 116, 101]⟩ _ (by decide)).mono ?_
          rintro e w6 ⟨rfl, hb6⟩
          have e1 : word (⟨#[114, 97, 116, 101]⟩ : ByteArray).data.toList = false := by decide
          have e2 : wordOut (⟨#[114, 97, 116, 101]⟩ : ByteArray).data.toList = ⟨#[]⟩ := by rw [wordOut, e1]; rfl
          rw [e1, e2]
          have HB6 := Lib.hid (HB5.out.trans (hb6.mono HB5.out.size))
          clear e1 e2 hb6
          go_wp2_with fail
          refine (law_alive noNum _ trivial).mono ?_
          rintro e w7 ⟨rfl, hb7⟩
          have HB7 := Lib.hid (HB6.out.trans (hb7.mono HB6.out.size))
          clear hb7
          go_wp2_with fail
          go_ret
          exact ⟨rfl, HB7.out⟩
end Go.Proofs.YtpkeonafcldkhaaGreatDoor
