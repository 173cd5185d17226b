import Derived.Test.YtpkeonafcldkhaaGreatDoorM16
import Derived.Test.YtpkeonafcldkhaaGreatDoorM17
import Derived.Laws.OwnMore
import Derived.Deep.QuietTactic
import Derived.BigQuiet
import Derived.Deep.CutBlock
import Derived.Shelf.LaysC
import Derived.Shelf.LaysM
import Derived.Shelf.Strconv.Lower
import Derived.Shelf.Strconv.ToErrorRange
import Derived.Shelf.Strconv.Itoa0
import Derived.Shelf.Strconv.Itoa1
import Derived.Shelf.Strconv.Itoa2
import Derived.Shelf.Bits.Mul64
import Derived.Test.YtpkeonafcldkhaaGreatDoorProg
import Derived.Test.YtpkeonafcldkhaaGreatDoorM05
import Derived.Laws.BitsAllLaws
import Derived.Laws.ShiftsVarLaws
import Derived.WalkKit
import Derived.WalkSpells
import Derived.WalkLawsBesides
import Derived.Lib.Hide
/- weirlaw11: alive. -/
set_option linter.unusedVariables false
set_option linter.unusedSimpArgs false
namespace Go.Proofs.YtpkeonafcldkhaaGreatDoor
open Go.RowKit

/-- No number that num.Read would be asked for stands in l, wherever one looks. -/
def headB (l : List UInt8) : Bool := digit (atB l 0) || ((atB l 0).toNat == 46 && decide (1 < l.length) && digit (atB l 1))
def quietB (l : List UInt8) : Bool := (List.range (l.length + 1)).all fun k => !headB (l.drop k) || decide (numPrefix (l.drop k) < spanPrefix (l.drop k))
theorem headB_of {l : List UInt8} (h : numHead l) : headB l = true := by
  rcases h with h | ⟨h1, h2, h3⟩
  · simp [headB, h]
  · simp [headB, h1, h2, h3]
theorem quiet_of {l : List UInt8} (h : quietB l = true) (ok : List UInt8 → Prop) (k : Nat) : NumOk ok (l.drop k) := by
  intro hh hn
  rcases Nat.lt_or_ge k (l.length + 1) with hk | hk
  · have := List.all_eq_true.1 h k (List.mem_range.2 hk)
    rw [headB_of hh] at this
    simp at this
    omega
  · have : l.drop k = [] := List.drop_eq_nil_of_le (by omega)
    rw [this] at hh
    rcases hh with h | ⟨_, h, _⟩
    · exact absurd h (by decide)
    · exact absurd h (by decide)
def tokV (t : Tok) : Int × ByteArray × Int := ((t.kind : Int), ⟨t.text.toArray⟩, (t.pos : Int))
theorem toksCells_at (ts : List Tok) : ∀ (j : Nat) (h : j < ts.length), (toksCells ts)[j * 3]? = some (.int .i64 (ts[j].kind : Int)) ∧ (toksCells ts)[j * 3 + 1]? = some (.string ⟨ts[j].text.toArray⟩) ∧ (toksCells ts)[j * 3 + 2]? = some (.int .i64 (ts[j].pos : Int)) := by
  induction ts with
  | nil => intro j h; simp at h
  | cons t r ih =>
    intro j h
    have e : toksCells (t :: r) = t.cells ++ toksCells r := by simp [toksCells]
    cases j with
    | zero => rw [e]; exact ⟨rfl, rfl, rfl⟩
    | succ j =>
      have hl : t.cells.length = 3 := rfl
      obtain ⟨a, b, c⟩ := ih j (by simpa using h)
      rw [e]
      refine ⟨?_, ?_, ?_⟩
      · rw [List.getElem?_append_right (by rw [hl]; omega), hl, show (j + 1) * 3 - 3 = j * 3 by omega]; exact a
      · rw [List.getElem?_append_right (by rw [hl]; omega), hl, show (j + 1) * 3 + 1 - 3 = j * 3 + 1 by omega]; exact b
      · rw [List.getElem?_append_right (by rw [hl]; omega), hl, show (j + 1) * 3 + 2 - 3 = j * 3 + 2 by omega]; exact c
theorem tokRow_of_own {w : World} {base e g cap : Nat} {ts : List Tok} (h : w.ownsRow base e 3 (.slice (some ⟨g, 0, none⟩) ts.length cap) ts.length (toksCells ts)) : TokRow w g 0 (ts.map tokV) := by
  refine ⟨(h.lt g rfl).2, fun j hj => ?_⟩
  have hj' : j < ts.length := by simpa using hj
  obtain ⟨a, b, c⟩ := toksCells_at ts j hj'
  have e : (ts.map tokV)[j] = tokV ts[j] := by simp
  rw [e, Nat.zero_add]
  refine ⟨?_, ?_, ?_⟩
  · rw [h.cellAt _ (by omega), a]; rfl
  · rw [h.cellAt _ (by omega), b]; rfl
  · rw [h.cellAt _ (by omega), c]; rfl
theorem tokSl_of_own {w : World} {base e : Nat} {v : Value} {ts : List Tok} (h : w.ownsRow base e 3 v ts.length (toksCells ts)) : TokSl w v (ts.map tokV) := by
  rcases h.2 with ⟨rfl, hn⟩ | ⟨g, cap, cur, rfl, _⟩
  · refine .inl ⟨rfl, ?_⟩
    rw [List.eq_nil_of_length_eq_zero hn]; rfl
  · exact .inr ⟨g, 0, cap, by simp, tokRow_of_own h⟩
theorem textsOf_toks (ts : List Tok) : textsOf (ts.map tokV) = ts.map (·.text) := by simp [textsOf, tokV]
def aliveL : List UInt8 := [97, 32, 58, 98, 61, 126, 53, 109, 49, 115, 34, 120, 34]
def aliveT : List Tok := [⟨1, [97], 0⟩, ⟨2, [58, 98], 2⟩, ⟨6, [61, 126], 4⟩, ⟨4, [53, 109, 49, 115], 6⟩, ⟨5, [34, 120, 34], 10⟩]
theorem alive_scan : scanAll aliveL = (aliveT, none) := by kernel_rfl
theorem alive_scan2 : scanAll [97, 32, 33] = ([⟨1, [97], 0⟩], some (2, 110)) := by kernel_rfl
theorem alive_join : joinL (aliveT.map (·.text)) = [97, 32, 58, 98, 32, 61, 126, 32, 53, 109, 49, 115, 32, 34, 120, 34] := by kernel_rfl
theorem alive_quiet : quietB aliveL = true := by kernel_rfl
theorem alive_quiet2 : quietB [97, 32, 33] = true := by kernel_rfl
set_option maxRecDepth 100000 in
set_option maxHeartbeats 1000000 in
theorem law_alive {ok : List UInt8 → Prop} {T : Nat → World → Prop} (hT : NumT ok T) (w : World) (hTw : T w.heap.size w) :
    Calls Tryz.prog 10 #[] w fun e w' => e = .returned (.bool true) ∧ Below w.heap.size w w' := by
  go_enter Tryz.func10, Tryz.ntmps10
  have HT := Lib.hid hTw
  clear hTw
  go_wp2_with fail
  refine (lex_Scan hT w ⟨#[97, 32, 58, 98, 61, 126, 53, 109, 49, 115, 34, 120, 34]⟩ (by decide) (quiet_of (l := aliveL) alive_quiet ok) HT.out).mono ?_
  rintro e w1 ⟨v, rfl, hown, hb1⟩
  have es : scanAll (⟨#[97, 32, 58, 98, 61, 126, 53, 109, 49, 115, 34, 120, 34]⟩ : ByteArray).data.toList = (aliveT, none) := alive_scan
  rw [es] at hown ⊢
  simp only [outToks, outAt, outErr] at hown ⊢
  have hcells := hown.2
  rcases hcells with ⟨_, h0⟩ | ⟨g, cap, cur, rfl, _⟩
  · exact absurd h0 (by decide)
  have hrow := tokSl_of_own hown
  have c3 : w1.cell? ⟨g, 3, none⟩ = some (.int .i64 2) := by rw [hown.cellAt 3 (by decide)]; rfl
  have c5 : w1.cell? ⟨g, 5, none⟩ = some (.int .i64 2) := by rw [hown.cellAt 5 (by decide)]; rfl
  have c4 : w1.cell? ⟨g, 4, none⟩ = some (.string ⟨#[58, 98]⟩) := by rw [hown.cellAt 4 (by decide)]; rfl
  have c9 : w1.cell? ⟨g, 9, none⟩ = some (.int .i64 4) := by rw [hown.cellAt 9 (by decide)]; rfl
  have c13 : w1.cell? ⟨g, 13, none⟩ = some (.string ⟨#[34, 120, 34]⟩) := by rw [hown.cellAt 13 (by decide)]; rfl
  have hl : aliveT.length = 5 := rfl
  rw [hl] at hrow ⊢
  have HR := Lib.hid hrow
  have HB := Lib.hid hb1
  have HT1 := Lib.hid (hT.mono (hT.keep HT.out hb1) hb1.size)
  clear hown hrow hb1 es
  go_wp2_with fail
  refine (lex_Scan hT _ ⟨#[97, 32, 33]⟩ (by decide) (quiet_of (l := [97, 32, 33]) alive_quiet2 ok) HT1.out).mono ?_
  rintro e w2 ⟨v2, rfl, _, hb2⟩
  have es : scanAll (⟨#[97, 32, 33]⟩ : ByteArray).data.toList = ([⟨1, [97], 0⟩], some (2, 110)) := alive_scan2
  rw [es]
  simp only [outAt, outErr]
  have HR2 := Lib.hid (HR.out.below hb2)
  have HB2 := Lib.hid (HB.out.trans (hb2.mono HB.out.size))
  clear es hb2 c3 c4 c5 c9 c13
  go_wp2_with fail
  refine (lex_Join_any _ _ _ HR2.out (by decide) (by rw [textsOf_toks, alive_join]; decide)).mono ?_
  rintro e w3 ⟨rfl, hb3⟩
  rw [textsOf_toks, alive_join]
  have HB3 := Lib.hid (HB2.out.trans (hb3.mono HB2.out.size))
  clear hb3
  go_wp2_with (first | (go_at_call 21; refine (lex_isLabel _ _ (by unfold maxLen; decide)).mono ?_; rintro e w' ⟨rfl, rfl⟩) | (go_at_call 24; refine (lex_isMetric _ _ (by unfold maxLen; decide)).mono ?_; rintro e w' ⟨rfl, rfl⟩))
  go_ret
  exact ⟨rfl, HB3.out⟩
end Go.Proofs.YtpkeonafcldkhaaGreatDoor
/- weirlaw11: outside; two texts (plain). -/
set_option linter.unusedVariables false
set_option linter.unusedSimpArgs false
namespace Go.Proofs.YtpkeonafcldkhaaGreatDoor
open Go.RowKit

theorem scanAll_two {x y : List UInt8} {ts : List Tok} (h : x.length + 1 + y.length ≤ 33554432) (hs : scanAll x = (ts, none)) (hf : flagsOf (false, false) ts = (false, false)) :
    scanAll (x ++ 10 :: y) = (ts ++ (scanAll y).1.map (Tok.move (x.length + 1)), (scanAll y).2.map fun r => (r.1 + (x.length + 1), r.2)) := by
  have hl : (x ++ 10 :: y).length = x.length + 1 + y.length := by simp; omega
  unfold scanAll at hs ⊢
  rw [if_neg (by omega)] at hs
  rw [hl, if_neg (by omega), if_neg (by omega), scanF_two x.length x 0 false false ts (Nat.le_refl _) hs, hf]
  have := scanF_move (x.length + 1) y.length y 0 false false (Nat.le_refl _)
  rw [Nat.zero_add] at this
  rw [show 0 + x.length + 1 = x.length + 1 by omega, this]
theorem scanAll_code {l : List UInt8} {ts : List Tok} {a e : Nat} (h : scanAll l = (ts, some (a, e))) : e ≠ 0 ∧ a ≤ 33554432 ∧ e ≤ 112 := by
  unfold scanAll at h
  by_cases hl : 33554432 < l.length
  · rw [if_pos hl] at h
    injection h with _ h
    injection h with h
    injection h with h1 h2
    omega
  · rw [if_neg hl] at h
    have := scanF_fault l.length l 0 false false ts a e (Nat.le_refl _) h
    omega
/-- A slice of tokens that can be read, place by place. -/
def TokAt (w : World) (v : Value) (xs : List (Int × ByteArray × Int)) : Prop :=
  ∃ ao c, v = .slice ao xs.length c ∧ ∀ j (h : j < xs.length), ∃ g o, ao = some ⟨g, o, none⟩ ∧ g < w.heap.size ∧ w.cell? ⟨g, o + j * 3, none⟩ = some (.int .i64 xs[j].1) ∧ w.cell? ⟨g, o + j * 3 + 1, none⟩ = some (.string xs[j].2.1) ∧ w.cell? ⟨g, o + j * 3 + 2, none⟩ = some (.int .i64 xs[j].2.2)
theorem TokRow.at {w : World} {g o c : Nat} {xs : List (Int × ByteArray × Int)} (h : TokRow w g o xs) : TokAt w (.slice (some ⟨g, o, none⟩) xs.length c) xs :=
  ⟨_, c, rfl, fun j hj => ⟨g, o, rfl, h.1, h.2 j hj⟩⟩
theorem TokSl.at {w : World} {v : Value} {xs : List (Int × ByteArray × Int)} (h : TokSl w v xs) : TokAt w v xs := by
  rcases h with ⟨rfl, rfl⟩ | ⟨g, o, c, rfl, h⟩
  · exact ⟨none, 0, rfl, fun j hj => absurd hj (by simp)⟩
  · exact h.at
theorem TokAt.below {w w' : World} {v : Value} {xs : List (Int × ByteArray × Int)} (h : TokAt w v xs) (hb : Below w.heap.size w w') : TokAt w' v xs := by
  obtain ⟨ao, c, rfl, hc⟩ := h
  refine ⟨ao, c, rfl, fun j hj => ?_⟩
  obtain ⟨g, o, rfl, hg, h1, h2, h3⟩ := hc j hj
  exact ⟨g, o, rfl, Nat.lt_of_lt_of_le hg hb.size, (hb.cell (p := ⟨g, _, none⟩) hg).trans h1, (hb.cell (p := ⟨g, _, none⟩) hg).trans h2, (hb.cell (p := ⟨g, _, none⟩) hg).trans h3⟩
theorem TokAt.tok {w : World} {ao : Option Addr} {n c : Nat} {ts : List Tok} (h : TokAt w (.slice ao n c) (ts.map tokV)) : n = ts.length ∧ ∀ j (h : j < ts.length), ∃ g o, ao = some ⟨g, o, none⟩ ∧ g < w.heap.size ∧ w.cell? ⟨g, o + j * 3, none⟩ = some (.int .i64 (ts[j].kind : Int)) ∧ w.cell? ⟨g, o + j * 3 + 1, none⟩ = some (.string ⟨ts[j].text.toArray⟩) ∧ w.cell? ⟨g, o + j * 3 + 2, none⟩ = some (.int .i64 (ts[j].pos : Int)) := by
  obtain ⟨ao', c', he, hc⟩ := h
  injection he with h1 h2 h3
  subst h1
  refine ⟨by simpa using h2, fun j hj => ?_⟩
  obtain ⟨g, o, h1, h2, h3, h4, h5⟩ := hc j (by simpa using hj)
  have e : (ts.map tokV)[j]'(by simpa using hj) = tokV ts[j] := by simp
  rw [e] at h3 h4 h5
  exact ⟨g, o, h1, h2, h3, h4, h5⟩
theorem meas_j {F r : Nat} (h : r < F) : F - (intOf (.int .i64 ((r : Int) + 1))).toNat < F - (intOf (.int .i64 (r : Int))).toNat := by
  have h1 : (intOf (.int .i64 ((r : Int) + 1))).toNat = r + 1 := rfl
  have h2 : (intOf (.int .i64 (r : Int))).toNat = r := rfl
  rw [h1, h2]
  exact Nat.sub_lt_sub_left h (Nat.lt_succ_self r)
set_option maxRecDepth 100000 in
set_option maxHeartbeats 2000000 in
theorem law_outside (w : World) (ao : Option Addr) (n c : Nat) (ts : List Tok) (h : TokAt w (.slice ao n c) (ts.map tokV)) (hn : ts.length ≤ 1099511627776) :
    Calls Tryz.prog 19 #[.slice ao n c] w fun e w' => e = .returned (.bool (!(flagsOf (false, false) ts).1 && !(flagsOf (false, false) ts).2)) ∧ w' = w := by
  obtain ⟨rfl, h0⟩ := h.tok
  obtain ⟨T, hT⟩ : ∃ T, T = flagsOf (false, false) ts := ⟨_, rfl⟩
  rw [← hT]
  have HT := Lib.hid hT
  have H := Lib.hid h0
  clear hT h h0
  go_enter Tryz.func19, Tryz.ntmps19
  go_wp2_with fail
  go_loopw [3, 4, 5] (fun t3 t4 t5 wr => ∃ (j : Nat) (b q : Bool), Hid (flagsOf (false, false) (ts.take j) = (b, q) ∧ j ≤ ts.length ∧ wr = w) ∧ t3 = .bool b ∧ t4 = .bool q ∧ t5 = .int .i64 (j : Int)) (fun _ _ t5 _ => ts.length - (intOf t5).toNat)
  case atStart => exact ⟨0, false, false, Lib.hid ⟨rfl, Nat.zero_le _, rfl⟩, rfl, rfl, rfl⟩
  case round =>
    obtain ⟨j, b, q, hI, rfl, rfl, rfl⟩ := hrel
    have hw := hI.out.2.2
    subst hw
    by_cases hj : j < ts.length
    · have p1 : ((j : Int) < (ts.length : Int)) = True := eq_true (by omega)
      have hst : flagsOf (false, false) (ts.take (j + 1)) = flagStep (b, q) ts[j] := by
        rw [flagsOf, List.take_succ_eq_append_getElem hj, List.foldl_append]
        show flagStep (flagsOf (false, false) (ts.take j)) ts[j] = _
        rw [hI.out.1]
      obtain ⟨g, o, rfl, hg, c0, c1, _⟩ := H.out j hj
      rcases hts : ts[j] with ⟨k, tx, ps⟩
      rw [hts] at hst c0 c1
      simp only at c0 c1
      have HST := Lib.hid hst
      clear hst
      by_cases hk : k = 6
      · subst hk
        obtain ⟨s, hs⟩ : ∃ s : ByteArray, s = ⟨tx.toArray⟩ := ⟨_, rfl⟩
        rw [← hs] at c1
        have hl : s.toList = tx := by rw [hs, ByteArray.toList_eq]
        have HX := Lib.hid (And.intro hs hl)
        clear hs hl
        by_cases e123 : tx = [123]
        · subst e123
          have e123 : ([123] : List UInt8) = [123] := rfl
          have y123 : (s.toList == [123]) = true := by rw [HX.out.2]; exact beq_iff_eq.2 e123
          go_wp2_with fail
          exact ⟨⟨j + 1, true, q, Lib.hid ⟨by rw [HST.out]; rfl, hj, trivial⟩, rfl, rfl, rfl⟩, meas_j hj⟩
        by_cases e125 : tx = [125]
        · subst e125
          have e125 : ([125] : List UInt8) = [125] := rfl
          have y123 : (s.toList == [123]) = false := by rw [HX.out.2]; exact beq_eq_false_iff_ne.2 (by decide)
          have y125 : (s.toList == [125]) = true := by rw [HX.out.2]; exact beq_iff_eq.2 e125
          go_wp2_with fail
          exact ⟨⟨j + 1, false, q, Lib.hid ⟨by rw [HST.out]; rfl, hj, trivial⟩, rfl, rfl, rfl⟩, meas_j hj⟩
        by_cases e91 : tx = [91]
        · subst e91
          have e91 : ([91] : List UInt8) = [91] := rfl
          have y123 : (s.toList == [123]) = false := by rw [HX.out.2]; exact beq_eq_false_iff_ne.2 (by decide)
          have y125 : (s.toList == [125]) = false := by rw [HX.out.2]; exact beq_eq_false_iff_ne.2 (by decide)
          have y91 : (s.toList == [91]) = true := by rw [HX.out.2]; exact beq_iff_eq.2 e91
          go_wp2_with fail
          exact ⟨⟨j + 1, b, true, Lib.hid ⟨by rw [HST.out]; rfl, hj, trivial⟩, rfl, rfl, rfl⟩, meas_j hj⟩
        by_cases e93 : tx = [93]
        · subst e93
          have e93 : ([93] : List UInt8) = [93] := rfl
          have y123 : (s.toList == [123]) = false := by rw [HX.out.2]; exact beq_eq_false_iff_ne.2 (by decide)
          have y125 : (s.toList == [125]) = false := by rw [HX.out.2]; exact beq_eq_false_iff_ne.2 (by decide)
          have y91 : (s.toList == [91]) = false := by rw [HX.out.2]; exact beq_eq_false_iff_ne.2 (by decide)
          have y93 : (s.toList == [93]) = true := by rw [HX.out.2]; exact beq_iff_eq.2 e93
          go_wp2_with fail
          exact ⟨⟨j + 1, b, false, Lib.hid ⟨by rw [HST.out]; rfl, hj, trivial⟩, rfl, rfl, rfl⟩, meas_j hj⟩
        · have y123 : (s.toList == [123]) = false := by rw [HX.out.2]; exact beq_eq_false_iff_ne.2 e123
          have y125 : (s.toList == [125]) = false := by rw [HX.out.2]; exact beq_eq_false_iff_ne.2 e125
          have y91 : (s.toList == [91]) = false := by rw [HX.out.2]; exact beq_eq_false_iff_ne.2 e91
          have y93 : (s.toList == [93]) = false := by rw [HX.out.2]; exact beq_eq_false_iff_ne.2 e93
          go_wp2_with fail
          exact ⟨⟨j + 1, b, q, Lib.hid ⟨by rw [HST.out]; simp [flagStep, e123, e125, e91, e93], hj, trivial⟩, rfl, rfl, rfl⟩, meas_j hj⟩
      · have p2 : ((k : Int) = 6) = False := eq_false (by omega)
        go_wp2_with fail
        exact ⟨⟨j + 1, b, q, Lib.hid ⟨by rw [HST.out, flagStep_no hk], hj, trivial⟩, rfl, rfl, rfl⟩, meas_j hj⟩
    · have p1 : ((j : Int) < (ts.length : Int)) = False := eq_false (by omega)
      have : j = ts.length := by have := hI.out.2.1; omega
      subst this
      have hT := hI.out.1
      rw [List.take_length, ← HT.out] at hT
      subst hT
      rcases b <;> rcases q
      · go_wp2_with fail
        go_ret
        exact ⟨rfl, rfl⟩
      · go_wp2_with fail
        go_ret
        exact ⟨rfl, rfl⟩
      · go_wp2_with fail
        go_ret
        exact ⟨rfl, rfl⟩
      · go_wp2_with fail
        go_ret
        exact ⟨rfl, rfl⟩
end Go.Proofs.YtpkeonafcldkhaaGreatDoor
/- weirlaw11: alike. -/
set_option linter.unusedVariables false
set_option linter.unusedSimpArgs false
namespace Go.Proofs.YtpkeonafcldkhaaGreatDoor
open Go.RowKit

set_option maxRecDepth 100000 in
set_option maxHeartbeats 2000000 in
theorem law_alike (w : World) (ao bo : Option Addr) (na nb ca cb : Nat) (ts us : List Tok) (n far : Nat) (pl : Bool) (ha : TokAt w (.slice ao na ca) (ts.map tokV)) (hb : TokAt w (.slice bo nb cb) (us.map tokV)) (hn : us.length ≤ 1099511627776) (hfar : far ≤ 1099511627776)
    (hle : n + ts.length ≤ us.length) (hk : ∀ j (h : j < ts.length), ts[j].pos ≤ 1099511627776 ∧ us[n + j].kind = ts[j].kind ∧ us[n + j].text = ts[j].text ∧ (pl = true → us[n + j].pos = ts[j].pos + far)) :
    Calls Tryz.prog 17 #[.slice ao na ca, .slice bo nb cb, .int .i64 (n : Int), .int .i64 (far : Int), .bool pl] w fun e w' => e = .returned (.bool true) ∧ ∃ d, w' = w.drewN d := by
  obtain ⟨rfl, ha0⟩ := ha.tok
  obtain ⟨rfl, hb0⟩ := hb.tok
  have HA := Lib.hid ha0
  have HB := Lib.hid hb0
  have HK := Lib.hid hk
  clear ha hb hk ha0 hb0
  have p0 : ((n : Int) < 0) = False := eq_false (by omega)
  have p1 : ((n : Int) + (ts.length : Int) > (us.length : Int)) = False := eq_false (by omega)
  have p1' : ((us.length : Int) < (n : Int) + (ts.length : Int)) = False := eq_false (by omega)
  go_enter Tryz.func17, Tryz.ntmps17
  go_wp2_with fail
  go_loopw [11] (fun t11 wr => ∃ (j d : Nat), Hid (j ≤ ts.length ∧ wr = w.drewN d) ∧ t11 = .int .i64 (j : Int)) (fun t11 _ => ts.length - (intOf t11).toNat)
  case atStart => exact ⟨0, 0, Lib.hid ⟨Nat.zero_le _, rfl⟩, rfl⟩
  case round =>
    obtain ⟨j, d, hI, rfl⟩ := hrel
    have hw := hI.out.2
    subst hw
    by_cases hj : j < ts.length
    · have p2 : ((j : Int) < (ts.length : Int)) = True := eq_true (by omega)
      obtain ⟨g, o, rfl, hg, c0, c1, c2⟩ := HA.out j hj
      have hj' : n + j < us.length := by omega
      obtain ⟨g', o', rfl, hg', d0, d1, d2⟩ := HB.out (n + j) hj'
      obtain ⟨k0, k1, k2, k3⟩ := HK.out j hj
      rw [k1] at d0
      rw [k2] at d1
      have d2' : pl = true → w.cell? ⟨g', o' + (n + j) * 3 + 2, none⟩ = some (.int .i64 ((ts[j].pos : Int) + (far : Int))) := fun h => by rw [d2, k3 h]; rfl
      have bp : (ts[j].pos : Int) ≤ 1099511627776 := by omega
      have bp0 : (0 : Int) ≤ (ts[j].pos : Int) := by omega
      clear d2 k0 k1 k2 k3
      generalize (ts[j].kind : Int) = K at c0 d0
      generalize (⟨ts[j].text.toArray⟩ : ByteArray) = X at c1 d1
      generalize (ts[j].pos : Int) = P at c2 d2' bp bp0
      have x1 : (K != K) = false := bne_self_eq_false K
      have x3 : ((P + (far : Int)) != (P + (far : Int))) = false := bne_self_eq_false _
      rcases pl with _ | _
      · go_wp2_with fail
        go_quiet (fail)
        go_wp2_with fail
        exact ⟨⟨j + 1, d + nq, Lib.hid ⟨hj, rfl⟩, rfl⟩, meas_j hj⟩
      · have d3 := d2' rfl
        go_wp2_with fail
        go_quiet (fail)
        go_wp2_with fail
        exact ⟨⟨j + 1, d + nq, Lib.hid ⟨hj, rfl⟩, rfl⟩, meas_j hj⟩
    · have p2 : ((j : Int) < (ts.length : Int)) = False := eq_false (by omega)
      go_wp2_with fail
      go_ret
      exact ⟨rfl, d, rfl⟩
theorem TokAt.drewN {w : World} {v : Value} {xs : List (Int × ByteArray × Int)} (h : TokAt w v xs) (n : Nat) : TokAt (w.drewN n) v xs := h
set_option maxRecDepth 100000 in
set_option maxHeartbeats 2000000 in
theorem law_same (w : World) (ao bo : Option Addr) (na nb ca cb : Nat) (ts : List Tok) (ha : TokAt w (.slice ao na ca) (ts.map tokV)) (hb : TokAt w (.slice bo nb cb) (ts.map tokV)) (hn : ts.length ≤ 1099511627776) :
    Calls Tryz.prog 13 #[.slice ao na ca, .slice bo nb cb] w fun e w' => e = .returned (.bool true) ∧ ∃ d, w' = w.drewN d := by
  obtain ⟨rfl, ha0⟩ := ha.tok
  obtain ⟨rfl, hb0⟩ := hb.tok
  have HA := Lib.hid ha0
  have HB := Lib.hid hb0
  clear ha hb ha0 hb0
  go_enter Tryz.func13, Tryz.ntmps13
  go_wp2_with fail
  go_loopw [5] (fun t5 wr => ∃ (j d : Nat), Hid (j ≤ ts.length ∧ wr = w.drewN d) ∧ t5 = .int .i64 (j : Int)) (fun t5 _ => ts.length - (intOf t5).toNat)
  case atStart => exact ⟨0, 0, Lib.hid ⟨Nat.zero_le _, rfl⟩, rfl⟩
  case round =>
    obtain ⟨j, d, hI, rfl⟩ := hrel
    have hw := hI.out.2
    subst hw
    by_cases hj : j < ts.length
    · have p2 : ((j : Int) < (ts.length : Int)) = True := eq_true (by omega)
      obtain ⟨g, o, rfl, hg, c0, c1, c2⟩ := HA.out j hj
      obtain ⟨g', o', rfl, hg', d0, d1, d2⟩ := HB.out j hj
      generalize (ts[j].kind : Int) = K at c0 d0
      generalize (⟨ts[j].text.toArray⟩ : ByteArray) = X at c1 d1
      generalize (ts[j].pos : Int) = P at c2 d2
      go_wp2_with fail
      go_quiet (fail)
      go_wp2_with fail
      exact ⟨⟨j + 1, d + nq, Lib.hid ⟨hj, rfl⟩, rfl⟩, meas_j hj⟩
    · have p2 : ((j : Int) < (ts.length : Int)) = False := eq_false (by omega)
      go_wp2_with fail
      go_ret
      exact ⟨rfl, d, rfl⟩
end Go.Proofs.YtpkeonafcldkhaaGreatDoor
/- weirlaw11: LexTwo. -/
set_option linter.unusedVariables false
set_option linter.unusedSimpArgs false
namespace Go.Proofs.YtpkeonafcldkhaaGreatDoor
open Go.RowKit

/-- lex.Scan's answer, its slice taken apart. -/
theorem ScanPost.open {w w' : World} {r : List Tok × Option (Nat × Nat)} {e : Ending} (h : ScanPost w r e w') :
    ∃ ao c, e = .returned (.tuple #[.slice ao (outToks r).length c, .int .i64 (outAt r : Int), .int .i64 (outErr r : Int)]) ∧ w'.ownsRow w.heap.size 33 3 (.slice ao (outToks r).length c) (outToks r).length (toksCells (outToks r)) ∧ TokAt w' (.slice ao (outToks r).length c) ((outToks r).map tokV) ∧ Below w.heap.size w w' := by
  obtain ⟨v, rfl, ho, hb⟩ := h
  have hs := tokSl_of_own ho
  rcases ho.2 with ⟨rfl, hn⟩ | ⟨g, cap, cur, rfl, _⟩
  · rw [List.eq_nil_of_length_eq_zero hn] at *
    exact ⟨none, 0, rfl, ho, hs.at, hb⟩
  · exact ⟨_, cap, rfl, ho, hs.at, hb⟩
theorem outErr_none {r : List Tok × Option (Nat × Nat)} (h : r.2 = none) : outErr r = 0 ∧ outAt r = 0 ∧ outToks r = r.1 := by
  obtain ⟨a, b⟩ := r
  simp only at h
  subst h
  exact ⟨rfl, rfl, rfl⟩
theorem outErr_some {r : List Tok × Option (Nat × Nat)} {a k : Nat} (h : r.2 = some (a, k)) : outErr r = k ∧ outAt r = a ∧ outToks r = [] := by
  obtain ⟨x, b⟩ := r
  simp only at h
  subst h
  exact ⟨rfl, rfl, rfl⟩
theorem scanAll_err {l : List UInt8} {a e : Nat} (h : (scanAll l).2 = some (a, e)) : e ≠ 0 ∧ a ≤ 33554432 ∧ e ≤ 112 :=
  scanAll_code (ts := (scanAll l).1) (by rw [← h])
/-- There are no more tokens than letters, and each stands in the text. -/
theorem scanF_len : ∀ (m : Nat) (l : List UInt8) (p : Nat) (br sq : Bool), l.length ≤ m → (scanF l p br sq).1.length ≤ l.length ∧ ∀ t ∈ (scanF l p br sq).1, t.pos + t.text.length ≤ p + l.length
  | m, [], p, br, sq, _ => ⟨Nat.zero_le _, fun t h => by cases h⟩
  | 0, c :: r, p, br, sq, h => by simp at h
  | m + 1, c :: r, p, br, sq, hm => by
    have hne : c :: r ≠ [] := by simp
    generalize hl : c :: r = x at *
    have hlen := nil_len hne
    cases hb : isBl (atB x 0)
    · by_cases hc : (atB x 0).toNat = 35
      · have hr := remark_pos hne
        rw [scanF_remark hne hc]
        obtain ⟨i1, i2⟩ := scanF_len m (x.drop (remark x)) (p + remark x) br sq (by simp; omega)
        rw [List.length_drop] at i1 i2
        exact ⟨by omega, fun t ht => by have := i2 t ht; omega⟩
      · cases ht : tokenR x br sq with
        | bad e' => rw [scanF_bad hne hb hc ht]; exact ⟨Nat.zero_le _, fun t h => by cases h⟩
        | tok k n b q =>
          have hn := tokenR_pos hne ht
          rw [scanF_tok hne hb hc ht]
          obtain ⟨i1, i2⟩ := scanF_len m (x.drop n) (p + n) b q (by simp; omega)
          rw [List.length_drop] at i1 i2
          refine ⟨by simp only [List.length_cons]; omega, fun t ht => ?_⟩
          rcases List.mem_cons.1 ht with rfl | ht
          · simp only [List.length_take]; omega
          · have := i2 t ht; omega
    · rw [scanF_blank hne hb]
      obtain ⟨i1, i2⟩ := scanF_len m (x.drop 1) (p + 1) br sq (by simp; omega)
      rw [List.length_drop] at i1 i2
      exact ⟨by omega, fun t ht => by have := i2 t ht; omega⟩
theorem scanAll_len (l : List UInt8) : (scanAll l).1.length ≤ l.length ∧ ∀ t ∈ (scanAll l).1, t.pos + t.text.length ≤ l.length := by
  unfold scanAll
  split
  · exact ⟨Nat.zero_le _, fun t h => by cases h⟩
  · have := scanF_len l.length l 0 false false (Nat.le_refl _)
    rw [Nat.zero_add] at this
    exact this
theorem two_str {a b c : ByteArray} (h : c = a ++ ⟨#[10]⟩ ++ b) : c.data.toList = a.data.toList ++ 10 :: b.data.toList := by subst h; simp
set_option maxRecDepth 100000 in
set_option maxHeartbeats 2000000 in
theorem law_LexTwo {T : Nat → World → Prop} (hT : NumT (fun _ => True) T) (w : World) (a b : ByteArray) (ha : a.size ≤ 1048576) (hb : b.size ≤ 1048576) (hTw : T w.heap.size w) :
    Calls Tryz.prog 6 #[.string a, .string b] w fun e w' => e = .returned (.bool true) ∧ Below w.heap.size w w' := by
  have HT := Lib.hid hTw
  clear hTw
  go_enter Tryz.func6, Tryz.ntmps6
  go_wp2_with fail
  refine (law_alive hT w HT.out).mono ?_
  rintro e w1 ⟨rfl, hb1⟩
  have HT1 := Lib.hid (hT.mono (hT.keep HT.out hb1) hb1.size)
  have HB1 := Lib.hid hb1
  clear hb1
  go_wp2_with fail
  refine (lex_Scan hT _ a (by omega) (fun _ _ _ => trivial) HT1.out).mono ?_
  intro e w2 hp
  obtain ⟨ao, ca, rfl, hoa, hta, hb2⟩ := hp.open
  have HT2 := Lib.hid (hT.mono (hT.keep HT1.out hb2) hb2.size)
  have HB2 := Lib.hid (HB1.out.trans (hb2.mono HB1.out.size))
  have HTA := Lib.hid hta
  clear hoa hta hb2 hp
  go_wp2_with fail
  refine (lex_Scan hT _ b (by omega) (fun _ _ _ => trivial) HT2.out).mono ?_
  intro e w3 hp
  obtain ⟨bo, cb, rfl, hob, htb, hb3⟩ := hp.open
  have HT3 := Lib.hid (hT.mono (hT.keep HT2.out hb3) hb3.size)
  have HB3 := Lib.hid (HB2.out.trans (hb3.mono HB2.out.size))
  have HTA3 := Lib.hid (HTA.out.below hb3)
  have HTB := Lib.hid htb
  clear hob htb hb3 hp HTA
  obtain ⟨R, hR⟩ : ∃ R, R = scanAll a.data.toList := ⟨_, rfl⟩
  obtain ⟨S, hS⟩ : ∃ S, S = scanAll b.data.toList := ⟨_, rfl⟩
  rw [← hR] at HTA3 ⊢
  rw [← hS] at HTB ⊢
  have HR := Lib.hid hR
  have HS := Lib.hid hS
  clear hR hS
  cases hR2 : R.2 with
  | some r1 =>
    obtain ⟨a1, e1⟩ := r1
    obtain ⟨i1, i2, i3⟩ := outErr_some hR2
    have hne := (scanAll_err (l := a.data.toList) (a := a1) (e := e1) (by rw [← HR.out]; exact hR2)).1
    rw [i1, i2]
    rw [i3] at HTA3 ⊢
    have x1 : ((e1 : Int) = 0) = False := eq_false (by omega)
    go_wp2_with fail
    go_ret
    exact ⟨rfl, HB3.out⟩
  | none =>
    obtain ⟨i1, i2, i3⟩ := outErr_none hR2
    have hn1 : R.1.length ≤ 1048576 := by rw [HR.out]; have := (scanAll_len a.data.toList).1; rw [len_data] at this; omega
    rw [i1, i2]
    rw [i3] at HTA3 ⊢
    have hout := law_outside w3 ao R.1.length ca R.1 HTA3.out (by omega)
    obtain ⟨f1, f2, hf⟩ : ∃ f1 f2, (flagsOf (false, false) R.1) = (f1, f2) := ⟨_, _, rfl⟩
    rw [hf] at hout
    have HO := Lib.hid hout
    clear hout
    by_cases hff : (!f1 && !f2) = true
    · have hff' : (!f1 && !f2) = true := hff
      obtain ⟨rfl, rfl⟩ : f1 = false ∧ f2 = false := by simpa using hff
      have x1 : ((a.size : Int) + 1 + (b.size : Int) > 33554432) = False := eq_false (by omega)
      have x2 : ((33554432 : Int) < (a.size : Int) + 1 + (b.size : Int)) = False := eq_false (by omega)
      go_wp2_with (first | (go_at_call 19; refine HO.out.mono ?_; rintro e w' ⟨rfl, rfl⟩))
      obtain ⟨AB, hAB⟩ : ∃ AB : ByteArray, AB = a ++ ⟨#[10]⟩ ++ b := ⟨_, rfl⟩
      rw [← hAB]
      have hab := two_str hAB
      clear hAB
      have hsz : AB.size ≤ 281474976710 := by rw [← len_data, hab]; simp only [List.length_append, List.length_cons, len_data]; omega
      refine (lex_Scan hT _ AB hsz (fun _ _ _ => trivial) HT3.out).mono ?_
      intro e w4 hp
      obtain ⟨co, cc, rfl, hoc, htc, hb4⟩ := hp.open
      have htwo := scanAll_two (x := a.data.toList) (y := b.data.toList) (ts := R.1) (by rw [len_data, len_data]; omega) (by rw [← HR.out, ← hR2]) hf
      rw [hab, htwo, ← HS.out, len_data] at htc ⊢
      have HB4 := Lib.hid (HB3.out.trans (hb4.mono HB3.out.size))
      have HTA4 := Lib.hid (HTA3.out.below hb4)
      have HTB4 := Lib.hid (HTB.out.below hb4)
      have HTC := Lib.hid htc
      have hls := scanAll_len b.data.toList
      rw [← HS.out, len_data] at hls
      have hlr := scanAll_len a.data.toList
      rw [← HR.out, len_data] at hlr
      clear hp hoc htc hb4 htwo hab HTA3 HTB HO
      cases hS2 : S.2 with
      | some r2 =>
        obtain ⟨a2, e2⟩ := r2
        obtain ⟨j1, j2, j3⟩ := outErr_some hS2
        have hne := scanAll_err (l := b.data.toList) (a := a2) (e := e2) (by rw [← HS.out]; exact hS2)
        rw [j1, j2]
        rw [j3] at HTB4 ⊢
        rw [hS2] at HTC
        have x3 : ((e2 : Int) = 0) = False := eq_false (by omega)
        have x4 : ((a2 : Int) + ((a.size : Int) + 1) == (a2 : Int) + (a.size : Int) + 1) = true := beq_iff_eq.2 (by omega)
        simp only [outErr, outAt, outToks, Option.map, hS2] at HTC ⊢
        go_wp2_with fail
        go_ret
        exact ⟨rfl, HB4.out⟩
      | none =>
        obtain ⟨j1, j2, j3⟩ := outErr_none hS2
        rw [j1, j2]
        rw [j3] at HTB4 ⊢
        rw [hS2] at HTC
        simp only [outErr, outAt, outToks, Option.map, hS2] at HTC ⊢
        have hml : (S.1.map (Tok.move (a.size + 1))).length = S.1.length := List.length_map _
        have A1 : ∀ d, Calls Tryz.prog 17 #[.slice ao R.1.length ca, .slice co (R.1 ++ S.1.map (Tok.move (a.size + 1))).length cc, .int .i64 0, .int .i64 0, .bool true] (w4.drewN d) fun e w' => e = .returned (.bool true) ∧ ∃ d', w' = (w4.drewN d).drewN d' := fun d => by
          refine law_alike (w4.drewN d) ao co _ _ ca cc R.1 (R.1 ++ S.1.map (Tok.move (a.size + 1))) 0 0 true (HTA4.out.drewN d) (HTC.out.drewN d) (by rw [List.length_append, hml]; omega) (by omega) (by rw [List.length_append]; omega) (fun j hj => ?_)
          have hm := hlr.2 R.1[j] (List.getElem_mem hj)
          have e : (R.1 ++ S.1.map (Tok.move (a.size + 1)))[0 + j]'(by rw [List.length_append]; omega) = R.1[j] := by
            simp only [Nat.zero_add]; exact List.getElem_append_left hj
          rw [e]
          exact ⟨by omega, rfl, rfl, fun _ => rfl⟩
        have A2 : ∀ d, Calls Tryz.prog 17 #[.slice bo S.1.length cb, .slice co (R.1 ++ S.1.map (Tok.move (a.size + 1))).length cc, .int .i64 (R.1.length : Int), .int .i64 ((a.size : Int) + 1), .bool true] (w4.drewN d) fun e w' => e = .returned (.bool true) ∧ ∃ d', w' = (w4.drewN d).drewN d' := fun d => by
          refine law_alike (w4.drewN d) bo co _ _ cb cc S.1 (R.1 ++ S.1.map (Tok.move (a.size + 1))) R.1.length (a.size + 1) true (HTB4.out.drewN d) (HTC.out.drewN d) (by rw [List.length_append, hml]; omega) (by omega) (by rw [List.length_append, hml]; exact Nat.le_refl _) (fun j hj => ?_)
          have hm := hls.2 S.1[j] (List.getElem_mem hj)
          have e : (R.1 ++ S.1.map (Tok.move (a.size + 1)))[R.1.length + j]'(by rw [List.length_append, hml]; omega) = Tok.move (a.size + 1) S.1[j] := by
            rw [List.getElem_append_right (Nat.le_add_right _ _)]
            simp
          rw [e]
          exact ⟨by omega, rfl, rfl, fun _ => rfl⟩
        have x5 : (((R.1 ++ S.1.map (Tok.move (a.size + 1))).length : Int) == (R.1.length : Int) + (S.1.length : Int)) = true := beq_iff_eq.2 (by rw [List.length_append, hml]; omega)
        have HA1 := Lib.hid A1
        have HA2 := Lib.hid A2
        have bl1 := hn1
        have bl2 : S.1.length ≤ 1048576 := by omega
        clear A1 A2 hlr hls hml
        generalize (R.1 ++ S.1.map (Tok.move (a.size + 1))).length = M at HA1 HA2 x5 ⊢
        go_wp2_with fail
        refine (HA1.out 0).mono ?_
        rintro e w5 ⟨rfl, d1, rfl⟩
        go_wp2_with fail
        refine (HA2.out d1).mono ?_
        rintro e w6 ⟨rfl, d2, rfl⟩
        go_wp2_with fail
        go_ret
        exact ⟨rfl, below_drewN HB4.out _⟩
    · rw [eq_false_of_ne_true hff] at HO
      go_wp2_with (first | (go_at_call 19; refine HO.out.mono ?_; rintro e w' ⟨rfl, rfl⟩))
      go_ret
      exact ⟨rfl, HB3.out⟩
end Go.Proofs.YtpkeonafcldkhaaGreatDoor
/- The shelf's contracts that are used here (laid by the kit's lay-shelf and lay-plain). -/
set_option linter.unusedVariables false
set_option linter.unusedSimpArgs false
namespace Go.Proofs
open Go.Shelf
def Tryz.lays129_ren : Go.Shelf.Ren := ⟨fun | 129 => 161 | n => n, fun | 53 => 88 | 3 => 3 | 4 => 4 | 46 => 112 | 5 => 5 | 9 => 9 | n => n, fun | n => n⟩
theorem Tryz.lays129 : Go.Proofs.Lays.n129 Tryz.prog Tryz.lays129_ren := {
  mixed := by kernel_rfl
  f129 := Tryz.func161.trans (congrArg some (by kernel_rfl))
  t3 := Tryz.underlying3
  a3 := Tryz.isAgg3
  z3 := Tryz.sizeOf3
  v3 := Tryz.zeroValue3
  t4 := Tryz.underlying4
  a4 := Tryz.isAgg4
  z4 := Tryz.sizeOf4
  v4 := Tryz.zeroValue4
  t5 := Tryz.underlying5
  a5 := Tryz.isAgg5
  z5 := Tryz.sizeOf5
  v5 := Tryz.zeroValue5
  t9 := Tryz.underlying9
  a9 := Tryz.isAgg9
  z9 := Tryz.sizeOf9
  v9 := Tryz.zeroValue9
  t46 := Tryz.underlying112
  a46 := Tryz.isAgg112
  z46 := Tryz.sizeOf112
  v46 := Tryz.zeroValue112
  t53 := Tryz.underlying88
  a53 := Tryz.isAgg88
  z53 := Tryz.sizeOf88
  v53 := Tryz.zeroValue88 }
/-- bits.Len64: "Len64 returns the minimum number of bits required to represent x; the result is 0 for x == 0.": IT RETURNS 'Lib.bitLen x'; the world is as it was. ('h0', 'h1': x is a uint64.) (LAID: no walk: one application.) -/
theorem Tryz.bits_Len64 (x : Int) (w : World) (h0 : 0 ≤ x) (h1 : x ≤ 18446744073709551615) :
    Calls Tryz.prog 161 #[.int .u64 x] w fun e w' => e = .returned (.int .i64 (Lib.bitLen x.toNat)) ∧ w' = w := Any.bits_Len64 Tryz.lays129 x w h0 h1
def Tryz.lays318_ren : Go.Shelf.Ren := ⟨fun | 318 => 165 | n => n, fun | 3 => 3 | 4 => 4 | n => n, fun | n => n⟩
theorem Tryz.lays318 : Go.Proofs.Lays.n318 Tryz.prog Tryz.lays318_ren := {
  mixed := by kernel_rfl
  f318 := Tryz.func165.trans (congrArg some (by kernel_rfl))
  t3 := Tryz.underlying3
  a3 := Tryz.isAgg3
  z3 := Tryz.sizeOf3
  v3 := Tryz.zeroValue3
  t4 := Tryz.underlying4
  a4 := Tryz.isAgg4
  z4 := Tryz.sizeOf4
  v4 := Tryz.zeroValue4 }
open Go.Lib in
/-- internal/strconv.bool2: "bool2 converts b to an integer: 1 for true, 0 for false." The world is as it was. (LAID: no walk: one application.) -/
theorem Tryz.internal_strconv_bool2_int (b : Bool) (w : World) :
    Calls Tryz.prog 165 #[.bool b] w fun e w' => e = .returned (.int .i64 (if b then 1 else 0)) ∧ w' = w := Any.internal_strconv_bool2_int Tryz.lays318 b w
def Tryz.laysC245_ren : Go.Shelf.Ren := ⟨fun | 245 => 121 | 279 => 131 | 280 => 132 | 281 => 133 | 282 => 134 | 316 => 139 | 171 => 141 | 205 => 140 | 243 => 155 | 246 => 172 | 283 => 177 | 284 => 178 | 285 => 179 | 286 => 180 | 129 => 161 | 317 => 183 | 318 => 165 | 319 => 184 | 320 => 185 | 337 => 186 | 338 => 187 | n => n, fun | 9 => 9 | 3 => 3 | 75 => 70 | 167 => 157 | 4 => 4 | 168 => 158 | 210 => 169 | 37 => 40 | 0 => 0 | 127 => 101 | 145 => 195 | 143 => 193 | 2 => 2 | 171 => 221 | 53 => 88 | 5 => 5 | 173 => 223 | 212 => 230 | 51 => 92 | 20 => 20 | 213 => 231 | 46 => 112 | 232 => 234 | 233 => 235 | 80 => 74 | n => n, fun | 15 => 2 | 16 => 3 | 17 => 12 | 18 => 13 | 19 => 14 | n => n⟩
theorem Tryz.laysC245 : Go.Proofs.LaysC.n245 Tryz.prog Tryz.laysC245_ren := {
  mixed := by kernel_rfl
  f129 := Tryz.func161.trans (congrArg some (by kernel_rfl))
  f171 := Tryz.func141.trans (congrArg some (by kernel_rfl))
  f205 := Tryz.func140.trans (congrArg some (by kernel_rfl))
  f243 := Tryz.func155.trans (congrArg some (by kernel_rfl))
  f245 := Tryz.func121.trans (congrArg some (by kernel_rfl))
  f246 := Tryz.func172.trans (congrArg some (by kernel_rfl))
  f279 := Tryz.func131.trans (congrArg some (by kernel_rfl))
  f280 := Tryz.func132.trans (congrArg some (by kernel_rfl))
  f281 := Tryz.func133.trans (congrArg some (by kernel_rfl))
  f282 := Tryz.func134.trans (congrArg some (by kernel_rfl))
  f283 := Tryz.func177.trans (congrArg some (by kernel_rfl))
  f284 := Tryz.func178.trans (congrArg some (by kernel_rfl))
  f285 := Tryz.func179.trans (congrArg some (by kernel_rfl))
  f286 := Tryz.func180.trans (congrArg some (by kernel_rfl))
  f316 := Tryz.func139.trans (congrArg some (by kernel_rfl))
  f317 := Tryz.func183.trans (congrArg some (by kernel_rfl))
  f318 := Tryz.func165.trans (congrArg some (by kernel_rfl))
  f319 := Tryz.func184.trans (congrArg some (by kernel_rfl))
  f320 := Tryz.func185.trans (congrArg some (by kernel_rfl))
  f337 := Tryz.func186.trans (congrArg some (by kernel_rfl))
  f338 := Tryz.func187.trans (congrArg some (by kernel_rfl))
  t0 := Tryz.underlying0
  a0 := Tryz.isAgg0
  z0 := Tryz.sizeOf0
  v0 := Tryz.zeroValue0
  t2 := Tryz.underlying2
  a2 := Tryz.isAgg2
  z2 := Tryz.sizeOf2
  v2 := Tryz.zeroValue2
  t3 := Tryz.underlying3
  a3 := Tryz.isAgg3
  z3 := Tryz.sizeOf3
  v3 := Tryz.zeroValue3
  t4 := Tryz.underlying4
  a4 := Tryz.isAgg4
  z4 := Tryz.sizeOf4
  v4 := Tryz.zeroValue4
  t5 := Tryz.underlying5
  a5 := Tryz.isAgg5
  z5 := Tryz.sizeOf5
  v5 := Tryz.zeroValue5
  t9 := Tryz.underlying9
  a9 := Tryz.isAgg9
  z9 := Tryz.sizeOf9
  v9 := Tryz.zeroValue9
  t20 := Tryz.underlying20
  a20 := Tryz.isAgg20
  z20 := Tryz.sizeOf20
  v20 := Tryz.zeroValue20
  t37 := Tryz.underlying40
  a37 := Tryz.isAgg40
  z37 := Tryz.sizeOf40
  v37 := Tryz.zeroValue40
  t46 := Tryz.underlying112
  a46 := Tryz.isAgg112
  z46 := Tryz.sizeOf112
  v46 := Tryz.zeroValue112
  t51 := Tryz.underlying92
  a51 := Tryz.isAgg92
  z51 := Tryz.sizeOf92
  v51 := Tryz.zeroValue92
  t53 := Tryz.underlying88
  a53 := Tryz.isAgg88
  z53 := Tryz.sizeOf88
  v53 := Tryz.zeroValue88
  t75 := Tryz.underlying70
  a75 := Tryz.isAgg70
  z75 := Tryz.sizeOf70
  v75 := Tryz.zeroValue70
  t127 := Tryz.underlying101
  a127 := Tryz.isAgg101
  z127 := Tryz.sizeOf101
  v127 := Tryz.zeroValue101
  t143 := Tryz.underlying193
  a143 := Tryz.isAgg193
  z143 := Tryz.sizeOf193
  v143 := Tryz.zeroValue193
  t145 := Tryz.underlying195
  a145 := Tryz.isAgg195
  z145 := Tryz.sizeOf195
  v145 := Tryz.zeroValue195
  t167 := Tryz.underlying157
  a167 := Tryz.isAgg157
  z167 := Tryz.sizeOf157
  v167 := Tryz.zeroValue157
  t168 := Tryz.underlying158
  a168 := Tryz.isAgg158
  z168 := Tryz.sizeOf158
  v168 := Tryz.zeroValue158
  t171 := Tryz.underlying221
  a171 := Tryz.isAgg221
  z171 := Tryz.sizeOf221
  v171 := Tryz.zeroValue221
  t173 := Tryz.underlying223
  a173 := Tryz.isAgg223
  z173 := Tryz.sizeOf223
  v173 := Tryz.zeroValue223
  t210 := Tryz.underlying169
  a210 := Tryz.isAgg169
  z210 := Tryz.sizeOf169
  v210 := Tryz.zeroValue169
  t212 := Tryz.underlying230
  a212 := Tryz.isAgg230
  z212 := Tryz.sizeOf230
  v212 := Tryz.zeroValue230
  t213 := Tryz.underlying231
  a213 := Tryz.isAgg231
  z213 := Tryz.sizeOf231
  t232 := Tryz.underlying234
  a232 := Tryz.isAgg234
  z232 := Tryz.sizeOf234
  v232 := Tryz.zeroValue234
  t233 := Tryz.underlying235
  a233 := Tryz.isAgg235
  z233 := Tryz.sizeOf235
  v233 := Tryz.zeroValue235
  g15 := by kernel_rfl
  g16 := by kernel_rfl
  g17 := by kernel_rfl
  g18 := by kernel_rfl
  g19 := by kernel_rfl
  t80 := Tryz.underlying74
  a80 := Tryz.isAgg74
  z80 := Tryz.sizeOf74
  v80 := Tryz.zeroValue74
  i0 := by kernel_rfl
  i2 := by kernel_rfl
  i3 := by kernel_rfl
  i4 := by kernel_rfl
  i5 := by kernel_rfl
  i9 := by kernel_rfl
  i20 := by kernel_rfl
  i37 := by kernel_rfl
  i46 := by kernel_rfl
  i51 := by kernel_rfl
  i53 := by kernel_rfl
  i75 := by kernel_rfl
  i80 := by kernel_rfl
  i127 := by kernel_rfl
  i143 := by kernel_rfl
  i145 := by kernel_rfl
  i167 := by kernel_rfl
  i168 := by kernel_rfl
  i171 := by kernel_rfl
  i173 := by kernel_rfl
  i210 := by kernel_rfl
  i212 := by kernel_rfl
  i232 := by kernel_rfl
  i233 := by kernel_rfl
  m15 := by kernel_rfl
  m16 := by kernel_rfl
  m17 := by kernel_rfl
  m18 := by kernel_rfl
  m19 := by kernel_rfl
  c0 := by kernel_rfl
  c2 := by kernel_rfl
  c3 := by kernel_rfl
  c4 := by kernel_rfl
  c5 := by kernel_rfl
  c9 := by kernel_rfl
  c20 := by kernel_rfl
  c37 := by kernel_rfl
  c46 := by kernel_rfl
  c51 := by kernel_rfl
  c53 := by kernel_rfl
  c75 := by kernel_rfl
  c80 := by kernel_rfl
  c127 := by kernel_rfl
  c143 := by kernel_rfl
  c145 := by kernel_rfl
  c167 := by kernel_rfl
  c168 := by kernel_rfl
  c171 := by kernel_rfl
  c173 := by kernel_rfl
  c210 := by kernel_rfl
  c212 := by kernel_rfl
  c213 := by kernel_rfl
  c232 := by kernel_rfl
  c233 := by kernel_rfl }
def Tryz.lays321_ren : Go.Shelf.Ren := ⟨fun | 321 => 159 | n => n, fun | 5 => 5 | n => n, fun | n => n⟩
theorem Tryz.lays321 : Go.Proofs.Lays.n321 Tryz.prog Tryz.lays321_ren := {
  mixed := by kernel_rfl
  f321 := Tryz.func159.trans (congrArg some (by kernel_rfl))
  t5 := Tryz.underlying5
  a5 := Tryz.isAgg5
  z5 := Tryz.sizeOf5
  v5 := Tryz.zeroValue5 }
open Go.RowKit in
/-- internal/strconv.lower: 'c | ('x' - 'X')': the bit 32 set. The world is as it was. (LAID: no walk: one application.) -/
theorem Tryz.internal_strconv_lower (c : Int) (w : World) :
    Calls Tryz.prog 159 #[.int .u8 c] w fun e w' => e = .returned (.int .u8 (bits .or .u8 c 32)) ∧ w' = w := Any.internal_strconv_lower Tryz.lays321 c w
open Go.RowKit in
/-- strconv.toError, at the inner package's ErrRange: 'rangeError(fn, s)' as an error: A *NumError IN A NEW BLOCK. (LAID: no walk: one application.) -/
theorem Tryz.strconv_toError_range (fn s : ByteArray) (base bits : Int) (ev : Value) (w : World) (hlim : s.size ≤ 281474976710656) (hv : w.cell? ⟨3, 0, none⟩ = some ev) (hev : ev = .nilIface ∨ ∃ te pe, ev = .iface te pe) :
    Calls Tryz.prog 121 #[.string fn, .string s, .int .i64 base, .int .i64 bits, .iface 157 (.int .i64 1)] w fun e w' => ∃ N, e = .returned (.iface 158 (.pointer (some ⟨N, 0, none⟩))) ∧ w.heap.size ≤ N ∧ w'.heap[N]? = some (.cells #[.string fn, .string s, ev] 169 (0, 0)) ∧ Below w.heap.size w w' := Any.strconv_toError_range Tryz.laysC245 fn s base bits ev w hlim hv hev
def Tryz.lays264_ren : Go.Shelf.Ren := ⟨fun | 264 => 173 | n => n, fun | 53 => 88 | 46 => 112 | n => n, fun | n => n⟩
theorem Tryz.lays264 : Go.Proofs.Lays.n264 Tryz.prog Tryz.lays264_ren := {
  mixed := by kernel_rfl
  f264 := Tryz.func173.trans (congrArg some (by kernel_rfl))
  t46 := Tryz.underlying112
  a46 := Tryz.isAgg112
  z46 := Tryz.sizeOf112
  v46 := Tryz.zeroValue112
  t53 := Tryz.underlying88
  a53 := Tryz.isAgg88
  z53 := Tryz.sizeOf88
  v53 := Tryz.zeroValue88 }
open Go.RowKit Go.Lib in
theorem Tryz.bits_Mul64 (x y : Nat) (hx : x < 18446744073709551616) (hy : y < 18446744073709551616) (w : World) :
    Calls Tryz.prog 173 #[.int .u64 x, .int .u64 y] w fun e w' => e = .returned (.tuple #[.int .u64 ((x * y / 18446744073709551616 : Nat) : Int), .int .u64 ((x * y % 18446744073709551616 : Nat) : Int)]) ∧ w' = w := Any.bits_Mul64 Tryz.lays264 x y hx hy w

end Go.Proofs
/- strconv: the small functions under parseFloat64. -/
set_option linter.unusedVariables false
set_option linter.unusedSimpArgs false
namespace Go.Proofs.YtpkeonafcldkhaaGreatDoor
open Go.RowKit

theorem fp_bool2 (b : Bool) (w : World) :
    Calls Tryz.prog 151 #[.bool b] w fun e w' => e = .returned (.int .u64 (if b then 1 else 0)) ∧ w = w' := by
  cases b
  all_goals
    go_enter Tryz.func151, Tryz.ntmps151
    go_wp2
    go_ret
    exact ⟨rfl, rfl⟩
theorem fp_round (u : Nat) (hu : u < 18446744073709551600) (w : World) :
    Calls Tryz.prog 168 #[.int .u64 (u : Int)] w fun e w' => e = .returned (.int .u64 (roundU u : Nat)) ∧ w = w' := by
  have h1 : bits .and .u64 ((u : Int) / 4) 1 = ((u / 4 &&& 1 : Nat) : Int) := u64_and_nat (u / 4) 1 (by omega) (by omega)
  have h2 : (u / 4 &&& 1) ≤ 1 := Nat.and_le_right
  have h3 : IntKind.u64.wrap ((u : Int) + 1) = (u : Int) + 1 := by rw [IntKind.wrap_u64]; omega
  have h4 : IntKind.u64.wrap ((u : Int) + 1 + ((u / 4 &&& 1 : Nat) : Int)) = ((u + 1 + (u / 4 &&& 1) : Nat) : Int) := by rw [IntKind.wrap_u64]; omega
  go_enter Tryz.func168, Tryz.ntmps168
  go_wp2
  go_ret
  refine ⟨ret_int ?_, rfl⟩
  have h5 : (u / 4 &&& 1) = u / 4 % 2 := Nat.and_one_is_mod _
  unfold roundU
  rw [h5]
  simp
theorem fp_unmin (w : World) :
    Calls Tryz.prog 166 #[.int .u64 9007199254740992] w fun e w' => e = .returned (.int .u64 36028797018963966) ∧ w = w' := by
  go_enter Tryz.func166, Tryz.ntmps166
  go_wp2
  go_ret
  exact ⟨rfl, rfl⟩
theorem fp_log2Pow10 (p : Int) (h : -1000 ≤ p ∧ p ≤ 1000) (w : World) :
    Calls Tryz.prog 162 #[.int .i64 p] w fun e w' => e = .returned (.int .i64 (log2P p)) ∧ w = w' := by
  have h1 : wrap64 (p * 108853) = p * 108853 := by unfold wrap64; omega
  go_enter Tryz.func162, Tryz.ntmps162
  go_wp2
  go_ret
  exact ⟨rfl, rfl⟩
/-- An error's value: out of range, or none. -/
def rngV (r : Bool) : Value := if r then .iface 157 (.int .i64 1) else .nilIface
theorem run_frombits (x : Int) (w : World) : (callFunc 152 #[.int .u64 x]).run Tryz.prog w = .ok (.value (.float .f64 x.toNat)) w := by
  rw [run_callFunc_extern Tryz.func152 (by kernel_rfl) (by kernel_rfl) (by kernel_rfl) (e := Extern.MathFloatBits.float64frombits) (by kernel_rfl)]
  rfl
set_option maxRecDepth 100000 in
theorem fp_pack64 (m : Nat) (e : Int) (hm : m < 9223372036854775808) (he : -1074 ≤ e ∧ e ≤ 100000) (w : World) :
    Calls Tryz.prog 171 #[.int .u64 (m : Int), .int .i64 e] w fun e' w' => e' = .returned (.tuple #[.float .f64 (packB m e), rngV (packRng m e)]) ∧ w = w' := by
  have h1 : bits .and .u64 (m : Int) 4503599627370496 = ((m &&& 4503599627370496 : Nat) : Int) := u64_and_nat m 4503599627370496 (by omega) (by omega)
  have h2 : bits .and .u64 (m : Int) 9223372036854775808 = 0 := by
    have h3 := u64_and_nat m 9223372036854775808 (by omega) (by omega)
    have h4 : m &&& 9223372036854775808 = 0 := by
      apply Nat.eq_of_testBit_eq
      intro i
      rw [Nat.testBit_and, show (9223372036854775808 : Nat) = 2 ^ 63 from rfl, Nat.testBit_two_pow]
      by_cases h : 63 = i
      · subst h; rw [Nat.testBit_lt_two_pow (by omega)]; simp
      · simp [h]
    rw [h4] at h3
    exact h3
  have h5 : bits .or .u64 0 9218868437227405312 = 9218868437227405312 := u64_or_nat 0 9218868437227405312 (by omega) (by omega)
  have h6 : bits .andNot .u64 (m : Int) 4503599627370496 = ((m &&& 18442240474082181119 : Nat) : Int) := u64_andNot_nat m 4503599627370496 (by omega) (by omega)
  obtain ⟨q, hq⟩ : ∃ q : Nat, 1075 + e = (q : Int) := ⟨(1075 + e).toNat, by omega⟩
  have h7 : IntKind.u64.wrap (q : Int) = q := by rw [IntKind.wrap_u64]; omega
  have h8 : IntKind.i64.wrap (1075 + e) = q := by rw [IntKind.wrap_i64]; omega
  have h9 : IntKind.u64.wrap ((q : Int) * 4503599627370496) = ((q * 4503599627370496 % 18446744073709551616 : Nat) : Int) := by rw [IntKind.wrap_u64]; omega
  have h10 : bits .or .u64 ((m &&& 18442240474082181119 : Nat) : Int) ((q : Int) * 4503599627370496 % 18446744073709551616) = (((m &&& 18442240474082181119) ||| (q * 4503599627370496 % 18446744073709551616) : Nat) : Int) := by
    rw [show (q : Int) * 4503599627370496 % 18446744073709551616 = ((q * 4503599627370496 % 18446744073709551616 : Nat) : Int) by omega]
    exact u64_or_nat _ _ (Nat.lt_of_le_of_lt Nat.and_le_left (by omega)) (Nat.mod_lt _ (by omega))
  by_cases h0 : m &&& 4503599627370496 = 0
  · have b0 : (bits .and .u64 (m : Int) 4503599627370496 == 0) = true := by rw [h1, h0]; rfl
    have hB : packB m e = m := by rw [packB, if_pos h0]
    have hR : packRng m e = false := by rw [packRng, decide_eq_false (by simpa using h0)]; rfl
    clear h1 h2 h5 h6 h7 h8 h9 h10
    go_enter Tryz.func171, Tryz.ntmps171
    go_wp2_with fail
    rw [run_frombits]
    rw [Oper.upon_value]
    go_wp2_with fail
    go_ret2
    rw [hB, hR]
    exact ⟨rfl, rfl⟩
  · have b0 : (bits .and .u64 (m : Int) 4503599627370496 == 0) = false := by
      rw [h1]
      have : ¬ ((m &&& 4503599627370496 : Nat) : Int) = 0 := by omega
      simpa using this
    by_cases hr : 972 ≤ e
    · have hB : packB m e = 9218868437227405312 := by rw [packB, if_neg h0, if_pos hr]
      have hR : packRng m e = true := by rw [packRng, decide_eq_true h0, decide_eq_true hr]; rfl
      clear h1 h6 h7 h8 h9 h10
      go_enter Tryz.func171, Tryz.ntmps171
      go_wp2_with fail
      rw [run_frombits]
      rw [Oper.upon_value]
      go_wp2_with fail
      go_ret2
      rw [hB, hR]
      exact ⟨rfl, rfl⟩
    · have hB : packB m e = (m &&& 18442240474082181119) ||| (q * 4503599627370496 % 18446744073709551616) := by
        rw [packB, if_neg h0, if_neg hr, hq]; rfl
      have hR : packRng m e = false := by rw [packRng, decide_eq_false hr, Bool.and_false]
      clear h1 h2 h5
      go_enter Tryz.func171, Tryz.ntmps171
      go_wp2_with fail
      rw [run_frombits]
      rw [Oper.upon_value]
      go_wp2_with fail
      go_ret2
      rw [hB, hR]
      exact ⟨rfl, rfl⟩
end Go.Proofs.YtpkeonafcldkhaaGreatDoor
