import Derived.Test.YtpkeonafcldkhaaGreatDoorQ18
import Derived.Laws.OwnMore
/- Part of the proof of YtpkeonafcldkhaaGreatDoorCardS CardV: LawA. -/
set_option linter.unusedVariables false
set_option linter.unusedSimpArgs false
namespace Go.Proofs.YtpkeonafcldkhaaGreatDoor
open Go.RowKit
def headB (l : List UInt8) : Bool := digit (atB l 0) || ((atB l 0).toNat == 46 && decide (1 < l.length) && digit (atB l 1))
def quietB (l : List UInt8) : Bool := (List.range (l.length + 1)).all fun k => !headB (l.drop k) || decide (numPrefix (l.drop k) < spanPrefix (l.drop k))
theorem headB_of {l : List UInt8} (h : numHead l) : headB l = true := by
 rcases h with h | ⟨h1, h2, h3⟩
 ·simp [headB, h]
 ·simp [headB, h1, h2, h3]
theorem quiet_of {l : List UInt8} (h : quietB l = true) (ok : List UInt8 → Prop) (k : Nat) : NumOk ok (l.drop k) := by
 intro hh hn
 rcases Nat.lt_or_ge k (l.length + 1) with hk | hk
 ·have := List.all_eq_true.1 h k (List.mem_range.2 hk)
  rw [headB_of hh] at this
  simp at this
  omega
 ·have : l.drop k = [] := List.drop_eq_nil_of_le (by omega)
  rw [this] at hh
  rcases hh with h | ⟨_, h, _⟩
  ·exact absurd h (by decide)
  ·exact absurd h (by decide)
def tokV (t : Tok) : Int × ByteArray × Int := ((t.kind : Int), ⟨t.text.toArray⟩, (t.pos : Int))
theorem toksCells_at (ts : List Tok) : ∀ (j : Nat) (h : j < ts.length), (toksCells ts)[j * 3]? = some (.int .i64 (ts[j].kind : Int)) ∧ (toksCells ts)[j * 3 + 1]? = some (.string ⟨ts[j].text.toArray⟩) ∧ (toksCells ts)[j * 3 + 2]? = some (.int .i64 (ts[j].pos : Int)) := by
 induction ts with
 |nil => intro j h; simp at h
 |cons t r ih =>
  intro j h
  have e : toksCells (t :: r) = t.cells ++ toksCells r := by simp [toksCells]
  cases j with
  |zero => rw [e]; exact ⟨rfl, rfl, rfl⟩
  |succ j =>
   have hl : t.cells.length = 3 := rfl
   obtain ⟨a, b, c⟩ := ih j (by simpa using h)
   rw [e]
   refine ⟨?_, ?_, ?_⟩
   ·rw [List.getElem?_append_right (by rw [hl]; omega), hl, show (j + 1) * 3 - 3 = j * 3 by omega]; exact a
   ·rw [List.getElem?_append_right (by rw [hl]; omega), hl, show (j + 1) * 3 + 1 - 3 = j * 3 + 1 by omega]; exact b
   ·rw [List.getElem?_append_right (by rw [hl]; omega), hl, show (j + 1) * 3 + 2 - 3 = j * 3 + 2 by omega]; exact c
theorem tokRow_of_own {w : World} {base e g cap : Nat} {ts : List Tok} (h : w.ownsRow base e 3 (.slice (some ⟨g, 0, none⟩) ts.length cap) ts.length (toksCells ts)) : TokRow w g 0 (ts.map tokV) := by
 refine ⟨(h.lt g rfl).2, fun j hj => ?_⟩
 have hj' : j < ts.length := by simpa using hj
 obtain ⟨a, b, c⟩ := toksCells_at ts j hj'
 have e : (ts.map tokV)[j] = tokV ts[j] := by simp
 rw [e, Nat.zero_add]
 refine ⟨?_, ?_, ?_⟩
 ·rw [h.cellAt _ (by omega), a]; rfl
 ·rw [h.cellAt _ (by omega), b]; rfl
 ·rw [h.cellAt _ (by omega), c]; rfl
theorem tokSl_of_own {w : World} {base e : Nat} {v : Value} {ts : List Tok} (h : w.ownsRow base e 3 v ts.length (toksCells ts)) : TokSl w v (ts.map tokV) := by
 rcases h.2 with ⟨rfl, hn⟩ | ⟨g, cap, cur, rfl, _⟩
 ·refine .inl ⟨rfl, ?_⟩
  rw [List.eq_nil_of_length_eq_zero hn]; rfl
 ·exact .inr ⟨g, 0, cap, by simp, tokRow_of_own h⟩
theorem textsOf_toks (ts : List Tok) : textsOf (ts.map tokV) = ts.map (·.text) := by simp [textsOf, tokV]
def aliveL : List UInt8 := [97, 32, 58, 98, 61, 126, 53, 109, 49, 115, 34, 120, 34]
def aliveT : List Tok := [⟨1, [97], 0⟩, ⟨2, [58, 98], 2⟩, ⟨6, [61, 126], 4⟩, ⟨4, [53, 109, 49, 115], 6⟩, ⟨5, [34, 120, 34], 10⟩]
theorem alive_scan : scanAll aliveL = (aliveT, none) := by kernel_rfl
theorem alive_scan2 : scanAll [97, 32, 33] = ([⟨1, [97], 0⟩], some (2, 110)) := by kernel_rfl
theorem alive_join : joinL (aliveT.map (·.text)) = [97, 32, 58, 98, 32, 61, 126, 32, 53, 109, 49, 115, 32, 34, 120, 34] := by kernel_rfl
theorem alive_quiet : quietB aliveL = true := by kernel_rfl
theorem alive_quiet2 : quietB [97, 32, 33] = true := by kernel_rfl
set_option maxRecDepth 100000 in
set_option maxHeartbeats 1000000 in
theorem law_alive {ok : List UInt8 → Prop} {T : Nat → World → Prop} (hT : NumT ok T) (w : World) (hTw : T w.heap.size w) :
  Calls Tryz.prog 10 #[] w fun e w' => e = .returned (.bool true) ∧ Below w.heap.size w w' := by
 go_enter Tryz.func10, Tryz.ntmps10
 have HT := Lib.hid hTw
 clear hTw
 go_wp2_with fail
 refine (lex_Scan hT w ⟨#[97, 32, 58, 98, 61, 126, 53, 109, 49, 115, 34, 120, 34]⟩ (by decide) (quiet_of (l := aliveL) alive_quiet ok) HT.out).mono ?_
 rintro e w1 ⟨v, rfl, hown, hb1⟩
 have es : scanAll (⟨#[97, 32, 58, 98, 61, 126, 53, 109, 49, 115, 34, 120, 34]⟩ : ByteArray).data.toList = (aliveT, none) := alive_scan
 rw [es] at hown ⊢
 simp only [outToks, outAt, outErr] at hown ⊢
 have hcells := hown.2
 rcases hcells with ⟨_, h0⟩ | ⟨g, cap, cur, rfl, _⟩
 ·exact absurd h0 (by decide)
 have hrow := tokSl_of_own hown
 have c3 : w1.cell? ⟨g, 3, none⟩ = some (.int .i64 2) := by rw [hown.cellAt 3 (by decide)]; rfl
 have c5 : w1.cell? ⟨g, 5, none⟩ = some (.int .i64 2) := by rw [hown.cellAt 5 (by decide)]; rfl
 have c4 : w1.cell? ⟨g, 4, none⟩ = some (.string ⟨#[58, 98]⟩) := by rw [hown.cellAt 4 (by decide)]; rfl
 have c9 : w1.cell? ⟨g, 9, none⟩ = some (.int .i64 4) := by rw [hown.cellAt 9 (by decide)]; rfl
 have c13 : w1.cell? ⟨g, 13, none⟩ = some (.string ⟨#[34, 120, 34]⟩) := by rw [hown.cellAt 13 (by decide)]; rfl
 have hl : aliveT.length = 5 := rfl
 rw [hl] at hrow ⊢
 have HR := Lib.hid hrow
 have HB := Lib.hid hb1
 have HT1 := Lib.hid (hT.mono (hT.keep HT.out hb1) hb1.size)
 clear hown hrow hb1 es
 go_wp2_with fail
 refine (lex_Scan hT _ ⟨#[97, 32, 33]⟩ (by decide) (quiet_of (l := [97, 32, 33]) alive_quiet2 ok) HT1.out).mono ?_
 rintro e w2 ⟨v2, rfl, _, hb2⟩
 have es : scanAll (⟨#[97, 32, 33]⟩ : ByteArray).data.toList = ([⟨1, [97], 0⟩], some (2, 110)) := alive_scan2
 rw [es]
 simp only [outAt, outErr]
 have HR2 := Lib.hid (HR.out.below hb2)
 have HB2 := Lib.hid (HB.out.trans (hb2.mono HB.out.size))
 clear es hb2 c3 c4 c5 c9 c13
 go_wp2_with fail
 refine (lex_Join_any _ _ _ HR2.out (by decide) (by rw [textsOf_toks, alive_join]; decide)).mono ?_
 rintro e w3 ⟨rfl, hb3⟩
 rw [textsOf_toks, alive_join]
 have HB3 := Lib.hid (HB2.out.trans (hb3.mono HB2.out.size))
 clear hb3
 go_wp2_with (first | (go_at_call 21; refine (lex_isLabel _ _ (by unfold maxLen; decide)).mono ?_; rintro e w' ⟨rfl, rfl⟩) | (go_at_call 24; refine (lex_isMetric _ _ (by unfold maxLen; decide)).mono ?_; rintro e w' ⟨rfl, rfl⟩))
 go_ret
 exact ⟨rfl, HB3.out⟩
end Go.Proofs.YtpkeonafcldkhaaGreatDoor
