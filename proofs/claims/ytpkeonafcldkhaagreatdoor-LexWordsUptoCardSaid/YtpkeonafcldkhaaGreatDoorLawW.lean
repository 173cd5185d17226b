import Derived.Test.YtpkeonafcldkhaaGreatDoorLawA
import Derived.Deep.QuietTactic
import Derived.BigQuiet
/- weirlaw11: LexWords. -/
set_option linter.unusedVariables false
set_option linter.unusedSimpArgs false
namespace Go.Proofs.YtpkeonafcldkhaaGreatDoor
open Go.RowKit

/-- Nothing is asked of num.Read. -/
theorem noNumW : NumT (fun _ => False) (fun _ _ => True) := ⟨fun _ _ => trivial, fun _ _ => trivial, fun _ _ _ h => h.elim⟩
/-- A slice of strings that can be read. -/
def StrSl (w : World) (v : Value) (ss : List ByteArray) : Prop :=
  ∃ ao c, v = .slice ao ss.length c ∧ ∀ j (h : j < ss.length), ∃ g o, ao = some ⟨g, o, none⟩ ∧ g < w.heap.size ∧ w.cell? ⟨g, o + j, none⟩ = some (.string ss[j])
set_option maxRecDepth 100000 in
set_option maxHeartbeats 1000000 in
theorem lex_Join_zero (ao : Option Addr) (c : Nat) (w : World) : Calls Tryz.prog 16 #[.slice ao 0 c] w fun e w' => e = .returned (.string ⟨#[]⟩) ∧ Below w.heap.size w w' := by
  go_enter Tryz.func16, Tryz.ntmps16
  go_wp2_with fail
  go_loopw [8] (fun t8 wr => t8 = .int .i64 0 ∧ Hid (Lib.IsBuilder 68 5 w.heap.size w.heap.size (Lib.byteCells []) wr ∧ Below w.heap.size w wr)) (fun t8 wr => 0)
  case atStart =>
    refine ⟨rfl, Lib.hid ⟨?_, ?_⟩⟩
    · exact .inl ⟨Nat.le_refl _, _, Blk.new w _ _, World.ownsRow_nil _ _ _ _, by simp [Value.ownBlock]⟩
    · exact (Below.refl _ _).alloc (Nat.le_refl _) _
  case round =>
    obtain ⟨rfl, hB⟩ := hrel
    go_wp2_with fail
    refine (Tryz.Builder_String_any w.heap.size w.heap.size [] _ hB.out.1 hB.out.2.size).mono ?_
    rintro e w2 ⟨rfl, hb2⟩
    go_wp2_with fail
    go_ret
    exact ⟨rfl, hB.out.2.trans hb2⟩
set_option maxRecDepth 100000 in
set_option maxHeartbeats 1000000 in
theorem r11_Join_zero (ao : Option Addr) (c : Nat) (w : World) : Calls Tryz.prog 26 #[.slice ao 0 c] w fun e w' => e = .returned (.string ⟨#[]⟩) ∧ Below w.heap.size w w' := by
  go_enter Tryz.func26, Tryz.ntmps26
  go_wp2_with fail
  go_loopw [3, 4] (fun t3 t4 wr => t3 = .slice none 0 0 ∧ t4 = .int .i64 0 ∧ wr = w) (fun _ _ _ => 0)
  case atStart => exact ⟨rfl, rfl, rfl⟩
  case round =>
    obtain ⟨rfl, rfl, rfl⟩ := hrel
    have hback := run_string_own (P := Tryz.prog) (l := []) (World.ownsRow_nil wr wr.heap.size 5 1) 40 9 Tryz.underlying40 Tryz.underlying5 Tryz.underlying9
    go_wp2_with fail
    go_ret
    exact ⟨rfl, Below.refl _ _⟩
/-- A slice of tokens that can be read, the empty ones too. -/
def TokSl2 (w : World) (v : Value) (xs : List (Int × ByteArray × Int)) : Prop :=
  (∃ ao c, v = .slice ao 0 c ∧ xs = []) ∨ ∃ g o c, v = .slice (some ⟨g, o, none⟩) xs.length c ∧ TokRow w g o xs
theorem TokSl2.below {w w' : World} {v : Value} {xs : List (Int × ByteArray × Int)} (h : TokSl2 w v xs) (hb : Below w.heap.size w w') : TokSl2 w' v xs := by
  rcases h with h | ⟨g, o, c, h1, h2⟩
  · exact .inl h
  · exact .inr ⟨g, o, c, h1, h2.below hb⟩
theorem TokSl2.shape {w : World} {v : Value} {xs : List (Int × ByteArray × Int)} (h : TokSl2 w v xs) : ∃ ao c, v = .slice ao xs.length c := by
  rcases h with ⟨ao, c, rfl, rfl⟩ | ⟨g, o, c, h1, h2⟩
  · exact ⟨ao, c, rfl⟩
  · exact ⟨_, c, h1⟩
theorem lex_Join_sl (w : World) (v : Value) (xs : List (Int × ByteArray × Int)) (hx : TokSl2 w v xs) (hn : xs.length ≤ 1099511627776) (hlen : (joinL (textsOf xs)).length ≤ 140737488355328) :
    Calls Tryz.prog 16 #[v] w fun e w' => e = .returned (.string ⟨(joinL (textsOf xs)).toArray⟩) ∧ Below w.heap.size w w' := by
  rcases hx with ⟨ao, c, rfl, rfl⟩ | ⟨g, o, c, rfl, hr⟩
  · exact lex_Join_zero ao c w
  · exact lex_Join w g o c xs hr hn hlen
theorem r11_Join_sl (w : World) (v : Value) (xs : List (Int × ByteArray × Int)) (hx : TokSl2 w v xs) (hn : xs.length ≤ 1099511627776) (hlen : (joinL (textsOf xs)).length ≤ 140737488355328) :
    Calls Tryz.prog 26 #[v] w fun e w' => e = .returned (.string ⟨(joinL (textsOf xs)).toArray⟩) ∧ Below w.heap.size w w' := by
  rcases hx with ⟨ao, c, rfl, rfl⟩ | ⟨g, o, c, rfl, hr⟩
  · exact r11_Join_zero ao c w
  · exact r11_Join w g o c xs hr hn hlen
set_option maxRecDepth 100000 in
set_option maxHeartbeats 2000000 in
theorem law_LexWords (w : World) (vn vt : Value) (ss : List ByteArray) (xs : List (Int × ByteArray × Int)) (hs : StrSl w vn ss) (ht : TokSl2 w vt xs) (hss : ∀ s ∈ ss, s.size ≤ maxLen) (hns : ss.length ≤ 1099511627776)
    (hn : xs.length ≤ 1099511627776) (hlen : (joinL (textsOf xs)).length ≤ 140737488355328) :
    Calls Tryz.prog 9 #[vn, vt] w fun e w' => e = .returned (.bool true) ∧ Below w.heap.size w w' := by
  obtain ⟨ao, c, rfl, hcell⟩ := hs
  obtain ⟨at', ct, rfl⟩ := ht.shape
  have HC := Lib.hid hcell
  have HT := Lib.hid ht
  have HSS := Lib.hid hss
  have HLEN := Lib.hid hlen
  clear hcell ht hss hlen
  go_enter Tryz.func9, Tryz.ntmps9
  go_wp2_with fail
  refine (law_alive noNumW _ trivial).mono ?_
  rintro e w1 ⟨rfl, hb1⟩
  have HB1 := Lib.hid hb1
  clear hb1
  go_wp2_with fail
  go_loopw [5] (fun t5 wr => ∃ k : Nat, Hid (k ≤ ss.length) ∧ t5 = .int .i64 (k : Int) ∧ Hid (Below w.heap.size w wr)) (fun t5 _ => ss.length - (intOf t5).toNat)
  case atStart => exact ⟨0, Lib.hid (Nat.zero_le _), rfl, HB1⟩
  case round =>
    obtain ⟨k, hk, rfl, hB⟩ := hrel
    by_cases hi : k < ss.length
    · have p1 : ((k : Int) < (ss.length : Int)) = True := by simp; omega
      obtain ⟨g, o, rfl, hg, hc⟩ := HC.out k hi
      have hm := HSS.out ss[k] (List.getElem_mem hi)
      obtain ⟨t, ht⟩ : ∃ t, t = ss[k] := ⟨_, rfl⟩
      rw [← ht] at hc hm
      have c1 : wr.cell? ⟨g, o + k, none⟩ = some (.string t) := (hB.out.cell (p := ⟨g, o + k, none⟩) hg).trans hc
      have HM := Lib.hid hm
      have HCC := Lib.hid hc
      clear ht hm hc
      go_wp2_with fail
      refine (lex_word t _ HM.out).mono ?_
      rintro e w2 ⟨rfl, hb2⟩
      have HB2 := Lib.hid (hB.out.trans (hb2.mono hB.out.size))
      have c2 : w2.cell? ⟨g, o + k, none⟩ = some (.string t) := (HB2.out.cell (p := ⟨g, o + k, none⟩) hg).trans HCC.out
      clear c1 hb2
      go_wp2_with fail
      refine (r11_word t _ HM.out).mono ?_
      rintro e w3 ⟨rfl, hb3⟩
      have HB3 := Lib.hid (HB2.out.trans (hb3.mono HB2.out.size))
      have c3 : w3.cell? ⟨g, o + k, none⟩ = some (.string t) := (HB3.out.cell (p := ⟨g, o + k, none⟩) hg).trans HCC.out
      clear c2 hb3
      generalize wordOut t.data.toList = X
      generalize word t.data.toList = b0
      have x2 : (b0 != b0) = false := bne_self_eq_false b0
      obtain ⟨b1, hb1⟩ : ∃ b1, isLabel t.data.toList = b1 := ⟨_, rfl⟩
      obtain ⟨b2, hb2⟩ : ∃ b2, isMetric t.data.toList = b2 := ⟨_, rfl⟩
      have x3 : (b1 != b1) = false := bne_self_eq_false b1
      have x4 : (b2 != b2) = false := bne_self_eq_false b2
      have H1 := Lib.hid hb1
      have H2 := Lib.hid hb2
      clear hb1 hb2
      go_wp2_with fail
      go_quiet (first
        | (go_at_call 21; exact Calls.quiet_of_same ((lex_isLabel t _ HM.out).mono fun _ _ ⟨h1, h2⟩ => ⟨by rw [h1, H1.out], h2.symm⟩))
        | (go_at_call 23; exact Calls.quiet_of_same ((r11_isLabel t _ HM.out).mono fun _ _ ⟨h1, h2⟩ => ⟨by rw [h1, H1.out], h2.symm⟩))
        | (go_at_call 24; exact Calls.quiet_of_same ((lex_isMetric t _ HM.out).mono fun _ _ ⟨h1, h2⟩ => ⟨by rw [h1, H2.out], h2.symm⟩))
        | (go_at_call 25; exact Calls.quiet_of_same ((r11_isMetric t _ HM.out).mono fun _ _ ⟨h1, h2⟩ => ⟨by rw [h1, H2.out], h2.symm⟩)))
      have hb4 : Below w.heap.size w (w3.drewN nq) := below_drewN HB3.out nq
      generalize w3.drewN nq = w4 at hb4 ⊢
      have HB4 := Lib.hid hb4
      clear hb4 c3
      go_wp2_with fail
      go_roundw
      case rel => exact ⟨k + 1, Lib.hid hi, (by first | rfl | (simp; done) | (apply vi'; simp only [wrap64]; omega)), HB4⟩
      case measure => simp [intOf]; omega
    · have p1 : ((k : Int) < (ss.length : Int)) = False := by simp; omega
      go_wp2_with fail
      refine (r11_Join_sl _ _ _ (HT.out.below (hB.out.mono (Nat.le_refl _))) hn HLEN.out).mono ?_
      rintro e w4 ⟨rfl, hb4⟩
      have HB4 := Lib.hid (hB.out.trans (hb4.mono hB.out.size))
      clear hb4
      go_wp2_with fail
      refine (lex_Join_sl _ _ _ (HT.out.below HB4.out) hn HLEN.out).mono ?_
      rintro e w5 ⟨rfl, hb5⟩
      have HB5 := Lib.hid (HB4.out.trans (hb5.mono HB4.out.size))
      clear hb5
      go_wp2_with fail
      go_ret
      exact ⟨by simp, HB5.out⟩
end Go.Proofs.YtpkeonafcldkhaaGreatDoor
