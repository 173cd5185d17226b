import Derived.Test.YtpkeonafcldkhaaGreatDoorM06
/- lex: number. -/
set_option linter.unusedVariables false
set_option linter.unusedSimpArgs false
namespace Go.Proofs.YtpkeonafcldkhaaGreatDoor
open Go.RowKit

/-- What is asked of num.Read, whatever tables lie in memory. -/
def numHead (l : List UInt8) : Prop := digit (atB l 0) = true ∨ ((atB l 0).toNat = 46 ∧ 1 < l.length ∧ digit (atB l 1) = true)
/-- Is the number at the head one that num.Read is walked for? -/
def NumOk (ok : List UInt8 → Prop) (l : List UInt8) : Prop := numHead l → ¬ numPrefix l < spanPrefix l → ok (l.take (numPrefix l))
structure NumT (ok : List UInt8 → Prop) (T : Nat → World → Prop) : Prop where
  keep : ∀ {B w w'}, T B w → Below B w w' → T B w'
  mono : ∀ {B B' w}, T B w → B ≤ B' → T B' w
  read : ∀ (s : ByteArray) (B : Nat) (w : World), ok s.data.toList → T B w → B ≤ w.heap.size → s.size ≤ 281474976710656 →
    Calls Tryz.prog 76 #[.string s] w fun e w' => (∃ v, e = .returned (.tuple #[v, .int .i64 (numErr s.data.toList : Nat)])) ∧ Below w.heap.size w w'
/-- What a token's function leaves. -/
def TokPost (base p : Nat) (s : ByteArray) (at' : Nat) (br sq : Bool) (ts : List Tok) (w : World) : TokR → Ending → World → Prop
  | .bad k, e, w' => e = .returned (.int .i64 (k : Nat)) ∧ ∃ v, ZAt w' p s at' br sq v ∧ w'.ownsRow base 33 3 v ts.length (toksCells ts) ∧ Below base w w'
  | .tok kind n br' sq', e, w' => PutPost base p s (at' + n) br' sq' (ts ++ [⟨kind, (s.data.toList.drop at').take n, at'⟩]) w e w'
set_option maxRecDepth 100000 in
set_option maxHeartbeats 2000000 in
theorem lex_number {ok : List UInt8 → Prop} {T : Nat → World → Prop} (hT : NumT ok T) (w : World) (base p : Nat) (s : ByteArray) (at' : Nat) (br sq : Bool) (v : Value) (ts : List Tok) (hs : s.size ≤ 281474976710656) (hat : at' < s.size) (hok : ¬ numPrefix (s.data.toList.drop at') < spanPrefix (s.data.toList.drop at') → ok ((s.data.toList.drop at').take (numPrefix (s.data.toList.drop at')))) (hTw : T base w)
    (hz : ZAt w p s at' br sq v) (hown : w.ownsRow base 33 3 v ts.length (toksCells ts)) (hlen : ts.length ≤ 1099511627776) (hbp : base ≤ p) :
    Calls Tryz.prog 51 #[.pointer (some ⟨p, 0, none⟩)] w (TokPost base p s at' br sq ts w (numberR (s.data.toList.drop at') br sq)) := by
  have c0 : w.cell? ⟨p, 0, none⟩ = some (.string s) := by rw [hz.cell]; rfl
  have c1 : w.cell? ⟨p, 1, none⟩ = some (.int .i64 (at' : Int)) := by rw [hz.cell]; rfl
  have q1 : ((at' : Int) ≤ (s.size : Int)) = True := by simp; omega
  obtain ⟨t, ht⟩ : ∃ t, t = s.extract at' s.size := ⟨_, rfl⟩
  have htd : t.data.toList = s.data.toList.drop at' := by rw [ht, extract_from]
  have hts : t.size = s.size - at' := by rw [ht]; simp
  rw [← htd] at hok ⊢
  have HOK := Lib.hid hok
  clear hok
  have hlt := hz.lt
  have HZ := Lib.hid hz
  have HO := Lib.hid hown
  have HD := Lib.hid htd
  have HT := Lib.hid ht
  have HW := Lib.hid hTw
  clear hz hown htd ht hTw
  go_enter Tryz.func51, Tryz.ntmps51
  go_wp2_with fail
  go_quiet (fail)
  rw [← HT.out]
  have hbn : Below w.heap.size w (w.drewN nq) := below_drewN (Below.refl w.heap.size w) nq
  generalize w.drewN nq = w2 at hbn ⊢
  go_wp2_with fail
  refine (num_Prefix t _ (by omega)).mono ?_
  rintro e w3 ⟨rfl, rfl⟩
  go_wp2_with fail
  refine (span_Prefix t _ (by omega)).mono ?_
  rintro e w3 ⟨rfl, hb3⟩
  have hbw := hbn.trans (hb3.mono hbn.size)
  clear hb3 hbn
  have h1 := numPrefix_le t.data.toList
  have h2 := spanPrefix_le t.data.toList
  rw [len_data] at h1 h2
  obtain ⟨np, hnp⟩ : ∃ k, numPrefix t.data.toList = k := ⟨_, rfl⟩
  obtain ⟨sp, hsp⟩ : ∃ k, spanPrefix t.data.toList = k := ⟨_, rfl⟩
  rw [hnp] at h1
  rw [hsp] at h2
  rw [hnp, hsp]
  have hz3 := HZ.out.below hbw
  have ho3 := own_belowT HO.out hbw
  have hTw3 := hT.keep HW.out (hbw.mono (Nat.le_of_lt (Nat.lt_of_le_of_lt hbp hlt)))
  have hB3 : base ≤ w3.heap.size := Nat.le_of_lt (Nat.lt_of_le_of_lt hbp hz3.lt)
  have hbb := hbw.mono (Nat.le_of_lt (Nat.lt_of_le_of_lt hbp hlt))
  have HNP := Lib.hid hnp
  have HSP := Lib.hid hsp
  have HZ3 := Lib.hid hz3
  have HO3 := Lib.hid ho3
  have HBB := Lib.hid hbb
  have HTW := Lib.hid hTw3
  clear hnp hsp hz3 ho3 hbb hTw3 hbw c0 c1
  have hbad : ∀ (w' : World), numberR t.data.toList br sq = .bad 112 → Below base w3 w' → Below w3.heap.size w3 w' → TokPost base p s at' br sq ts w (numberR t.data.toList br sq) (.returned (.int .i64 112)) w' := by
    intro w' h hb1 hb2
    rw [h]
    exact ⟨rfl, v, HZ3.out.below hb2, own_belowT HO3.out hb2, HBB.out.trans hb1⟩
  have HBAD := Lib.hid hbad
  clear hbad
  cases hd : decide (np < sp)
  · obtain ⟨hk, hn, he⟩ := num_num HNP.out (by rw [HSP.out]; exact of_decide_eq_false hd)
    have HN := Lib.hid hn
    have HK := Lib.hid hk
    have HE := Lib.hid he
    clear hk hn he
    have HOK2 := Lib.hid (HOK.out (by rw [HNP.out, HSP.out]; exact of_decide_eq_false hd))
    by_cases hlt2 : np < t.size
    · have hFe := numFault_in HN.out hlt2
      have hb2 : ((t[np].toNat : Int) == 46) = (t[np].toNat == 46) := by rw [Bool.eq_iff_iff]; simp; omega
      cases hl : letter t[np]
      · cases hg : digit t[np]
        · cases h46 : ((t[np].toNat : Int) == 46)
          · have hF : numFault t.data.toList = false := by rw [hFe, hl, hg, ← hb2, h46]; rfl
            clear hFe hb2
            go_wp2_with (first | (go_at_call 44; refine (lex_letter _ _).mono ?_; rintro e w' ⟨rfl, rfl⟩) | (go_at_call 47; refine (lex_digit _ _).mono ?_; rintro e w' ⟨rfl, rfl⟩))
            refine (hT.read (t.extract 0 np) base _ (by rw [extract_to, ← HNP.out]; exact HOK2.out) HTW.out hB3 (by simp; omega)).mono ?_
            rintro e w4 ⟨⟨fv, rfl⟩, hb4⟩
            rw [extract_to, ← HE.out]
            have hz4 := HZ3.out.below hb4
            have ho4 := own_belowT HO3.out hb4
            have hb5 := hb4.mono hB3
            have HZ4 := Lib.hid hz4
            have HO4 := Lib.hid ho4
            have HB4 := Lib.hid hb4
            have HB5 := Lib.hid hb5
            clear hz4 ho4 hb4 hb5
            cases hz : ((numBad t.data.toList : Int) != 0)
            · have hR := numberR_ok (br := br) (sq := sq) HK.out HN.out hF (bneF hz)
              have HR := Lib.hid hR
              clear hR
              go_wp2_with fail
              refine (lex_put w4 base p s at' 3 np _ _ rfl rfl br sq v ts hs (by omega) (by omega) HZ4.out HO4.out hlen hbp).mono ?_
              intro e w5 hp
              have h0 := hp.1
              subst h0
              have HQ := Lib.hid (hp.from (HBB.out.trans HB5.out))
              clear hp
              go_wp2_with fail
              go_ret
              rw [HR.out]
              exact HQ.out
            · have hR := numberR_bad (br := br) (sq := sq) hF (bneT hz)
              have HR := Lib.hid hR
              clear hR
              go_wp2_with fail
              go_ret
              exact HBAD.out w4 HR.out HB5.out HB4.out
          · have hF : numFault t.data.toList = true := by rw [hFe, hl, hg, ← hb2, h46]; rfl
            have HF := Lib.hid hF
            clear hFe hb2 hF
            go_wp2_with (first | (go_at_call 44; refine (lex_letter _ _).mono ?_; rintro e w' ⟨rfl, rfl⟩) | (go_at_call 47; refine (lex_digit _ _).mono ?_; rintro e w' ⟨rfl, rfl⟩))
            go_ret
            exact HBAD.out w3 (numberR_fault HF.out) (Below.refl _ _) (Below.refl _ _)
        · have hF : numFault t.data.toList = true := by rw [hFe, hl, hg]; rfl
          have HF := Lib.hid hF
          clear hFe hb2 hF
          go_wp2_with (first | (go_at_call 44; refine (lex_letter _ _).mono ?_; rintro e w' ⟨rfl, rfl⟩) | (go_at_call 47; refine (lex_digit _ _).mono ?_; rintro e w' ⟨rfl, rfl⟩))
          go_ret
          exact HBAD.out w3 (numberR_fault HF.out) (Below.refl _ _) (Below.refl _ _)
      · have hF : numFault t.data.toList = true := by rw [hFe, hl]; rfl
        have HF := Lib.hid hF
        clear hFe hb2 hF
        go_wp2_with (first | (go_at_call 44; refine (lex_letter _ _).mono ?_; rintro e w' ⟨rfl, rfl⟩) | (go_at_call 47; refine (lex_digit _ _).mono ?_; rintro e w' ⟨rfl, rfl⟩))
        go_ret
        exact HBAD.out w3 (numberR_fault HF.out) (Below.refl _ _) (Below.refl _ _)
    · have hF := numFault_out HN.out hlt2
      go_wp2_with (first | (go_at_call 44; refine (lex_letter _ _).mono ?_; rintro e w' ⟨rfl, rfl⟩) | (go_at_call 47; refine (lex_digit _ _).mono ?_; rintro e w' ⟨rfl, rfl⟩))
      refine (hT.read (t.extract 0 np) base _ (by rw [extract_to, ← HNP.out]; exact HOK2.out) HTW.out hB3 (by simp; omega)).mono ?_
      rintro e w4 ⟨⟨fv, rfl⟩, hb4⟩
      rw [extract_to, ← HE.out]
      have hz4 := HZ3.out.below hb4
      have ho4 := own_belowT HO3.out hb4
      have hb5 := hb4.mono hB3
      have HZ4 := Lib.hid hz4
      have HO4 := Lib.hid ho4
      have HB4 := Lib.hid hb4
      have HB5 := Lib.hid hb5
      clear hz4 ho4 hb4 hb5
      cases hz : ((numBad t.data.toList : Int) != 0)
      · have hR := numberR_ok (br := br) (sq := sq) HK.out HN.out hF (bneF hz)
        have HR := Lib.hid hR
        clear hR
        go_wp2_with fail
        refine (lex_put w4 base p s at' 3 np _ _ rfl rfl br sq v ts hs (by omega) (by omega) HZ4.out HO4.out hlen hbp).mono ?_
        intro e w5 hp
        have h0 := hp.1
        subst h0
        have HQ := Lib.hid (hp.from (HBB.out.trans HB5.out))
        clear hp
        go_wp2_with fail
        go_ret
        rw [HR.out]
        exact HQ.out
      · have hR := numberR_bad (br := br) (sq := sq) hF (bneT hz)
        have HR := Lib.hid hR
        clear hR
        go_wp2_with fail
        go_ret
        exact HBAD.out w4 HR.out HB5.out HB4.out
  · obtain ⟨hk, hn, he⟩ := num_span HSP.out (by rw [HNP.out]; exact of_decide_eq_true hd)
    have HN := Lib.hid hn
    have HK := Lib.hid hk
    have HE := Lib.hid he
    clear hk hn he
    by_cases hlt2 : sp < t.size
    · have hFe := numFault_in HN.out hlt2
      have hb2 : ((t[sp].toNat : Int) == 46) = (t[sp].toNat == 46) := by rw [Bool.eq_iff_iff]; simp; omega
      cases hl : letter t[sp]
      · cases hg : digit t[sp]
        · cases h46 : ((t[sp].toNat : Int) == 46)
          · have hF : numFault t.data.toList = false := by rw [hFe, hl, hg, ← hb2, h46]; rfl
            clear hFe hb2
            go_wp2_with (first | (go_at_call 44; refine (lex_letter _ _).mono ?_; rintro e w' ⟨rfl, rfl⟩) | (go_at_call 47; refine (lex_digit _ _).mono ?_; rintro e w' ⟨rfl, rfl⟩))
            refine (span_Parse (t.extract 0 sp) _).mono ?_
            rintro e w4 ⟨rfl, hb4⟩
            rw [extract_to, ← HE.out]
            have hz4 := HZ3.out.below hb4
            have ho4 := own_belowT HO3.out hb4
            have hb5 := hb4.mono hB3
            have HZ4 := Lib.hid hz4
            have HO4 := Lib.hid ho4
            have HB4 := Lib.hid hb4
            have HB5 := Lib.hid hb5
            clear hz4 ho4 hb4 hb5
            cases hz : ((numBad t.data.toList : Int) != 0)
            · have hR := numberR_ok (br := br) (sq := sq) HK.out HN.out hF (bneF hz)
              have HR := Lib.hid hR
              clear hR
              go_wp2_with fail
              refine (lex_put w4 base p s at' 4 sp _ _ rfl rfl br sq v ts hs (by omega) (by omega) HZ4.out HO4.out hlen hbp).mono ?_
              intro e w5 hp
              have h0 := hp.1
              subst h0
              have HQ := Lib.hid (hp.from (HBB.out.trans HB5.out))
              clear hp
              go_wp2_with fail
              go_ret
              rw [HR.out]
              exact HQ.out
            · have hR := numberR_bad (br := br) (sq := sq) hF (bneT hz)
              have HR := Lib.hid hR
              clear hR
              go_wp2_with fail
              go_ret
              exact HBAD.out w4 HR.out HB5.out HB4.out
          · have hF : numFault t.data.toList = true := by rw [hFe, hl, hg, ← hb2, h46]; rfl
            have HF := Lib.hid hF
            clear hFe hb2 hF
            go_wp2_with (first | (go_at_call 44; refine (lex_letter _ _).mono ?_; rintro e w' ⟨rfl, rfl⟩) | (go_at_call 47; refine (lex_digit _ _).mono ?_; rintro e w' ⟨rfl, rfl⟩))
            go_ret
            exact HBAD.out w3 (numberR_fault HF.out) (Below.refl _ _) (Below.refl _ _)
        · have hF : numFault t.data.toList = true := by rw [hFe, hl, hg]; rfl
          have HF := Lib.hid hF
          clear hFe hb2 hF
          go_wp2_with (first | (go_at_call 44; refine (lex_letter _ _).mono ?_; rintro e w' ⟨rfl, rfl⟩) | (go_at_call 47; refine (lex_digit _ _).mono ?_; rintro e w' ⟨rfl, rfl⟩))
          go_ret
          exact HBAD.out w3 (numberR_fault HF.out) (Below.refl _ _) (Below.refl _ _)
      · have hF : numFault t.data.toList = true := by rw [hFe, hl]; rfl
        have HF := Lib.hid hF
        clear hFe hb2 hF
        go_wp2_with (first | (go_at_call 44; refine (lex_letter _ _).mono ?_; rintro e w' ⟨rfl, rfl⟩) | (go_at_call 47; refine (lex_digit _ _).mono ?_; rintro e w' ⟨rfl, rfl⟩))
        go_ret
        exact HBAD.out w3 (numberR_fault HF.out) (Below.refl _ _) (Below.refl _ _)
    · have hF := numFault_out HN.out hlt2
      go_wp2_with (first | (go_at_call 44; refine (lex_letter _ _).mono ?_; rintro e w' ⟨rfl, rfl⟩) | (go_at_call 47; refine (lex_digit _ _).mono ?_; rintro e w' ⟨rfl, rfl⟩))
      refine (span_Parse (t.extract 0 sp) _).mono ?_
      rintro e w4 ⟨rfl, hb4⟩
      rw [extract_to, ← HE.out]
      have hz4 := HZ3.out.below hb4
      have ho4 := own_belowT HO3.out hb4
      have hb5 := hb4.mono hB3
      have HZ4 := Lib.hid hz4
      have HO4 := Lib.hid ho4
      have HB4 := Lib.hid hb4
      have HB5 := Lib.hid hb5
      clear hz4 ho4 hb4 hb5
      cases hz : ((numBad t.data.toList : Int) != 0)
      · have hR := numberR_ok (br := br) (sq := sq) HK.out HN.out hF (bneF hz)
        have HR := Lib.hid hR
        clear hR
        go_wp2_with fail
        refine (lex_put w4 base p s at' 4 sp _ _ rfl rfl br sq v ts hs (by omega) (by omega) HZ4.out HO4.out hlen hbp).mono ?_
        intro e w5 hp
        have h0 := hp.1
        subst h0
        have HQ := Lib.hid (hp.from (HBB.out.trans HB5.out))
        clear hp
        go_wp2_with fail
        go_ret
        rw [HR.out]
        exact HQ.out
      · have hR := numberR_bad (br := br) (sq := sq) hF (bneT hz)
        have HR := Lib.hid hR
        clear hR
        go_wp2_with fail
        go_ret
        exact HBAD.out w4 HR.out HB5.out HB4.out
end Go.Proofs.YtpkeonafcldkhaaGreatDoor
