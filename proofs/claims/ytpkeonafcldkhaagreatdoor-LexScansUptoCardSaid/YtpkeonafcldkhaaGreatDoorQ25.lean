import Derived.Test.YtpkeonafcldkhaaGreatDoorQ18
/- Part of the proof of YtpkeonafcldkhaaGreatDoorCardS CardV: RdN. -/
set_option linter.unusedVariables false
set_option linter.unusedSimpArgs false
namespace Go.Proofs.YtpkeonafcldkhaaGreatDoor
open Go.RowKit
theorem r11_name_end {br : Bool} {l : List UInt8} {cf i1 i2 : Bool} {LS : ByteArray} (hc : l.contains 58 = cf) (hl : l.length = 3) (hL : LS.toList = l.map low) (h1 : (LS.toList == [105, 110, 102]) = i1) (h2 : (LS.toList == [110, 97, 110]) = i2) :
  (cf = true ∧ nameTok br l = 2) ∨ (cf = false ∧ br = true ∧ nameTok br l = 1) ∨ (cf = false ∧ br = false ∧ i1 = true ∧ nameTok br l = 3) ∨ (cf = false ∧ br = false ∧ i1 = false ∧ i2 = true ∧ nameTok br l = 3) ∨ (cf = false ∧ br = false ∧ i1 = false ∧ i2 = false ∧ nameTok br l = 1) := by
 cases cf
 ·have h := nameTok_three (br := br) hc hl
  rw [← hL, h1, h2] at h
  rw [h]
  cases br <;> cases i1 <;> cases i2 <;> simp
 ·exact .inl ⟨rfl, by rw [nameTok, if_pos hc]⟩
theorem nameCh_cases {col : Bool} {c : UInt8} (h : nameCh col c = true) : letter c = true ∨ (letter c = false ∧ digit c = true) ∨ (letter c = false ∧ digit c = false ∧ ((c.toNat : Int) == 58) = true ∧ col = true) := by
 cases hl : letter c
 ·cases hd : digit c
  ·simp [nameCh, hl, hd] at h
   exact .inr (.inr ⟨rfl, rfl, beq_iff_eq.2 (by omega), h.1⟩)
  ·exact .inr (.inl ⟨rfl, rfl⟩)
 ·exact .inl rfl
theorem nameCh_no {col : Bool} {c : UInt8} (h : ¬ nameCh col c = true) : letter c = false ∧ digit c = false ∧ (col = true → ((c.toNat : Int) == 58) = false) := by
 simp [nameCh] at h
 refine ⟨h.1.1, h.1.2, fun hc => beq_eq_false_iff_ne.2 ?_⟩
 have := h.2 hc
 omega
theorem is58 (x : UInt8) : (x == 58) = ((x.toNat : Int) == 58) := by
 rw [Bool.eq_iff_iff, beq_iff_eq, beq_iff_eq, ← UInt8.toNat_inj, show (58 : UInt8).toNat = 58 from rfl]
 omega
theorem contains_snoc (l : List UInt8) (c d : UInt8) : (l ++ [c]).contains d = (l.contains d || (c == d)) := by
 simp only [List.contains_eq_any_beq, List.any_append, List.any_cons, List.any_nil, Bool.or_false]
 rw [BEq.comm (a := d)]
set_option maxRecDepth 100000 in
set_option maxHeartbeats 16000000 in
theorem r11_nameE (w : World) (base p : Nat) (s : ByteArray) (at' : Nat) (br sq : Bool) (v : Value) (ts : List Tok) (w0 : World) (hs : s.size ≤ 281474976710656) (hat : at' < s.size) (h : LexSt base w0 p s at' br sq v ts w) (hlen : ts.length ≤ 1099511627776)
  (E : Nat) (hE : E = spanEnd (nameCh (!br && !sq)) s.data.toList at') :
  Calls Tryz.prog 31 #[.pointer (some ⟨p, 0, none⟩)] w (LexPost base w0 p s at' ts (.tok (nameTok br ((s.data.toList.drop at').take (E - at'))) (E - at') br sq)) := by
 obtain ⟨col, hcol⟩ : ∃ c, c = (!br && !sq) := ⟨_, rfl⟩
 rw [← hcol] at hE
 have H4 : (br = false ∧ sq = false ∧ col = true) ∨ (br = false ∧ sq = true ∧ col = false) ∨ (br = true ∧ sq = false ∧ col = false) ∨ (br = true ∧ sq = true ∧ col = false) := by
  rw [hcol]
  cases br <;> cases sq <;> simp
 have c0 : w.cell? ⟨p, 0, none⟩ = some (.string s) := by rw [h.z.cell]; rfl
 have c1 : w.cell? ⟨p, 1, none⟩ = some (.int .i64 (at' : Int)) := by rw [h.z.cell]; rfl
 have c2 : w.cell? ⟨p, 2, none⟩ = some (.bool br) := by rw [h.z.cell]; rfl
 have c3 : w.cell? ⟨p, 3, none⟩ = some (.bool sq) := by rw [h.z.cell]; rfl
 have H := Lib.hid h
 have HE := Lib.hid hE
 obtain ⟨Q, hQ⟩ : ∃ Q : Ending → World → Prop, Q = LexPost base w0 p s at' ts (.tok (nameTok br ((s.data.toList.drop at').take (E - at'))) (E - at') br sq) := ⟨_, rfl⟩
 rw [← hQ]
 have HQ := Lib.hid hQ
 clear h hE hQ hcol
 go_enter Tryz.func31, Tryz.ntmps31
 rcases H4 with ⟨hb, hq, hcl⟩ | ⟨hb, hq, hcl⟩ | ⟨hb, hq, hcl⟩ | ⟨hb, hq, hcl⟩
 all_goals
  have HCL := Lib.hid hcl
  clear hcl
  go_wp2_with fail
  go_loopw [3, 4] (fun t u wr => ∃ (m : Nat) (cf : Bool), at' + m ≤ s.size ∧ t = .int .i64 (m : Int) ∧ u = .bool cf ∧ Hid (LexSt base w0 p s at' br sq v ts wr) ∧ Hid (spanEnd (nameCh col) s.data.toList (at' + m) = E) ∧ Hid (((s.data.toList.drop at').take m).contains 58 = cf)) (fun t _ _ => s.size - (intOf t).toNat)
  case atStart => exact ⟨0, false, by omega, rfl, rfl, H, Lib.hid HE.out.symm, Lib.hid rfl⟩
  case round =>
   obtain ⟨m, cf, hm, rfl, rfl, hst, hsp, hcf⟩ := hrel
   clear c0 c1 c2 c3
   have c0 : wr.cell? ⟨p, 0, none⟩ = some (.string s) := by rw [hst.out.z.cell]; rfl
   have c1 : wr.cell? ⟨p, 1, none⟩ = some (.int .i64 (at' : Int)) := by rw [hst.out.z.cell]; rfl
   obtain ⟨c, hc⟩ : ∃ c, c = atB s.data.toList (at' + m) := ⟨_, rfl⟩
   have HA : Hid (∀ w, Calls Tryz.prog 33 #[.string s, .int .i64 ((at' : Int) + (m : Int))] w fun e w' => e = .returned (.int .u8 (c.toNat : Int)) ∧ w = w') := Lib.hid (fun w => r11_at' s _ (at' + m) (by omega) c hc.symm w (by unfold maxLen; omega))
   by_cases hn : nameCh col c = true
   ·have hlt : at' + m < s.size := by
     rcases Nat.lt_or_ge (at' + m) s.size with h | h
     ·exact h
     ·exfalso
      have h0 : c = 0 := by rw [hc]; exact atB_ge (by rw [len_data]; exact h)
      rw [h0] at hn
      revert hn
      cases col <;> decide
    have hcs : c = s[at' + m] := by rw [hc]; exact atB_lt hlt
    have HSP := Lib.hid ((spanEnd_stepB hlt (hcs ▸ hn)).trans hsp.out)
    have htk : (s.data.toList.drop at').take (m + 1) = (s.data.toList.drop at').take m ++ [c] := by
     rw [List.take_succ_eq_append_getElem (by rw [List.length_drop, len_data]; omega)]
     congr 1
     rw [List.getElem_drop, hcs]
     congr 1
     all_goals exact gl _ _ _
    obtain ⟨b, e59⟩ : ∃ b, ((s[at' + m].toNat : Int) == 58) = b := ⟨_, rfl⟩
    have HCF : Hid (((s.data.toList.drop at').take (m + 1)).contains 58 = (cf || b)) := Lib.hid (by
     rw [htk, contains_snoc, hcf.out, is58, hcs, e59])
    have p2 : (at' : Int) + (m : Int) < (s.size : Int) := by omega
    have p3 : 0 ≤ (at' : Int) + (m : Int) := by omega
    have hways := nameCh_cases hn
    clear hcs htk hsp hc hn hcf
    rcases hways with hl | ⟨hl, hd⟩ | ⟨hl, hd, e58, hcl2⟩
    all_goals try exact absurd (HCL.out.symm.trans hcl2) (by decide)
    all_goals
     try clear hcl2
     go_wp2_with fail
     go_quiet (first | (go_at_call 33; exact Calls.quiet_of_same ((HA.out _).mono fun _ _ ⟨h1, h2⟩ => ⟨h1, h2.symm⟩)) | (go_at_call 30; exact Calls.quiet_of_same ((r11_letter' c _ hl _).mono fun _ _ ⟨h1, h2⟩ => ⟨h1, h2.symm⟩)) | (go_at_call 32; exact Calls.quiet_of_same ((r11_digit' c _ hd _).mono fun _ _ ⟨h1, h2⟩ => ⟨h1, h2.symm⟩)))
     have HS2 := Lib.hid (hst.out.drewN nq)
     have b0 : (wr.drewN nq).cell? ⟨p, 0, none⟩ = some (.string s) := by rw [HS2.out.z.cell]; rfl
     have b1 : (wr.drewN nq).cell? ⟨p, 1, none⟩ = some (.int .i64 (at' : Int)) := by rw [HS2.out.z.cell]; rfl
     clear c0 c1 hst
     generalize wr.drewN nq = w2 at HS2 b0 b1 ⊢
     cases cf <;> cases b
     all_goals
      go_wp2_with fail
      go_quiet (fail)
      have HS3 := Lib.hid (HS2.out.drewN nq)
      generalize w2.drewN nq = w3 at HS3 ⊢
      go_wp2_with fail
      exact ⟨⟨m + 1, _, by omega, by go_num, rfl, HS3, HSP, HCF⟩, by simp [intOf]; omega⟩
   ·have hEm : E - at' = m := by
     rw [← hsp.out]
     rcases Nat.lt_or_ge (at' + m) s.size with h | h
     ·have hcs : c = s[at' + m] := by rw [hc]; exact atB_lt h
      rw [spanEnd_stopB h (by rw [← hcs]; simpa using hn)]; omega
     ·rw [spanEnd_end (by rw [len_data]; exact h)]; omega
    obtain ⟨hl, hd, h58⟩ := nameCh_no hn
    try have e58 := h58 HCL.out
    have hTl : ((s.data.toList.drop at').take m).length = m := by rw [List.length_take, List.length_drop, len_data]; omega
    have hQ2 := HQ.out
    rw [hEm] at hQ2
    have HQ2 := Lib.hid hQ2
    clear HQ hQ2 hc hn hsp hEm h58
    go_wp2_with fail
    go_quiet (first | (go_at_call 33; exact Calls.quiet_of_same ((HA.out _).mono fun _ _ ⟨h1, h2⟩ => ⟨h1, h2.symm⟩)) | (go_at_call 30; exact Calls.quiet_of_same ((r11_letter' c _ hl _).mono fun _ _ ⟨h1, h2⟩ => ⟨h1, h2.symm⟩)) | (go_at_call 32; exact Calls.quiet_of_same ((r11_digit' c _ hd _).mono fun _ _ ⟨h1, h2⟩ => ⟨h1, h2.symm⟩)))
    have HS2 := Lib.hid (hst.out.drewN nq)
    have b0 : (wr.drewN nq).cell? ⟨p, 0, none⟩ = some (.string s) := by rw [HS2.out.z.cell]; rfl
    have b1 : (wr.drewN nq).cell? ⟨p, 1, none⟩ = some (.int .i64 (at' : Int)) := by rw [HS2.out.z.cell]; rfl
    have b2 : (wr.drewN nq).cell? ⟨p, 2, none⟩ = some (.bool br) := by rw [HS2.out.z.cell]; rfl
    clear c0 c1 hst
    generalize wr.drewN nq = w2 at HS2 b0 b1 b2 ⊢
    cases e3 : ((m : Int) == 3)
    ·have hK : (cf = false ∧ nameTok br ((s.data.toList.drop at').take m) = 1) ∨ (cf = true ∧ nameTok br ((s.data.toList.drop at').take m) = 2) := by
      cases cf
      ·exact .inl ⟨rfl, nameTok_long hcf.out (by rw [hTl]; have := neT e3; omega)⟩
      ·exact .inr ⟨rfl, by rw [nameTok, if_pos hcf.out]⟩
     have q1 : (0 ≤ (at' : Int) + (m : Int)) = True := eq_true (by omega)
     have q2 : ((at' : Int) + (m : Int) ≤ (s.size : Int)) = True := eq_true (by omega)
     have q3 : ((at' : Int) ≤ (at' : Int) + (m : Int)) = True := eq_true (by omega)
     have q4 : ((at' : Int) + (m : Int)).toNat = at' + m := by omega
     clear hTl hcf q1 q2 q3 q4
     rcases hK with ⟨rfl, hK⟩ | ⟨rfl, hK⟩
     all_goals
      have HK := Lib.hid hK
      clear hK
      go_wp2_with fail
      first | refine (r11_take' w2 base p s at' 1 m _ _ (by rfl) (rfl) br sq v ts w0 hs (by omega) (by omega) HS2.out hlen).mono ?_ | refine (r11_take' w2 base p s at' 2 m _ _ (by rfl) (rfl) br sq v ts w0 hs (by omega) (by omega) HS2.out hlen).mono ?_
      rintro e w5 ⟨rfl, hp5⟩
      have HP := Lib.hid hp5
      clear hp5
      go_wp2_with fail
      go_end0
      rw [HQ2.out, HK.out]
      exact ⟨rfl, HP.out⟩
    ·obtain rfl : m = 3 := by have := eqT e3; omega
     generalize hM : ((3 : Nat) : Int) = M
     have e3' : (M == 3) = true := by rw [← hM]; rfl
     have q1 : (0 ≤ (at' : Int) + M) = True := eq_true (by omega)
     have q2 : ((at' : Int) + M ≤ (s.size : Int)) = True := eq_true (by omega)
     have q3 : ((at' : Int) ≤ (at' : Int) + M) = True := eq_true (by omega)
     have q4 : ((at' : Int) + M).toNat = at' + 3 := by omega
     have q5 : IntKind.i64.wrap ((at' : Int) + M) = (at' : Int) + M := by rw [IntKind.wrap_i64]; omega
     have HM := Lib.hid hM
     clear hM e3
     have hx : (s.extract at' (at' + 3)).size ≤ 281474976710656 := by simp; omega
     have hp2 : p < w2.heap.size := HS2.out.z.lt
     have hxd : (s.extract at' (at' + 3)).data.toList = (s.data.toList.drop at').take 3 := by rw [Lib.extract_data, show at' + 3 - at' = 3 by omega]
     obtain ⟨LS, hLS⟩ : ∃ LS : ByteArray, LS = ⟨((s.extract at' (at' + 3)).data.toList.map low).toArray⟩ := ⟨_, rfl⟩
     have hLT : LS.toList = ((s.data.toList.drop at').take 3).map low := by rw [hLS, ByteArray.toList_eq, hxd]
     have HSM : Hid (∀ w : World, Calls Tryz.prog 46 #[.string (s.extract at' (at' + 3))] w fun e w' => e = .returned (.string LS) ∧ Below w.heap.size w w') := Lib.hid (fun w => by rw [hLS]; exact r11_small _ w (by unfold maxLen; omega) hx)
     obtain ⟨i1, h1⟩ : ∃ b, (LS.toList == [105, 110, 102]) = b := ⟨_, rfl⟩
     obtain ⟨i2, h2⟩ : ∃ b, (LS.toList == [110, 97, 110]) = b := ⟨_, rfl⟩
     have HK0 := Lib.hid (r11_name_end (br := br) hcf.out hTl hLT h1 h2)
     clear hxd hLS hLT hcf hTl
     go_wp2_with fail
     go_region_held3 (fun w' => w'.cell? ⟨p, 0, none⟩ = some (.string s) ∧ w'.cell? ⟨p, 1, none⟩ = some (.int .i64 (at' : Int))) (first | go_keep) (first | (go_at_call 46; refine (HSM.out _).mono ?_; rintro e w4 ⟨rfl, hb4⟩; have k0 : w4.cell? ⟨p, 0, none⟩ = some (.string s) := (hb4.cell (p := ⟨p, 0, none⟩) hp2).trans b0; have k1 : w4.cell? ⟨p, 1, none⟩ = some (.int .i64 (at' : Int)) := (hb4.cell (p := ⟨p, 1, none⟩) hp2).trans b1; have HB4 := Lib.hid hb4; clear hb4))
     have hb4 := ((Below.refl w2.heap.size w2).drew).trans HB4.out
     have HS4 : Hid (LexSt base w0 p s at' br sq v ts w4) := Lib.hid ⟨HS2.out.z.below hb4 hp2, own_belowT HS2.out.own hb4, HS2.out.below.trans (hb4.mono (Nat.le_of_lt (Nat.lt_of_le_of_lt HS2.out.bp hp2))), HS2.out.bp⟩
     have k2 : w4.cell? ⟨p, 2, none⟩ = some (.bool br) := by rw [HS4.out.z.cell]; rfl
     clear hb4 HB4 b0 b1 b2 HS2
     have hK := HK0.out
     clear HK0
     rcases hK with ⟨rfl, hK⟩ | ⟨rfl, hb2, hK⟩ | ⟨rfl, hb2, rfl, hK⟩ | ⟨rfl, hb2, rfl, rfl, hK⟩ | ⟨rfl, hb2, rfl, rfl, hK⟩
     all_goals try exact absurd (hb.symm.trans hb2) (by decide)
     all_goals
      try clear hb2
      have HK := Lib.hid hK
      clear hK
      go_wp2_with fail
      first | refine (r11_take' w4 base p s at' 1 3 _ _ (by rfl) (HM.out.symm) br sq v ts w0 hs (by omega) (by omega) HS4.out hlen).mono ?_ | refine (r11_take' w4 base p s at' 2 3 _ _ (by rfl) (HM.out.symm) br sq v ts w0 hs (by omega) (by omega) HS4.out hlen).mono ?_ | refine (r11_take' w4 base p s at' 3 3 _ _ (by rfl) (HM.out.symm) br sq v ts w0 hs (by omega) (by omega) HS4.out hlen).mono ?_
      rintro e w5 ⟨rfl, hp5⟩
      have HP := Lib.hid hp5
      clear hp5
      go_wp2_with fail
      go_end0
      rw [HQ2.out, HK.out]
      exact ⟨rfl, HP.out⟩
end Go.Proofs.YtpkeonafcldkhaaGreatDoor
