import Derived.Test.YtpkeonafcldkhaaGreatDoorQ35
/- Part of the proof of YtpkeonafcldkhaaGreatDoorCardS CardV: RdF CvB LawV. -/
set_option linter.unusedVariables false
set_option linter.unusedSimpArgs false
namespace Go.Proofs.YtpkeonafcldkhaaGreatDoor
open Go.RowKit
set_option maxRecDepth 100000 in
set_option maxHeartbeats 4000000 in
theorem r11_literal (w : World) (base p : Nat) (s : ByteArray) (at' : Nat) (br sq : Bool) (v : Value) (ts : List Tok) (w0 : World) (hs : s.size ≤ 281474976710) (hat : at' < s.size) (h : LexSt base w0 p s at' br sq v ts w) (hlen : ts.length ≤ 1099511627776) :
  Calls Tryz.prog 35 #[.pointer (some ⟨p, 0, none⟩)] w (LexPost base w0 p s at' ts (strR (s.data.toList.drop at') br sq)) := by
 obtain ⟨L, hL⟩ : ∃ L, L = s.data.toList.drop at' := ⟨_, rfl⟩
 obtain ⟨Q, hQ⟩ : ∃ Q : Ending → World → Prop, Q = LexPost base w0 p s at' ts (strR L br sq) := ⟨_, rfl⟩
 rw [← hL, ← hQ]
 have c0 : w.cell? ⟨p, 0, none⟩ = some (.string s) := by rw [h.z.cell]; rfl
 have c1 : w.cell? ⟨p, 1, none⟩ = some (.int .i64 (at' : Int)) := by rw [h.z.cell]; rfl
 have hle := litEnd_drop s.data.toList at'
 rw [← hL] at hle
 have hLl : L.length = s.size - at' := by rw [hL, List.length_drop, len_data]
 have H := Lib.hid h
 have HQ := Lib.hid hQ
 have HL := Lib.hid hL
 clear h hQ hL
 obtain ⟨T, hT⟩ : ∃ T, T = litEnd s.data.toList at' := ⟨_, rfl⟩
 have HLI : Hid (∀ w, Calls Tryz.prog 58 #[.string s, .int .i64 (at' : Int)] w fun e w' => e = .returned (.tuple #[.int .i64 (optN T), .int .i64 (optE 10 T)]) ∧ w = w') := Lib.hid (fun w => by rw [hT]; exact r01_literal s at' w (by omega))
 rw [← hT] at hle
 clear hT
 cases he : litEnd L 0 with
 |none =>
  rw [he] at hle
  have hS : strR L br sq = .bad 111 := by rw [strR, he]
  have HS1 := Lib.hid hS
  simp only [Option.map_none] at hle
  subst hle
  simp only [optN, optE] at HLI
  clear hS he hLl
  go_enter Tryz.func35, Tryz.ntmps35
  go_wp2_with fail
  go_quiet ((go_at_call 58; exact Calls.quiet_of_same ((HLI.out _).mono fun _ _ ⟨h1, h2⟩ => ⟨h1, h2.symm⟩)))
  have HS := Lib.hid (H.out.drewN nq)
  have f5 : (w.drewN nq).frozen? ⟨p, 5, none⟩ = false := HS.out.z.frozen 5
  have c5 : (w.drewN nq).cell? ⟨p, 5, none⟩ = some (.int .i64 0) := by rw [HS.out.z.cell]; rfl
  clear H c0 c1
  generalize w.drewN nq = w2 at HS f5 c5 ⊢
  go_wp2_with fail
  refine bodyPost_ret (results_none rfl _ _ _) rfl ?_
  rw [HQ.out, HS1.out]
  exact ⟨rfl, br, sq, v, (HS.out.fail rfl).1, (HS.out.fail rfl).2⟩
 |some n =>
  rw [he] at hle
  have hn := litEnd_le he
  have hS : strR L br sq = if (unquote (L.take n)).1 = 0 then .tok 5 n br sq else .bad 111 := by rw [strR, he]
  simp only [Option.map_some] at hle
  subst hle
  simp only [optN, optE] at HLI
  rw [hLl] at hn
  have hxt : (s.extract at' (n + at')).data.toList = L.take n := by
   rw [Lib.extract_data, HL.out, show n + at' - at' = n by omega]
  have hxs : (s.extract at' (n + at')).size ≤ 281474976710 := by simp; omega
  obtain ⟨R, hR⟩ : ∃ R, R = unquote (L.take n) := ⟨_, rfl⟩
  obtain ⟨uq, huq⟩ : ∃ uq, uq = R.1 := ⟨_, rfl⟩
  obtain ⟨US, hUS⟩ : ∃ US : ByteArray, US = ⟨R.2.toArray⟩ := ⟨_, rfl⟩
  have HUN : Hid (∀ w : World, Calls Tryz.prog 39 #[.string (s.extract at' (n + at'))] w fun e w' => e = .returned (.tuple #[.string US, .int .i64 (uq : Int)]) ∧ Below w.heap.size w w') := Lib.hid (fun w => by
   rw [hUS, huq, hR, ← hxt]; exact r01_unquote _ w hxs)
  rw [← hR, ← huq] at hS
  have HS1 := Lib.hid hS
  have HNN := Lib.hid hn
  have hns : n + at' ≤ s.size := by omega
  have r1 : ((at' : Int) ≤ (n : Int) + (at' : Int)) = True := by simp; omega
  have r2 : ((n : Int) + (at' : Int) ≤ (s.size : Int)) = True := by simp; omega
  have r3 : (0 ≤ (n : Int) + (at' : Int)) = True := by simp; omega
  have r4 : ((n : Int) + (at' : Int)).toNat = n + at' := by omega
  clear hS he hLl hR huq hUS hxt hxs hn
  go_enter Tryz.func35, Tryz.ntmps35
  go_wp2_with fail
  go_quiet ((go_at_call 58; exact Calls.quiet_of_same ((HLI.out _).mono fun _ _ ⟨h1, h2⟩ => ⟨h1, h2.symm⟩)))
  have HS := Lib.hid (H.out.drewN nq)
  have g0 : (w.drewN nq).cell? ⟨p, 0, none⟩ = some (.string s) := by rw [HS.out.z.cell]; rfl
  have g1 : (w.drewN nq).cell? ⟨p, 1, none⟩ = some (.int .i64 (at' : Int)) := by rw [HS.out.z.cell]; rfl
  have hp3 : p < (w.drewN nq).heap.size := HS.out.z.lt
  clear H c0 c1
  generalize w.drewN nq = w3 at HS g0 g1 hp3 ⊢
  go_wp2_with fail
  go_region_held3 (fun w' => w'.cell? ⟨p, 0, none⟩ = some (.string s) ∧ w'.cell? ⟨p, 1, none⟩ = some (.int .i64 (at' : Int))) (first | go_keep) (first | (go_at_call 39; refine (HUN.out _).mono ?_; rintro e w4 ⟨rfl, hb4⟩; have k0 : w4.cell? ⟨p, 0, none⟩ = some (.string s) := (hb4.cell (p := ⟨p, 0, none⟩) hp3).trans g0; have k1 : w4.cell? ⟨p, 1, none⟩ = some (.int .i64 (at' : Int)) := (hb4.cell (p := ⟨p, 1, none⟩) hp3).trans g1; have HB4 := Lib.hid hb4; clear hb4))
  have hb4 := ((Below.refl w3.heap.size w3).drew).trans HB4.out
  have HS4 := Lib.hid (HS.out.from hb4)
  have m1 : w4.cell? ⟨p, 1, none⟩ = some (.int .i64 (at' : Int)) := by rw [HS4.out.z.cell]; rfl
  have f5 : w4.frozen? ⟨p, 5, none⟩ = false := HS4.out.z.frozen 5
  have c5 : w4.cell? ⟨p, 5, none⟩ = some (.int .i64 0) := by rw [HS4.out.z.cell]; rfl
  clear hb4 HB4 g0 g1 HS
  cases hu : ((uq : Int) != 0)
  ·go_wp2_with fail
   refine (r11_take' w4 base p s at' 5 n _ _ (by rfl) (by first | rfl | omega) br sq v ts w0 (by omega) (by omega) (by omega) HS4.out hlen).mono ?_
   rintro e w5 ⟨rfl, hp5⟩
   have HP5 := Lib.hid hp5
   clear hp5
   go_wp2_with fail
   go_end0
   rw [HQ.out, HS1.out, if_pos (bneF hu)]
   exact ⟨rfl, HP5.out⟩
  ·go_wp2_with fail
   refine bodyPost_ret (results_none rfl _ _ _) rfl ?_
   rw [HQ.out, HS1.out, if_neg (bneT hu)]
   exact ⟨rfl, br, sq, v, (HS4.out.fail rfl).1, (HS4.out.fail rfl).2⟩
theorem idleGo_nl {rm : Bool} {l : List UInt8} {k : Nat} (h : k < l.length) (hc : (atB l k).toNat = 10) : idleGo rm (l.drop k) = idleGo false (l.drop (k + 1)) := by
 rw [drop_at h, idleGo, if_pos hc]
theorem idleGo_hash {l : List UInt8} {k : Nat} (h : k < l.length) (hc : (atB l k).toNat = 35) : idleGo false (l.drop k) = idleGo true (l.drop (k + 1)) := by
 rw [drop_at h, idleGo, if_neg (by omega), if_pos ⟨rfl, hc⟩]
theorem idleGo_inn {l : List UInt8} {k : Nat} (h : k < l.length) (hc : (atB l k).toNat ≠ 10) : idleGo true (l.drop k) = idleGo true (l.drop (k + 1)) := by
 rw [drop_at h, idleGo, if_neg hc, if_neg (by simp), if_neg (by simp)]
theorem idleGo_blk {l : List UInt8} {k : Nat} (h : k < l.length) (hn : (atB l k).toNat ≠ 10) (hc : isBl (atB l k) = true) : idleGo false (l.drop k) = idleGo false (l.drop (k + 1)) := by
 have h35 : (atB l k).toNat ≠ 35 := by intro e; rw [bl35 e] at hc; cases hc
 rw [drop_at h, idleGo, if_neg hn, if_neg (by simp [h35]), if_neg (by simp [hc])]
theorem idleGo_bad {l : List UInt8} {k : Nat} (h : k < l.length) (hc : isBl (atB l k) = false) (h35 : (atB l k).toNat ≠ 35) : idleGo false (l.drop k) = none := by
 have hn : (atB l k).toNat ≠ 10 := by intro e; simp [isBl, e] at hc
 rw [drop_at h, idleGo, if_neg hn, if_neg (by simp [h35]), if_pos ⟨rfl, hc⟩]
def idleV (G : Option Bool) (last : Bool) : Bool := match G with | none => false | some r => last || !r
set_option maxRecDepth 100000 in
set_option maxHeartbeats 2000000 in
theorem law_idle (s : ByteArray) (last : Bool) (w : World) (hs : s.size ≤ 281474976710656) :
    Calls Tryz.prog 14 #[.string s, .bool last] w fun e w' => e = .returned (.bool (idleB s.data.toList last)) ∧ w = w' := by
  obtain ⟨G, hG⟩ : ∃ G, G = idleGo false s.data.toList := ⟨_, rfl⟩
  have hV : idleB s.data.toList last = idleV G last := by rw [hG]; rfl
  obtain ⟨V, hV2⟩ : ∃ V, V = idleB s.data.toList last := ⟨_, rfl⟩
  rw [← hV2] at hV ⊢
  have h0 : idleGo false (s.data.toList.drop 0) = G := by rw [hG]; rfl
  have HV := Lib.hid hV
  have H0 := Lib.hid h0
  clear hV hV2 h0 hG
  go_enter Tryz.func14, Tryz.ntmps14
  go_wp2_with fail
  go_loop [5, 6] (fun t u => ∃ (rm : Bool) (k : Nat), k ≤ s.size ∧ t = .bool rm ∧ u = .int .i64 k ∧ Hid (idleGo rm (s.data.toList.drop k) = G)) (fun _ u => s.size - (intOf u).toNat)
  case atStart => exact ⟨false, 0, Nat.zero_le _, rfl, rfl, H0⟩
  case round =>
    obtain ⟨rm, k, hk, rfl, rfl, hR⟩ := hrel
    clear H0
    by_cases hlt : k < s.size
    · have hat := atB_lt hlt
      have HDL : Hid (∃ _ : k < s.data.toList.length, True) := Lib.hid ⟨by rw [len_data]; exact hlt, trivial⟩
      have HAT := Lib.hid hat
      clear hat
      cases e10 : ((s[k].toNat : Int) == 10)
      · have h10 : Hid ((atB s.data.toList k).toNat ≠ 10) := Lib.hid (by rw [HAT.out]; have := neT e10; omega)
        cases rm
        · cases e35 : ((s[k].toNat : Int) == 35)
          · have HBL : Hid (isBl s[k] = true → idleGo false (s.data.toList.drop (k + 1)) = G) := Lib.hid (fun hb => (idleGo_blk HDL.out.1 h10.out (by rw [HAT.out]; exact hb)).symm.trans hR.out)
            have HBD : Hid (isBl s[k] = false → V = false) := Lib.hid (fun hb => by
              rw [HV.out, ← hR.out, idleGo_bad HDL.out.1 (by rw [HAT.out]; exact hb) (by rw [HAT.out]; have := neT e35; omega)]; rfl)
            clear hR
            have n10 := neT e10
            go_wp2_with fail
            all_goals try simp only [bne_iff_ne, ne_eq, bne_eq_false_iff_eq] at *
            all_goals first
              | (have hb : isBl s[k] = true := by simp [isBl]; omega
                 exact ⟨⟨false, k + 1, by omega, rfl, by go_num, Lib.hid (HBL.out hb)⟩, rz_meas hlt⟩)
              | (have hb : isBl s[k] = false := by simp [isBl]; omega
                 go_ret
                 exact ⟨ret_bool (HBD.out hb).symm, rfl⟩)
          · have HE := Lib.hid ((idleGo_hash HDL.out.1 (by rw [HAT.out]; have := eqT e35; omega)).symm.trans hR.out)
            clear hR
            go_wp2_with fail
            exact ⟨⟨true, k + 1, by omega, rfl, by go_num, HE⟩, rz_meas hlt⟩
        · have HE := Lib.hid ((idleGo_inn HDL.out.1 h10.out).symm.trans hR.out)
          clear hR
          go_wp2_with fail
          exact ⟨⟨true, k + 1, by omega, rfl, by go_num, HE⟩, rz_meas hlt⟩
      · have HE := Lib.hid ((idleGo_nl HDL.out.1 (by rw [HAT.out]; have := eqT e10; omega)).symm.trans hR.out)
        clear hR
        go_wp2_with fail
        exact ⟨⟨false, k + 1, by omega, rfl, by go_num, HE⟩, rz_meas hlt⟩
    · have hG2 := hR.out
      rw [List.drop_eq_nil_of_le (by rw [len_data]; omega), idleGo] at hG2
      have HG : Hid (V = (last || !rm)) := Lib.hid (by rw [HV.out, ← hG2]; rfl)
      clear hR hG2
      cases last <;> cases rm
      all_goals
        go_wp2_with fail
        go_ret
        exact ⟨ret_bool (by rw [HG.out]; rfl), rfl⟩
theorem soundB_kind {k : Nat} {t : List UInt8} (h : soundB k t = true) : 1 ≤ k ∧ k ≤ 6 := by
 unfold soundB at h
 by_cases h1 : k = 1; · omega
 by_cases h2 : k = 2; · omega
 by_cases h3 : k = 3; · omega
 by_cases h4 : k = 4; · omega
 by_cases h5 : k = 5; · omega
 rw [if_neg h1, if_neg h2, if_neg h3, if_neg h4, if_neg h5, Bool.and_eq_true, decide_eq_true_eq] at h
 omega
set_option maxRecDepth 100000 in
set_option maxHeartbeats 2000000 in
theorem law_sound (t : ByteArray) (k : Nat) (pos : Int) (w : World) (ht : t.size ≤ 281474976710) (h : soundB k t.data.toList = true) :
  Calls Tryz.prog 15 #[.agg #[.int .i64 (k : Int), .string t, .int .i64 pos]] w fun e w' => e = .returned (.bool true) ∧ Below w.heap.size w w' := by
 have hk := soundB_kind h
 have hks : k = 1 ∨ k = 2 ∨ k = 3 ∨ k = 4 ∨ k = 5 ∨ k = 6 := by omega
 clear hk
 rcases hks with rfl | rfl | rfl | rfl | rfl | rfl
 ·have h1 : isLabel t.data.toList = true := h
  have H1 := Lib.hid h1
  clear h1 h
  have HB := Lib.hid ((Below.refl w.heap.size w).alloc (Nat.le_refl _) (.cells #[.int .i64 1, .string t, .int .i64 pos] 33))
  go_enter Tryz.func15, Tryz.ntmps15
  go_wp2_with fail
  refine (lex_isLabel t _ (by unfold maxLen; omega)).mono ?_
  rintro e w' ⟨rfl, rfl⟩
  rw [H1.out]
  go_wp2_with fail
  go_ret
  exact ⟨rfl, HB.out⟩
 ·have h1 : (isMetric t.data.toList && !isLabel t.data.toList) = true := h
  rw [Bool.and_eq_true, Bool.not_eq_true'] at h1
  have H1 := Lib.hid h1.1
  have H2 := Lib.hid h1.2
  clear h1 h
  have HB := Lib.hid ((Below.refl w.heap.size w).alloc (Nat.le_refl _) (.cells #[.int .i64 2, .string t, .int .i64 pos] 33))
  go_enter Tryz.func15, Tryz.ntmps15
  go_wp2_with fail
  refine (lex_isMetric t _ (by unfold maxLen; omega)).mono ?_
  rintro e w' ⟨rfl, rfl⟩
  rw [H1.out]
  go_wp2_with fail
  refine (lex_isLabel t _ (by unfold maxLen; omega)).mono ?_
  rintro e w' ⟨rfl, rfl⟩
  rw [H2.out]
  go_wp2_with fail
  go_ret
  exact ⟨rfl, HB.out⟩
 ·have h1 : numErr t.data.toList = 0 := of_decide_eq_true h
  have H1 := Lib.hid h1
  clear h1 h
  have HB := Lib.hid ((Below.refl w.heap.size w).alloc (Nat.le_refl _) (.cells #[.int .i64 3, .string t, .int .i64 pos] 33))
  go_enter Tryz.func15, Tryz.ntmps15
  go_wp2_with fail
  refine (r02_Read t _ (by unfold maxLen; omega)).mono ?_
  rintro e w' ⟨x, rfl, hb⟩
  rw [H1.out]
  have HB2 := Lib.hid (HB.out.trans (hb.mono HB.out.size))
  clear hb
  go_wp2_with fail
  go_ret
  exact ⟨rfl, HB2.out⟩
 ·have h1 : (spanParse t.data.toList).2 = 0 := of_decide_eq_true h
  have H1 := Lib.hid h1
  clear h1 h
  have HB := Lib.hid ((Below.refl w.heap.size w).alloc (Nat.le_refl _) (.cells #[.int .i64 4, .string t, .int .i64 pos] 33))
  go_enter Tryz.func15, Tryz.ntmps15
  go_wp2_with fail
  refine (r03_Parse t _ (by unfold maxLen; omega)).mono ?_
  rintro e w' ⟨rfl, rfl⟩
  rw [H1.out]
  go_wp2_with fail
  go_ret
  exact ⟨rfl, HB.out⟩
 ·have h1 : (unquote t.data.toList).1 = 0 := of_decide_eq_true h
  have H1 := Lib.hid h1
  clear h1 h
  have HB := Lib.hid ((Below.refl w.heap.size w).alloc (Nat.le_refl _) (.cells #[.int .i64 5, .string t, .int .i64 pos] 33))
  go_enter Tryz.func15, Tryz.ntmps15
  go_wp2_with fail
  refine (r01_unquote t _ ht).mono ?_
  rintro e w' ⟨rfl, hb⟩
  rw [H1.out]
  have HB2 := Lib.hid (HB.out.trans (hb.mono HB.out.size))
  clear hb
  go_wp2_with fail
  go_ret
  exact ⟨rfl, HB2.out⟩
 ·have h1 : (decide ((6 : Nat) = 6) && (decide (t.data.toList.length = 1) || decide (t.data.toList.length = 2))) = true := h
  have HB := Lib.hid ((Below.refl w.heap.size w).alloc (Nat.le_refl _) (.cells #[.int .i64 6, .string t, .int .i64 pos] 33))
  simp only [decide_true, Bool.true_and, Bool.or_eq_true, decide_eq_true_eq, len_data] at h1
  clear h
  rcases h1 with h1 | h1
  ·have x1 : ((t.size : Int) == 1) = true := beq_iff_eq.2 (by omega)
   clear h1
   go_enter Tryz.func15, Tryz.ntmps15
   go_wp2_with fail
   go_ret
   exact ⟨rfl, HB.out⟩
  ·have x1 : ((t.size : Int) == 1) = false := beq_eq_false_iff_ne.2 (by omega)
   have x2 : ((t.size : Int) == 2) = true := beq_iff_eq.2 (by omega)
   clear h1
   go_enter Tryz.func15, Tryz.ntmps15
   go_wp2_with fail
   go_ret
   exact ⟨rfl, HB.out⟩
theorem covers_cons {l : List UInt8} {m : Nat} {t : Tok} {ts : List Tok} (h : Covers l m (t :: ts)) : m ≤ t.pos ∧ t.pos + t.text.length ≤ l.length ∧ t.text ≠ [] ∧ (l.drop t.pos).take t.text.length = t.text ∧ idleB ((l.drop m).take (t.pos - m)) false = true ∧ soundB t.kind t.text = true ∧ Covers l (t.pos + t.text.length) ts := h
theorem covers_nil {l : List UInt8} {m : Nat} (h : Covers l m []) : idleB (l.drop m) true = true := h
set_option maxRecDepth 100000 in
set_option maxHeartbeats 4000000 in
theorem law_LexCovers {T : Nat → World → Prop} (hT : NumT (fun _ => True) T) (w : World) (s : ByteArray) (hs : s.size ≤ 1048576) (hTw : T w.heap.size w) :
  Calls Tryz.prog 4 #[.string s] w fun e w' => e = .returned (.bool true) ∧ Below w.heap.size w w' := by
 have HT := Lib.hid hTw
 clear hTw
 have hs2 : s.size ≤ 281474976710 := by omega
 go_enter Tryz.func4, Tryz.ntmps4
 go_wp2_with fail
 refine (law_alive hT w HT.out).mono ?_
 rintro e w1 ⟨rfl, hb1⟩
 have HT1 := Lib.hid (hT.mono (hT.keep HT.out hb1) hb1.size)
 have HB1 := Lib.hid hb1
 clear hb1
 go_wp2_with fail
 refine (lex_Scan hT _ s hs2 (fun _ _ _ => trivial) HT1.out).mono ?_
 intro e w2 hp
 obtain ⟨ao, ca, rfl, hoa, hta, hb2⟩ := hp.open
 have HT2 := Lib.hid (hT.mono (hT.keep HT1.out hb2) hb2.size)
 have HB2 := Lib.hid (HB1.out.trans (hb2.mono HB1.out.size))
 have HTA := Lib.hid hta
 clear hoa hta hb2 hp
 obtain ⟨R, hR⟩ : ∃ R, R = scanAll s.data.toList := ⟨_, rfl⟩
 have hR1 : R = scanF s.data.toList 0 false false := by rw [hR, scanAll, if_neg (by rw [len_data]; omega)]
 rw [← hR] at HTA ⊢
 have HR := Lib.hid hR1
 clear hR hR1
 cases hR2 : R.2 with
 |some r1 =>
  obtain ⟨a, er⟩ := r1
  obtain ⟨i1, i2, i3⟩ := outErr_some hR2
  obtain ⟨f1, f2, f3, f4⟩ := scanF_fault s.data.toList.length s.data.toList 0 false false R.1 a er (Nat.le_refl _) (by rw [← HR.out, ← hR2])
  rw [Nat.zero_add, len_data] at f2
  rw [Nat.sub_zero] at f4
  rw [i1, i2, i3]
  obtain ⟨u, hu⟩ : ∃ u, u = s.extract 0 a := ⟨_, rfl⟩
  have hud : u.data.toList = s.data.toList.take a := by rw [hu, extract_to]
  have hus : u.size ≤ 281474976710 := by rw [hu]; simp; omega
  have hus2 : u.size ≤ 33554432 := by rw [hu]; simp; omega
  have hsc : scanAll u.data.toList = (R.1, none) := by rw [scanAll, if_neg (by rw [len_data]; omega), hud, f4]
  obtain ⟨o1, o2, o3⟩ := outErr_none (r := scanAll u.data.toList) (by rw [hsc])
  have x1 : ((er : Int) = 0) = False := eq_false (by omega)
  have x0 : ((er : Int) != 0) = true := bne_iff_ne.2 (by omega)
  have x2 : decide ((s.size : Int) ≤ (a : Int)) = false := decide_eq_false (by omega)
  have x3 : ((33554432 : Int) < (s.size : Int)) = False := eq_false (by omega)
  have HU := Lib.hid hu
  have HO1 := Lib.hid o1
  clear hR2 i1 i2 i3 f1 f4 hud hus2 hsc o1 o2 o3 hu HTA
  go_wp2_with fail
  rw [← HU.out]
  refine (lex_Scan hT _ u hus (fun _ _ _ => trivial) HT2.out).mono ?_
  intro e w3 hp
  obtain ⟨bo, cb, rfl, hob, htb, hb3⟩ := hp.open
  have HB3 := Lib.hid (HB2.out.trans (hb3.mono HB2.out.size))
  rw [HO1.out]
  clear hob htb hb3 hp
  generalize (outToks (scanAll u.data.toList)).length = M
  generalize outAt (scanAll u.data.toList) = A
  rcases f3 with rfl | rfl | rfl
  all_goals
   go_wp2_with fail
   go_ret
   exact ⟨rfl, HB3.out⟩
 |none =>
  obtain ⟨i1, i2, i3⟩ := outErr_none hR2
  have hn1 : R.1.length ≤ 1048576 := by rw [HR.out]; have := (scanF_len s.data.toList.length s.data.toList 0 false false (Nat.le_refl _)).1; rw [len_data] at this; omega
  have hcov : Covers s.data.toList 0 R.1 := scanF_covers s.data.toList s.data.toList.length 0 0 false false R.1 (by omega) (Nat.zero_le _) (Nat.le_refl _) (by simp [idleGo]) (by rw [List.drop_zero, ← HR.out, ← hR2])
  rw [i1, i2]
  rw [i3] at HTA ⊢
  obtain ⟨hsl, hta⟩ := HTA.out.tok
  generalize R.1 = ts at *
  have HTK := Lib.hid hta
  have HCV := Lib.hid hcov
  clear hR2 i1 i2 i3 hta hcov HTA HR
  go_wp2_with fail
  go_loopw [9, 10] (fun t u wr => ∃ k m : Nat, k ≤ ts.length ∧ m ≤ s.size ∧ t = .int .i64 m ∧ u = .int .i64 k ∧ Hid (Below w2.heap.size w2 wr) ∧ Hid (Covers s.data.toList m (ts.drop k))) (fun _ u _ => ts.length - (intOf u).toNat)
  case atStart => exact ⟨0, 0, Nat.zero_le _, Nat.zero_le _, rfl, rfl, Lib.hid (Below.refl _ _), HCV⟩
  case round =>
   obtain ⟨k, m, hk, hm, rfl, rfl, hbel, hcv⟩ := hrel
   by_cases hi : k < ts.length
   ·have hcons : ts.drop k = ts[k] :: ts.drop (k + 1) := List.drop_eq_getElem_cons hi
    have hcv2 := hcv.out
    rw [hcons] at hcv2
    obtain ⟨v1, v2, v3, v4, v5, v6, v7⟩ := covers_cons hcv2
    obtain ⟨g, o, rfl, hg, c0, c1, c2⟩ := HTK.out k hi
    have d0 : wr.cell? ⟨g, o + k * 3, none⟩ = some (.int .i64 (ts[k].kind : Int)) := (hbel.out.cell (p := ⟨g, o + k * 3, none⟩) hg).trans c0
    have d1 : wr.cell? ⟨g, o + k * 3 + 1, none⟩ = some (.string ⟨ts[k].text.toArray⟩) := (hbel.out.cell (p := ⟨g, o + k * 3 + 1, none⟩) hg).trans c1
    have d2 : wr.cell? ⟨g, o + k * 3 + 2, none⟩ = some (.int .i64 (ts[k].pos : Int)) := (hbel.out.cell (p := ⟨g, o + k * 3 + 2, none⟩) hg).trans c2
    obtain ⟨X, hX⟩ : ∃ X : ByteArray, X = ⟨ts[k].text.toArray⟩ := ⟨_, rfl⟩
    have hXd : X.data.toList = ts[k].text := by rw [hX]
    have hXs : ts[k].text.length = X.size := by rw [← len_data, hXd]
    rw [← hX] at d1
    rw [hXs] at v2 v4 v7
    rw [len_data] at v2
    rw [← hXd] at v4 v6
    have hx0 : 0 < X.size := by rw [← hXs]; exact List.length_pos_iff.2 v3
    have HI := Lib.hid hi
    generalize ts[k].pos = P at *
    generalize ts[k].kind = K at *
    obtain ⟨z1, z2⟩ := ne_facts hx0
    have y1 : decide (P < m) = false := decide_eq_false (by omega)
    have q1 : IntKind.i64.wrap ((s.size : Int) - (X.size : Int)) = (s.size : Int) - (X.size : Int) := IntWalk.i64_in _ (by omega)
    have q2 : IntKind.i64.wrap ((P : Int) + (X.size : Int)) = (P : Int) + (X.size : Int) := IntWalk.i64_in _ (by omega)
    have y2 : decide ((s.size : Int) - (X.size : Int) < (P : Int)) = false := decide_eq_false (by omega)
    have y3 : ((s.extract P (P + X.size)).toList == X.toList) = true := by
     rw [beq_iff_eq, ByteArray.toList_eq, ByteArray.toList_eq, Lib.extract_data, show P + X.size - P = X.size by omega]; exact v4
    have y4 : ((s.extract P (P + X.size)).toList != X.toList) = false := by rw [bne, y3]; rfl
    have r1 : ((P : Int) ≤ (P : Int) + (X.size : Int)) = True := eq_true (by omega)
    have r2 : ((P : Int) + (X.size : Int) ≤ (s.size : Int)) = True := eq_true (by omega)
    have r3 : (0 ≤ (P : Int) + (X.size : Int)) = True := eq_true (by omega)
    have r4 : ((P : Int) + (X.size : Int)).toNat = P + X.size := by omega
    have HID : Hid (∀ w, Calls Tryz.prog 14 #[.string (s.extract m P), .bool false] w fun e w' => e = .returned (.bool true) ∧ w = w') := Lib.hid (fun w => by
     have h := law_idle (s.extract m P) false w (by simp; omega)
     rw [Lib.extract_data, v5] at h
     exact h)
    have HSO : Hid (∀ w : World, Calls Tryz.prog 15 #[.agg #[.int .i64 (K : Int), .string X, .int .i64 (P : Int)]] w fun e w' => e = .returned (.bool true) ∧ Below w.heap.size w w') := Lib.hid (fun w => law_sound X K P w (by omega) v6)
    have HV7 := Lib.hid v7
    clear hcons hcv hcv2 v3 v4 v5 v6 v7 c0 c1 c2 hX hXd hXs
    go_wp2_with fail
    go_quiet (fail)
    rename_i nq
    have HBQ : Hid (Below w2.heap.size w2 (wr.drewN nq)) := Lib.hid (Go.below_drewN hbel.out nq)
    clear q1 q2 y1 y2 y3 y4 r1 r2 r3 r4 z1 z2
    have r5 : ((m : Int) ≤ (P : Int)) = True := eq_true (by omega)
    have r6 : ((P : Int) ≤ (s.size : Int)) = True := eq_true (by omega)
    go_wp2_with fail
    refine (HID.out _).mono ?_
    rintro e w4 ⟨rfl, rfl⟩
    go_wp2_with fail
    have HD1 := Lib.hid d1
    refine (HSO.out _).mono ?_
    rintro e w5 ⟨rfl, hb5⟩
    have HB5 := Lib.hid (HBQ.out.trans (hb5.mono HBQ.out.size))
    have e1 : w5.cell? ⟨g, o + k * 3 + 1, none⟩ = some (.string X) := by
     have h := HB5.out.cell (p := ⟨g, o + k * 3 + 1, none⟩) hg
     have h2 := hbel.out.cell (p := ⟨g, o + k * 3 + 1, none⟩) hg
     exact h.trans (h2.symm.trans HD1.out)
    clear hb5 d0 d1 d2
    go_wp2_with fail
    exact ⟨⟨k + 1, P + X.size, HI.out, by omega, by go_num, by go_num, HB5, HV7⟩, rz_meas HI.out⟩
   ·have hke : k = ts.length := by omega
    have hnil : ts.drop k = [] := List.drop_eq_nil_of_le (by omega)
    have hv := hcv.out
    rw [hnil] at hv
    have hv2 := covers_nil hv
    have HID : Hid (∀ w, Calls Tryz.prog 14 #[.string (s.extract m s.size), .bool true] w fun e w' => e = .returned (.bool true) ∧ w = w') := Lib.hid (fun w => by
     have h := law_idle (s.extract m s.size) true w (by simp only [ByteArray.size_extract]; omega)
     rw [Lib.extract_data, List.take_of_length_le (by simp), hv2] at h
     exact h)
    have p1 : ((k : Int) < (ts.length : Int)) = False := eq_false (by omega)
    clear hnil hv hv2 hke hcv
    go_wp2_with fail
    refine (HID.out _).mono ?_
    rintro e w4 ⟨rfl, rfl⟩
    go_wp2_with fail
    go_ret
    exact ⟨rfl, HB2.out.trans (hbel.out.mono HB2.out.size)⟩
end Go.Proofs.YtpkeonafcldkhaaGreatDoor
