import Derived.Test.YtpkeonafcldkhaaGreatDoorQ25
import Derived.Test.YtpkeonafcldkhaaGreatDoorQ39
import Derived.Test.YtpkeonafcldkhaaGreatDoorQ38
/- Part of the proof of YtpkeonafcldkhaaGreatDoorCardS CardV: RdH. -/
set_option linter.unusedVariables false
set_option linter.unusedSimpArgs false
namespace Go.Proofs.YtpkeonafcldkhaaGreatDoor
open Go.RowKit
theorem r11_name (w : World) (base p : Nat) (s : ByteArray) (at' : Nat) (br sq : Bool) (v : Value) (ts : List Tok) (w0 : World) (hs : s.size ≤ 281474976710656) (hat : at' < s.size) (h : LexSt base w0 p s at' br sq v ts w) (hlen : ts.length ≤ 1099511627776)
  (hh : letter s[at'] = true ∨ (s[at'].toNat = 58 ∧ (!br && !sq) = true)) :
  Calls Tryz.prog 31 #[.pointer (some ⟨p, 0, none⟩)] w (LexPost base w0 p s at' ts (tokenR (s.data.toList.drop at') br sq)) := by
 have hT := name_tok (l := s.data.toList.drop at') (col := (!br && !sq)) rfl (by rw [atB_drop, Nat.add_zero, atB_lt hat]; exact hh)
 rw [hT, spanEnd_drop]
 exact r11_nameE w base p s at' br sq v ts w0 hs hat h hlen _ rfl
theorem tok_number {l : List UInt8} {br sq : Bool} {c : UInt8} (hc : atB l 0 = c) (hl : letter c = false) (h58 : c.toNat ≠ 58) (h : digit c = true ∨ (c.toNat = 46 ∧ digit (atB l 1) = true)) : tokenR l br sq = numberR l br sq := by
 subst hc
 have h2 : digit (atB l 0) = true ∨ ((atB l 0).toNat = 46 ∧ 1 < l.length ∧ digit (atB l 1) = true) := by
  rcases h with h | ⟨h, h'⟩
  ·exact .inl h
  ·refine .inr ⟨h, ?_, h'⟩
   rcases Nat.lt_or_ge 1 l.length with h1 | h1
   ·exact h1
   ·rw [atB_ge h1] at h'; exact absurd h' (by decide)
 rw [tokenR, hl, if_neg (by simp), if_neg (fun x => h58 x.1), if_pos h2]
theorem tok_literal {l : List UInt8} {br sq : Bool} {c : UInt8} (hc : atB l 0 = c) (h : c.toNat = 34 ∨ c.toNat = 39 ∨ c.toNat = 96) : tokenR l br sq = strR l br sq := by
 subst hc
 have hcs : atB l 0 = 34 ∨ atB l 0 = 39 ∨ atB l 0 = 96 := by
  rcases h with h | h | h
  ·exact .inl (u8_lit (n := 34) (by omega) h)
  ·exact .inr (.inl (u8_lit (n := 39) (by omega) h))
  ·exact .inr (.inr (u8_lit (n := 96) (by omega) h))
 have h1 : letter (atB l 0) = false := by rcases hcs with e | e | e <;> (rw [e]; decide)
 have h2 : digit (atB l 0) = false := by rcases hcs with e | e | e <;> (rw [e]; decide)
 have h3 : isQuote (atB l 0) = true := by rcases hcs with e | e | e <;> (rw [e]; decide)
 rw [tokenR, h1, if_neg (by simp), if_neg (by rintro ⟨x, _⟩; omega), h2, if_neg (fun x => x.elim (fun y => by cases y) (fun y => by have := y.1; omega)), if_pos h3]
theorem tok_op {l : List UInt8} {br sq : Bool} {c : UInt8} (hc : atB l 0 = c) (hl : letter c = false) (h58 : ¬ (c.toNat = 58 ∧ (!br && !sq) = true)) (hd : digit c = false) (h46 : ¬ (c.toNat = 46 ∧ digit (atB l 1) = true)) (h1 : c.toNat ≠ 34) (h2 : c.toNat ≠ 39) (h3 : c.toNat ≠ 96) : tokenR l br sq = opR l br sq := by
 subst hc
 have hq : ¬ isQuote (atB l 0) = true := by
  intro h
  simp only [isQuote, Bool.or_eq_true, beq_iff_eq] at h
  rcases h with (h | h) | h
  ·exact h1 (by rw [h]; rfl)
  ·exact h2 (by rw [h]; rfl)
  ·exact h3 (by rw [h]; rfl)
 rw [tokenR, hl, if_neg (by simp), if_neg h58, hd, if_neg (fun x => x.elim (fun y => by cases y) (fun y => h46 ⟨y.1, y.2.2⟩)), if_neg hq]
set_option maxRecDepth 100000 in
set_option maxHeartbeats 8000000 in
theorem r11_Scan (w : World) (s : ByteArray) (hs : s.size ≤ 281474976710) :
  Calls Tryz.prog 12 #[.string s] w (ScanPost w (scanAll s.data.toList)) := by
 obtain ⟨R, hR⟩ : ∃ R, R = scanAll s.data.toList := ⟨_, rfl⟩
 rw [← hR]
 by_cases hlong : (33554432 : Int) < (s.size : Int)
 ·have h2 : R.2 = some (0, 1) := by rw [hR, scanAll, if_pos (by rw [len_data]; omega)]
  have H2 := Lib.hid h2
  clear h2 hR
  go_enter Tryz.func12, Tryz.ntmps12
  go_wp2_with fail
  refine bodyPost_ret (rz_res3 rfl _ _ _) rfl ?_
  exact ScanPost.bad H2.out (Below.refl _ _)
 ·have hRR : R = scanF s.data.toList 0 false false := by rw [hR, scanAll, if_neg (by rw [len_data]; omega)]
  have HR := Lib.hid hRR
  clear hR hRR
  have hb0 := (Below.refl w.heap.size w).alloc (Nat.le_refl _) (.cells #[.string s, .int .i64 0, .bool false, .bool false, .slice none 0 0, .int .i64 0] 56)
  have H0 : Hid (LexSt w.heap.size w w.heap.size s 0 false false (.slice none 0 0) [] (w.alloc (.cells #[.string s, .int .i64 0, .bool false, .bool false, .slice none 0 0, .int .i64 0] 56))) :=
   Lib.hid ⟨Blk.new w _ _, World.ownsRow_nil _ _ _ _, hb0, Nat.le_refl _⟩
  clear hb0
  obtain ⟨p, hp⟩ : ∃ p, p = w.heap.size := ⟨_, rfl⟩
  go_enter Tryz.func12, Tryz.ntmps12
  go_wp2_with fail
  rw [← hp] at H0 ⊢
  have HP := Lib.hid hp
  clear hp
  generalize (w.alloc (.cells #[.string s, .int .i64 0, .bool false, .bool false, .slice none 0 0, .int .i64 0] 56)) = w1 at H0 ⊢
  go_loopw [6] (fun _ wr => ∃ (k : Nat) (br sq : Bool) (v : Value) (ts : List Tok), k ≤ s.size ∧ ts.length ≤ k ∧ Hid (LexSt p w p s k br sq v ts wr) ∧ Hid (R = (ts ++ (scanF (s.data.toList.drop k) k br sq).1, (scanF (s.data.toList.drop k) k br sq).2))) (fun _ wr => s.size - natAt wr p)
  case atStart => exact ⟨0, false, false, _, [], Nat.zero_le _, Nat.zero_le _, H0, Lib.hid (by rw [HR.out]; rfl)⟩
  case round =>
   obtain ⟨k0, br, sq, v, ts, hk0, hts, hst, hR⟩ := hrel
   clear H0 HR
   have hmu : natAt wr p = k0 := lnat_of hst.out.z
   have HMU := Lib.hid hmu
   clear hmu
   go_wp2_with fail
   refine (r11_blank wr p p s k0 br sq v ts w (by omega) hk0 hst.out).mono ?_
   rintro e w2 ⟨rfl, k, hk1, hk2, hst2, hsc, hnb⟩
   have HS := Lib.hid hst2
   have HR : Hid (R = (ts ++ (scanF (s.data.toList.drop k) k br sq).1, (scanF (s.data.toList.drop k) k br sq).2)) := Lib.hid (by rw [hsc]; exact hR.out)
   have HNB := Lib.hid hnb
   clear hst2 hsc hnb hst hR
   have c1 : w2.cell? ⟨p, 1, none⟩ = some (.int .i64 (k : Int)) := by rw [HS.out.z.cell]; rfl
   have c2 : w2.cell? ⟨p, 2, none⟩ = some (.bool br) := by rw [HS.out.z.cell]; rfl
   have c3 : w2.cell? ⟨p, 3, none⟩ = some (.bool sq) := by rw [HS.out.z.cell]; rfl
   have c4 : w2.cell? ⟨p, 4, none⟩ = some v := by rw [HS.out.z.cell]; rfl
   by_cases hlt : k < s.size
   ·obtain ⟨hbl, h35⟩ := HNB.out hlt
    obtain ⟨L, hL⟩ : ∃ L, L = s.data.toList.drop k := ⟨_, rfl⟩
    have hLl : L.length = s.size - k := by rw [hL, List.length_drop, len_data]
    have hne : L ≠ [] := by intro e; rw [e] at hLl; simp at hLl; omega
    have hat0 : atB L 0 = s[k] := by rw [hL, atB_drop, Nat.add_zero, atB_lt hlt]
    have hat1 : atB L 1 = atB s.data.toList (k + 1) := by rw [hL, atB_drop]
    rw [← hL] at HR
    obtain ⟨c, hc⟩ : ∃ c, s[k] = c := ⟨_, rfl⟩
    obtain ⟨d, hd⟩ : ∃ d, atB s.data.toList (k + 1) = d := ⟨_, rfl⟩
    rw [hc] at hat0 hbl h35
    rw [hd] at hat1
    have HA : Hid (∀ w, Calls Tryz.prog 33 #[.string s, .int .i64 ((k : Int) + 1)] w fun e w' => e = .returned (.int .u8 (d.toNat : Int)) ∧ w = w') := Lib.hid (fun w => r11_at' s _ (k + 1) (by omega) d hd w (by unfold maxLen; omega))
    have HTOK : Hid (∀ kk n b q, tokenR L br sq = .tok kk n b q → 1 ≤ n ∧ n ≤ s.size - k ∧ R = ((ts ++ [⟨kk, L.take n, k⟩]) ++ (scanF (s.data.toList.drop (k + n)) (k + n) b q).1, (scanF (s.data.toList.drop (k + n)) (k + n) b q).2)) := Lib.hid (by
     intro kk n b q hr
     have hpos := tokenR_pos hne hr
     have hsf := scanF_tok hne (by rw [hat0]; exact hbl) (by rw [hat0]; exact h35) hr k
     refine ⟨hpos.1, by omega, ?_⟩
     rw [HR.out, hsf, List.append_assoc, hL, List.drop_drop]; rfl)
    have HBAD : Hid (∀ er, tokenR L br sq = .bad er → R.2 = some (k, er) ∧ er ≠ 0) := Lib.hid (by
     intro er hr
     refine ⟨by rw [HR.out, scanF_bad hne (by rw [hat0]; exact hbl) (by rw [hat0]; exact h35) hr k], ?_⟩
     have := tokenR_err hr; omega)
    have HL := Lib.hid hL
    have HAT0 := Lib.hid hat0
    have HAT1 := Lib.hid hat1
    have HC : Hid (s[k] = c) := Lib.hid hc
    have hfew : ts.length ≤ 1099511627776 := by omega
    clear hL hLl hne hat0 hat1 hd hbl h35 HR HNB
    cases hl : letter c
    ·cases e58 : ((c.toNat : Int) == 58)
     ·have n58 : c.toNat ≠ 58 := by have := neT e58; omega
      cases hd : digit c
      ·cases e46 : ((c.toNat : Int) == 46)
       ·have n46 : c.toNat ≠ 46 := by have := neT e46; omega
        cases e34 : ((c.toNat : Int) == 34)
        ·cases e39 : ((c.toNat : Int) == 39)
         ·cases e96 : ((c.toNat : Int) == 96)
          ·have m34 := neT e34
           have m39 := neT e39
           have m96 := neT e96
           have hcall : Calls Tryz.prog 36 #[.pointer (some ⟨p, 0, none⟩)] w2 (LexPost p w p s k ts (tokenR L br sq)) := by
            rw [tok_op HAT0.out hl (fun x => n58 x.1) hd (fun x => n46 x.1) (by omega) (by omega) (by omega), HL.out]; exact r11_operator w2 p p s k br sq v ts w (by omega) hlt HS.out hfew
           have HCL := Lib.hid hcall
           clear hcall
           go_wp2_with (first | (go_at_call 30; refine (r11_letter' c _ hl _).mono ?_; rintro e w' ⟨rfl, rfl⟩) | (go_at_call 32; refine (r11_digit' c _ hd _).mono ?_; rintro e w' ⟨rfl, rfl⟩))
           refine HCL.out.mono ?_
           rintro e w5 ⟨rfl, hp5⟩
           clear HCL c1 c2 c3 c4
           cases hr : tokenR L br sq with
           |tok kk n b q =>
            rw [hr] at hp5
            obtain ⟨v', hst5⟩ := hp5
            obtain ⟨hn1, hn2, hR5⟩ := HTOK.out kk n b q hr
            rw [← HL.out] at hst5
            have HS5 := Lib.hid hst5
            have HR5 := Lib.hid hR5
            have HM5 := Lib.hid (lnat_of hst5.z)
            have c5 : w5.cell? ⟨p, 5, none⟩ = some (.int .i64 0) := by rw [hst5.z.cell]; rfl
            clear hst5 hR5 hr HTOK HBAD HS
            go_wp2_with fail
            exact ⟨⟨k + n, b, q, v', _, by omega, by rw [List.length_append]; simp; omega, HS5, HR5⟩, by rw [HM5.out, HMU.out]; omega⟩
           |bad er =>
            rw [hr] at hp5
            obtain ⟨b, q, v', hz5, hb5⟩ := hp5
            obtain ⟨hR5, hne5⟩ := HBAD.out er hr
            have HR5 := Lib.hid hR5
            have HB5 : Hid (Below w.heap.size w w5) := Lib.hid (by rw [← HP.out]; exact hb5)
            have c1 : w5.cell? ⟨p, 1, none⟩ = some (.int .i64 (k : Int)) := by rw [hz5.cell]; rfl
            have c5 : w5.cell? ⟨p, 5, none⟩ = some (.int .i64 (er : Int)) := by rw [hz5.cell]; rfl
            have y5 : ((er : Int) != 0) = true := by rw [bne_iff_ne]; omega
            clear hz5 hb5 hR5 hr HTOK HBAD HS hne5
            go_wp2_with fail
            go_region_held3 (fun w' => w'.cell? ⟨p, 1, none⟩ = some (.int .i64 (k : Int)) ∧ w'.cell? ⟨p, 5, none⟩ = some (.int .i64 (er : Int))) (first | go_keep) (first | fail)
            go_wp2_with fail
            refine bodyPost_ret (rz_res3 rfl _ _ _) rfl ?_
            exact ScanPost.bad HR5.out HB5.out.drew
          ·skip
           have hcall : Calls Tryz.prog 35 #[.pointer (some ⟨p, 0, none⟩)] w2 (LexPost p w p s k ts (tokenR L br sq)) := by
            rw [tok_literal HAT0.out (.inr (.inr (by have := eqT e96; omega))), HL.out]; exact r11_literal w2 p p s k br sq v ts w (by omega) hlt HS.out hfew
           have HCL := Lib.hid hcall
           clear hcall
           go_wp2_with (first | (go_at_call 30; refine (r11_letter' c _ hl _).mono ?_; rintro e w' ⟨rfl, rfl⟩) | (go_at_call 32; refine (r11_digit' c _ hd _).mono ?_; rintro e w' ⟨rfl, rfl⟩))
           refine HCL.out.mono ?_
           rintro e w5 ⟨rfl, hp5⟩
           clear HCL c1 c2 c3 c4
           cases hr : tokenR L br sq with
           |tok kk n b q =>
            rw [hr] at hp5
            obtain ⟨v', hst5⟩ := hp5
            obtain ⟨hn1, hn2, hR5⟩ := HTOK.out kk n b q hr
            rw [← HL.out] at hst5
            have HS5 := Lib.hid hst5
            have HR5 := Lib.hid hR5
            have HM5 := Lib.hid (lnat_of hst5.z)
            have c5 : w5.cell? ⟨p, 5, none⟩ = some (.int .i64 0) := by rw [hst5.z.cell]; rfl
            clear hst5 hR5 hr HTOK HBAD HS
            go_wp2_with fail
            exact ⟨⟨k + n, b, q, v', _, by omega, by rw [List.length_append]; simp; omega, HS5, HR5⟩, by rw [HM5.out, HMU.out]; omega⟩
           |bad er =>
            rw [hr] at hp5
            obtain ⟨b, q, v', hz5, hb5⟩ := hp5
            obtain ⟨hR5, hne5⟩ := HBAD.out er hr
            have HR5 := Lib.hid hR5
            have HB5 : Hid (Below w.heap.size w w5) := Lib.hid (by rw [← HP.out]; exact hb5)
            have c1 : w5.cell? ⟨p, 1, none⟩ = some (.int .i64 (k : Int)) := by rw [hz5.cell]; rfl
            have c5 : w5.cell? ⟨p, 5, none⟩ = some (.int .i64 (er : Int)) := by rw [hz5.cell]; rfl
            have y5 : ((er : Int) != 0) = true := by rw [bne_iff_ne]; omega
            clear hz5 hb5 hR5 hr HTOK HBAD HS hne5
            go_wp2_with fail
            go_region_held3 (fun w' => w'.cell? ⟨p, 1, none⟩ = some (.int .i64 (k : Int)) ∧ w'.cell? ⟨p, 5, none⟩ = some (.int .i64 (er : Int))) (first | go_keep) (first | fail)
            go_wp2_with fail
            refine bodyPost_ret (rz_res3 rfl _ _ _) rfl ?_
            exact ScanPost.bad HR5.out HB5.out.drew
         ·skip
          have hcall : Calls Tryz.prog 35 #[.pointer (some ⟨p, 0, none⟩)] w2 (LexPost p w p s k ts (tokenR L br sq)) := by
           rw [tok_literal HAT0.out (.inr (.inl (by have := eqT e39; omega))), HL.out]; exact r11_literal w2 p p s k br sq v ts w (by omega) hlt HS.out hfew
          have HCL := Lib.hid hcall
          clear hcall
          go_wp2_with (first | (go_at_call 30; refine (r11_letter' c _ hl _).mono ?_; rintro e w' ⟨rfl, rfl⟩) | (go_at_call 32; refine (r11_digit' c _ hd _).mono ?_; rintro e w' ⟨rfl, rfl⟩))
          refine HCL.out.mono ?_
          rintro e w5 ⟨rfl, hp5⟩
          clear HCL c1 c2 c3 c4
          cases hr : tokenR L br sq with
          |tok kk n b q =>
           rw [hr] at hp5
           obtain ⟨v', hst5⟩ := hp5
           obtain ⟨hn1, hn2, hR5⟩ := HTOK.out kk n b q hr
           rw [← HL.out] at hst5
           have HS5 := Lib.hid hst5
           have HR5 := Lib.hid hR5
           have HM5 := Lib.hid (lnat_of hst5.z)
           have c5 : w5.cell? ⟨p, 5, none⟩ = some (.int .i64 0) := by rw [hst5.z.cell]; rfl
           clear hst5 hR5 hr HTOK HBAD HS
           go_wp2_with fail
           exact ⟨⟨k + n, b, q, v', _, by omega, by rw [List.length_append]; simp; omega, HS5, HR5⟩, by rw [HM5.out, HMU.out]; omega⟩
          |bad er =>
           rw [hr] at hp5
           obtain ⟨b, q, v', hz5, hb5⟩ := hp5
           obtain ⟨hR5, hne5⟩ := HBAD.out er hr
           have HR5 := Lib.hid hR5
           have HB5 : Hid (Below w.heap.size w w5) := Lib.hid (by rw [← HP.out]; exact hb5)
           have c1 : w5.cell? ⟨p, 1, none⟩ = some (.int .i64 (k : Int)) := by rw [hz5.cell]; rfl
           have c5 : w5.cell? ⟨p, 5, none⟩ = some (.int .i64 (er : Int)) := by rw [hz5.cell]; rfl
           have y5 : ((er : Int) != 0) = true := by rw [bne_iff_ne]; omega
           clear hz5 hb5 hR5 hr HTOK HBAD HS hne5
           go_wp2_with fail
           go_region_held3 (fun w' => w'.cell? ⟨p, 1, none⟩ = some (.int .i64 (k : Int)) ∧ w'.cell? ⟨p, 5, none⟩ = some (.int .i64 (er : Int))) (first | go_keep) (first | fail)
           go_wp2_with fail
           refine bodyPost_ret (rz_res3 rfl _ _ _) rfl ?_
           exact ScanPost.bad HR5.out HB5.out.drew
        ·skip
         have hcall : Calls Tryz.prog 35 #[.pointer (some ⟨p, 0, none⟩)] w2 (LexPost p w p s k ts (tokenR L br sq)) := by
          rw [tok_literal HAT0.out (.inl (by have := eqT e34; omega)), HL.out]; exact r11_literal w2 p p s k br sq v ts w (by omega) hlt HS.out hfew
         have HCL := Lib.hid hcall
         clear hcall
         go_wp2_with (first | (go_at_call 30; refine (r11_letter' c _ hl _).mono ?_; rintro e w' ⟨rfl, rfl⟩) | (go_at_call 32; refine (r11_digit' c _ hd _).mono ?_; rintro e w' ⟨rfl, rfl⟩))
         refine HCL.out.mono ?_
         rintro e w5 ⟨rfl, hp5⟩
         clear HCL c1 c2 c3 c4
         cases hr : tokenR L br sq with
         |tok kk n b q =>
          rw [hr] at hp5
          obtain ⟨v', hst5⟩ := hp5
          obtain ⟨hn1, hn2, hR5⟩ := HTOK.out kk n b q hr
          rw [← HL.out] at hst5
          have HS5 := Lib.hid hst5
          have HR5 := Lib.hid hR5
          have HM5 := Lib.hid (lnat_of hst5.z)
          have c5 : w5.cell? ⟨p, 5, none⟩ = some (.int .i64 0) := by rw [hst5.z.cell]; rfl
          clear hst5 hR5 hr HTOK HBAD HS
          go_wp2_with fail
          exact ⟨⟨k + n, b, q, v', _, by omega, by rw [List.length_append]; simp; omega, HS5, HR5⟩, by rw [HM5.out, HMU.out]; omega⟩
         |bad er =>
          rw [hr] at hp5
          obtain ⟨b, q, v', hz5, hb5⟩ := hp5
          obtain ⟨hR5, hne5⟩ := HBAD.out er hr
          have HR5 := Lib.hid hR5
          have HB5 : Hid (Below w.heap.size w w5) := Lib.hid (by rw [← HP.out]; exact hb5)
          have c1 : w5.cell? ⟨p, 1, none⟩ = some (.int .i64 (k : Int)) := by rw [hz5.cell]; rfl
          have c5 : w5.cell? ⟨p, 5, none⟩ = some (.int .i64 (er : Int)) := by rw [hz5.cell]; rfl
          have y5 : ((er : Int) != 0) = true := by rw [bne_iff_ne]; omega
          clear hz5 hb5 hR5 hr HTOK HBAD HS hne5
          go_wp2_with fail
          go_region_held3 (fun w' => w'.cell? ⟨p, 1, none⟩ = some (.int .i64 (k : Int)) ∧ w'.cell? ⟨p, 5, none⟩ = some (.int .i64 (er : Int))) (first | go_keep) (first | fail)
          go_wp2_with fail
          refine bodyPost_ret (rz_res3 rfl _ _ _) rfl ?_
          exact ScanPost.bad HR5.out HB5.out.drew
       ·cases hd2 : digit d
        ·skip
         have z34 : ((c.toNat : Int) == 34) = false := beq_eq_false_iff_ne.2 (by have := eqT e46; omega)
         have z39 : ((c.toNat : Int) == 39) = false := beq_eq_false_iff_ne.2 (by have := eqT e46; omega)
         have z96 : ((c.toNat : Int) == 96) = false := beq_eq_false_iff_ne.2 (by have := eqT e46; omega)
         have hcall : Calls Tryz.prog 36 #[.pointer (some ⟨p, 0, none⟩)] w2 (LexPost p w p s k ts (tokenR L br sq)) := by
          rw [tok_op HAT0.out hl (fun x => n58 x.1) hd (fun x => by rw [HAT1.out, hd2] at x; cases x.2) (by have := eqT e46; omega) (by have := eqT e46; omega) (by have := eqT e46; omega), HL.out]; exact r11_operator w2 p p s k br sq v ts w (by omega) hlt HS.out hfew
         have HCL := Lib.hid hcall
         clear hcall
         go_wp2_with (first | (go_at_call 30; refine (r11_letter' c _ hl _).mono ?_; rintro e w' ⟨rfl, rfl⟩) | (go_at_call 32; refine (r11_digit' c _ hd _).mono ?_; rintro e w' ⟨rfl, rfl⟩) | (go_at_call 32; refine (r11_digit' d _ hd2 _).mono ?_; rintro e w' ⟨rfl, rfl⟩) | (go_at_call 33; refine (HA.out _).mono ?_; rintro e w' ⟨rfl, rfl⟩))
         refine HCL.out.mono ?_
         rintro e w5 ⟨rfl, hp5⟩
         clear HCL c1 c2 c3 c4
         cases hr : tokenR L br sq with
         |tok kk n b q =>
          rw [hr] at hp5
          obtain ⟨v', hst5⟩ := hp5
          obtain ⟨hn1, hn2, hR5⟩ := HTOK.out kk n b q hr
          rw [← HL.out] at hst5
          have HS5 := Lib.hid hst5
          have HR5 := Lib.hid hR5
          have HM5 := Lib.hid (lnat_of hst5.z)
          have c5 : w5.cell? ⟨p, 5, none⟩ = some (.int .i64 0) := by rw [hst5.z.cell]; rfl
          clear hst5 hR5 hr HTOK HBAD HS
          go_wp2_with fail
          exact ⟨⟨k + n, b, q, v', _, by omega, by rw [List.length_append]; simp; omega, HS5, HR5⟩, by rw [HM5.out, HMU.out]; omega⟩
         |bad er =>
          rw [hr] at hp5
          obtain ⟨b, q, v', hz5, hb5⟩ := hp5
          obtain ⟨hR5, hne5⟩ := HBAD.out er hr
          have HR5 := Lib.hid hR5
          have HB5 : Hid (Below w.heap.size w w5) := Lib.hid (by rw [← HP.out]; exact hb5)
          have c1 : w5.cell? ⟨p, 1, none⟩ = some (.int .i64 (k : Int)) := by rw [hz5.cell]; rfl
          have c5 : w5.cell? ⟨p, 5, none⟩ = some (.int .i64 (er : Int)) := by rw [hz5.cell]; rfl
          have y5 : ((er : Int) != 0) = true := by rw [bne_iff_ne]; omega
          clear hz5 hb5 hR5 hr HTOK HBAD HS hne5
          go_wp2_with fail
          go_region_held3 (fun w' => w'.cell? ⟨p, 1, none⟩ = some (.int .i64 (k : Int)) ∧ w'.cell? ⟨p, 5, none⟩ = some (.int .i64 (er : Int))) (first | go_keep) (first | fail)
          go_wp2_with fail
          refine bodyPost_ret (rz_res3 rfl _ _ _) rfl ?_
          exact ScanPost.bad HR5.out HB5.out.drew
        ·skip
         have hcall : Calls Tryz.prog 34 #[.pointer (some ⟨p, 0, none⟩)] w2 (LexPost p w p s k ts (tokenR L br sq)) := by
          rw [tok_number HAT0.out hl (by exact n58) (.inr ⟨by have := eqT e46; omega, by rw [HAT1.out]; exact hd2⟩), HL.out]; exact r11_number w2 p p s k br sq v ts w (by omega) hlt HS.out hfew
         have HCL := Lib.hid hcall
         clear hcall
         go_wp2_with (first | (go_at_call 30; refine (r11_letter' c _ hl _).mono ?_; rintro e w' ⟨rfl, rfl⟩) | (go_at_call 32; refine (r11_digit' c _ hd _).mono ?_; rintro e w' ⟨rfl, rfl⟩) | (go_at_call 32; refine (r11_digit' d _ hd2 _).mono ?_; rintro e w' ⟨rfl, rfl⟩) | (go_at_call 33; refine (HA.out _).mono ?_; rintro e w' ⟨rfl, rfl⟩))
         refine HCL.out.mono ?_
         rintro e w5 ⟨rfl, hp5⟩
         clear HCL c1 c2 c3 c4
         cases hr : tokenR L br sq with
         |tok kk n b q =>
          rw [hr] at hp5
          obtain ⟨v', hst5⟩ := hp5
          obtain ⟨hn1, hn2, hR5⟩ := HTOK.out kk n b q hr
          rw [← HL.out] at hst5
          have HS5 := Lib.hid hst5
          have HR5 := Lib.hid hR5
          have HM5 := Lib.hid (lnat_of hst5.z)
          have c5 : w5.cell? ⟨p, 5, none⟩ = some (.int .i64 0) := by rw [hst5.z.cell]; rfl
          clear hst5 hR5 hr HTOK HBAD HS
          go_wp2_with fail
          exact ⟨⟨k + n, b, q, v', _, by omega, by rw [List.length_append]; simp; omega, HS5, HR5⟩, by rw [HM5.out, HMU.out]; omega⟩
         |bad er =>
          rw [hr] at hp5
          obtain ⟨b, q, v', hz5, hb5⟩ := hp5
          obtain ⟨hR5, hne5⟩ := HBAD.out er hr
          have HR5 := Lib.hid hR5
          have HB5 : Hid (Below w.heap.size w w5) := Lib.hid (by rw [← HP.out]; exact hb5)
          have c1 : w5.cell? ⟨p, 1, none⟩ = some (.int .i64 (k : Int)) := by rw [hz5.cell]; rfl
          have c5 : w5.cell? ⟨p, 5, none⟩ = some (.int .i64 (er : Int)) := by rw [hz5.cell]; rfl
          have y5 : ((er : Int) != 0) = true := by rw [bne_iff_ne]; omega
          clear hz5 hb5 hR5 hr HTOK HBAD HS hne5
          go_wp2_with fail
          go_region_held3 (fun w' => w'.cell? ⟨p, 1, none⟩ = some (.int .i64 (k : Int)) ∧ w'.cell? ⟨p, 5, none⟩ = some (.int .i64 (er : Int))) (first | go_keep) (first | fail)
          go_wp2_with fail
          refine bodyPost_ret (rz_res3 rfl _ _ _) rfl ?_
          exact ScanPost.bad HR5.out HB5.out.drew
      ·skip
       have hcall : Calls Tryz.prog 34 #[.pointer (some ⟨p, 0, none⟩)] w2 (LexPost p w p s k ts (tokenR L br sq)) := by
        rw [tok_number HAT0.out hl (by exact n58) (.inl hd), HL.out]; exact r11_number w2 p p s k br sq v ts w (by omega) hlt HS.out hfew
       have HCL := Lib.hid hcall
       clear hcall
       go_wp2_with (first | (go_at_call 30; refine (r11_letter' c _ hl _).mono ?_; rintro e w' ⟨rfl, rfl⟩) | (go_at_call 32; refine (r11_digit' c _ hd _).mono ?_; rintro e w' ⟨rfl, rfl⟩))
       refine HCL.out.mono ?_
       rintro e w5 ⟨rfl, hp5⟩
       clear HCL c1 c2 c3 c4
       cases hr : tokenR L br sq with
       |tok kk n b q =>
        rw [hr] at hp5
        obtain ⟨v', hst5⟩ := hp5
        obtain ⟨hn1, hn2, hR5⟩ := HTOK.out kk n b q hr
        rw [← HL.out] at hst5
        have HS5 := Lib.hid hst5
        have HR5 := Lib.hid hR5
        have HM5 := Lib.hid (lnat_of hst5.z)
        have c5 : w5.cell? ⟨p, 5, none⟩ = some (.int .i64 0) := by rw [hst5.z.cell]; rfl
        clear hst5 hR5 hr HTOK HBAD HS
        go_wp2_with fail
        exact ⟨⟨k + n, b, q, v', _, by omega, by rw [List.length_append]; simp; omega, HS5, HR5⟩, by rw [HM5.out, HMU.out]; omega⟩
       |bad er =>
        rw [hr] at hp5
        obtain ⟨b, q, v', hz5, hb5⟩ := hp5
        obtain ⟨hR5, hne5⟩ := HBAD.out er hr
        have HR5 := Lib.hid hR5
        have HB5 : Hid (Below w.heap.size w w5) := Lib.hid (by rw [← HP.out]; exact hb5)
        have c1 : w5.cell? ⟨p, 1, none⟩ = some (.int .i64 (k : Int)) := by rw [hz5.cell]; rfl
        have c5 : w5.cell? ⟨p, 5, none⟩ = some (.int .i64 (er : Int)) := by rw [hz5.cell]; rfl
        have y5 : ((er : Int) != 0) = true := by rw [bne_iff_ne]; omega
        clear hz5 hb5 hR5 hr HTOK HBAD HS hne5
        go_wp2_with fail
        go_region_held3 (fun w' => w'.cell? ⟨p, 1, none⟩ = some (.int .i64 (k : Int)) ∧ w'.cell? ⟨p, 5, none⟩ = some (.int .i64 (er : Int))) (first | go_keep) (first | fail)
        go_wp2_with fail
        refine bodyPost_ret (rz_res3 rfl _ _ _) rfl ?_
        exact ScanPost.bad HR5.out HB5.out.drew
     ·have hd : digit c = false := by have v58 := eqT e58; simp [digit]; omega
      cases br <;> cases sq
      ·skip
       have hcall : Calls Tryz.prog 31 #[.pointer (some ⟨p, 0, none⟩)] w2 (LexPost p w p s k ts (tokenR L false false)) := by
        rw [HL.out]; exact r11_name w2 p p s k false false v ts w (by omega) hlt HS.out hfew (by rw [HC.out]; exact .inr ⟨by have := eqT e58; omega, rfl⟩)
       have HCL := Lib.hid hcall
       clear hcall
       go_wp2_with (first | (go_at_call 30; refine (r11_letter' c _ hl _).mono ?_; rintro e w' ⟨rfl, rfl⟩))
       refine HCL.out.mono ?_
       rintro e w5 ⟨rfl, hp5⟩
       clear HCL c1 c2 c3 c4
       cases hr : tokenR L false false with
       |tok kk n b q =>
        rw [hr] at hp5
        obtain ⟨v', hst5⟩ := hp5
        obtain ⟨hn1, hn2, hR5⟩ := HTOK.out kk n b q hr
        rw [← HL.out] at hst5
        have HS5 := Lib.hid hst5
        have HR5 := Lib.hid hR5
        have HM5 := Lib.hid (lnat_of hst5.z)
        have c5 : w5.cell? ⟨p, 5, none⟩ = some (.int .i64 0) := by rw [hst5.z.cell]; rfl
        clear hst5 hR5 hr HTOK HBAD HS
        go_wp2_with fail
        exact ⟨⟨k + n, b, q, v', _, by omega, by rw [List.length_append]; simp; omega, HS5, HR5⟩, by rw [HM5.out, HMU.out]; omega⟩
       |bad er =>
        rw [hr] at hp5
        obtain ⟨b, q, v', hz5, hb5⟩ := hp5
        obtain ⟨hR5, hne5⟩ := HBAD.out er hr
        have HR5 := Lib.hid hR5
        have HB5 : Hid (Below w.heap.size w w5) := Lib.hid (by rw [← HP.out]; exact hb5)
        have c1 : w5.cell? ⟨p, 1, none⟩ = some (.int .i64 (k : Int)) := by rw [hz5.cell]; rfl
        have c5 : w5.cell? ⟨p, 5, none⟩ = some (.int .i64 (er : Int)) := by rw [hz5.cell]; rfl
        have y5 : ((er : Int) != 0) = true := by rw [bne_iff_ne]; omega
        clear hz5 hb5 hR5 hr HTOK HBAD HS hne5
        go_wp2_with fail
        go_region_held3 (fun w' => w'.cell? ⟨p, 1, none⟩ = some (.int .i64 (k : Int)) ∧ w'.cell? ⟨p, 5, none⟩ = some (.int .i64 (er : Int))) (first | go_keep) (first | fail)
        go_wp2_with fail
        refine bodyPost_ret (rz_res3 rfl _ _ _) rfl ?_
        exact ScanPost.bad HR5.out HB5.out.drew
      ·skip
       have z46 : ((c.toNat : Int) == 46) = false := beq_eq_false_iff_ne.2 (by have := eqT e58; omega)
       have z34 : ((c.toNat : Int) == 34) = false := beq_eq_false_iff_ne.2 (by have := eqT e58; omega)
       have z39 : ((c.toNat : Int) == 39) = false := beq_eq_false_iff_ne.2 (by have := eqT e58; omega)
       have z96 : ((c.toNat : Int) == 96) = false := beq_eq_false_iff_ne.2 (by have := eqT e58; omega)
       have hcall : Calls Tryz.prog 36 #[.pointer (some ⟨p, 0, none⟩)] w2 (LexPost p w p s k ts (tokenR L false true)) := by
        rw [tok_op HAT0.out hl (by simp) hd (fun x => by have := eqT e58; omega) (by have := eqT e58; omega) (by have := eqT e58; omega) (by have := eqT e58; omega), HL.out]; exact r11_operator w2 p p s k false true v ts w (by omega) hlt HS.out hfew
       have HCL := Lib.hid hcall
       clear hcall
       go_wp2_with (first | (go_at_call 30; refine (r11_letter' c _ hl _).mono ?_; rintro e w' ⟨rfl, rfl⟩) | (go_at_call 32; refine (r11_digit' c _ hd _).mono ?_; rintro e w' ⟨rfl, rfl⟩))
       refine HCL.out.mono ?_
       rintro e w5 ⟨rfl, hp5⟩
       clear HCL c1 c2 c3 c4
       cases hr : tokenR L false true with
       |tok kk n b q =>
        rw [hr] at hp5
        obtain ⟨v', hst5⟩ := hp5
        obtain ⟨hn1, hn2, hR5⟩ := HTOK.out kk n b q hr
        rw [← HL.out] at hst5
        have HS5 := Lib.hid hst5
        have HR5 := Lib.hid hR5
        have HM5 := Lib.hid (lnat_of hst5.z)
        have c5 : w5.cell? ⟨p, 5, none⟩ = some (.int .i64 0) := by rw [hst5.z.cell]; rfl
        clear hst5 hR5 hr HTOK HBAD HS
        go_wp2_with fail
        exact ⟨⟨k + n, b, q, v', _, by omega, by rw [List.length_append]; simp; omega, HS5, HR5⟩, by rw [HM5.out, HMU.out]; omega⟩
       |bad er =>
        rw [hr] at hp5
        obtain ⟨b, q, v', hz5, hb5⟩ := hp5
        obtain ⟨hR5, hne5⟩ := HBAD.out er hr
        have HR5 := Lib.hid hR5
        have HB5 : Hid (Below w.heap.size w w5) := Lib.hid (by rw [← HP.out]; exact hb5)
        have c1 : w5.cell? ⟨p, 1, none⟩ = some (.int .i64 (k : Int)) := by rw [hz5.cell]; rfl
        have c5 : w5.cell? ⟨p, 5, none⟩ = some (.int .i64 (er : Int)) := by rw [hz5.cell]; rfl
        have y5 : ((er : Int) != 0) = true := by rw [bne_iff_ne]; omega
        clear hz5 hb5 hR5 hr HTOK HBAD HS hne5
        go_wp2_with fail
        go_region_held3 (fun w' => w'.cell? ⟨p, 1, none⟩ = some (.int .i64 (k : Int)) ∧ w'.cell? ⟨p, 5, none⟩ = some (.int .i64 (er : Int))) (first | go_keep) (first | fail)
        go_wp2_with fail
        refine bodyPost_ret (rz_res3 rfl _ _ _) rfl ?_
        exact ScanPost.bad HR5.out HB5.out.drew
      ·skip
       have z46 : ((c.toNat : Int) == 46) = false := beq_eq_false_iff_ne.2 (by have := eqT e58; omega)
       have z34 : ((c.toNat : Int) == 34) = false := beq_eq_false_iff_ne.2 (by have := eqT e58; omega)
       have z39 : ((c.toNat : Int) == 39) = false := beq_eq_false_iff_ne.2 (by have := eqT e58; omega)
       have z96 : ((c.toNat : Int) == 96) = false := beq_eq_false_iff_ne.2 (by have := eqT e58; omega)
       have hcall : Calls Tryz.prog 36 #[.pointer (some ⟨p, 0, none⟩)] w2 (LexPost p w p s k ts (tokenR L true false)) := by
        rw [tok_op HAT0.out hl (by simp) hd (fun x => by have := eqT e58; omega) (by have := eqT e58; omega) (by have := eqT e58; omega) (by have := eqT e58; omega), HL.out]; exact r11_operator w2 p p s k true false v ts w (by omega) hlt HS.out hfew
       have HCL := Lib.hid hcall
       clear hcall
       go_wp2_with (first | (go_at_call 30; refine (r11_letter' c _ hl _).mono ?_; rintro e w' ⟨rfl, rfl⟩) | (go_at_call 32; refine (r11_digit' c _ hd _).mono ?_; rintro e w' ⟨rfl, rfl⟩))
       refine HCL.out.mono ?_
       rintro e w5 ⟨rfl, hp5⟩
       clear HCL c1 c2 c3 c4
       cases hr : tokenR L true false with
       |tok kk n b q =>
        rw [hr] at hp5
        obtain ⟨v', hst5⟩ := hp5
        obtain ⟨hn1, hn2, hR5⟩ := HTOK.out kk n b q hr
        rw [← HL.out] at hst5
        have HS5 := Lib.hid hst5
        have HR5 := Lib.hid hR5
        have HM5 := Lib.hid (lnat_of hst5.z)
        have c5 : w5.cell? ⟨p, 5, none⟩ = some (.int .i64 0) := by rw [hst5.z.cell]; rfl
        clear hst5 hR5 hr HTOK HBAD HS
        go_wp2_with fail
        exact ⟨⟨k + n, b, q, v', _, by omega, by rw [List.length_append]; simp; omega, HS5, HR5⟩, by rw [HM5.out, HMU.out]; omega⟩
       |bad er =>
        rw [hr] at hp5
        obtain ⟨b, q, v', hz5, hb5⟩ := hp5
        obtain ⟨hR5, hne5⟩ := HBAD.out er hr
        have HR5 := Lib.hid hR5
        have HB5 : Hid (Below w.heap.size w w5) := Lib.hid (by rw [← HP.out]; exact hb5)
        have c1 : w5.cell? ⟨p, 1, none⟩ = some (.int .i64 (k : Int)) := by rw [hz5.cell]; rfl
        have c5 : w5.cell? ⟨p, 5, none⟩ = some (.int .i64 (er : Int)) := by rw [hz5.cell]; rfl
        have y5 : ((er : Int) != 0) = true := by rw [bne_iff_ne]; omega
        clear hz5 hb5 hR5 hr HTOK HBAD HS hne5
        go_wp2_with fail
        go_region_held3 (fun w' => w'.cell? ⟨p, 1, none⟩ = some (.int .i64 (k : Int)) ∧ w'.cell? ⟨p, 5, none⟩ = some (.int .i64 (er : Int))) (first | go_keep) (first | fail)
        go_wp2_with fail
        refine bodyPost_ret (rz_res3 rfl _ _ _) rfl ?_
        exact ScanPost.bad HR5.out HB5.out.drew
      ·skip
       have z46 : ((c.toNat : Int) == 46) = false := beq_eq_false_iff_ne.2 (by have := eqT e58; omega)
       have z34 : ((c.toNat : Int) == 34) = false := beq_eq_false_iff_ne.2 (by have := eqT e58; omega)
       have z39 : ((c.toNat : Int) == 39) = false := beq_eq_false_iff_ne.2 (by have := eqT e58; omega)
       have z96 : ((c.toNat : Int) == 96) = false := beq_eq_false_iff_ne.2 (by have := eqT e58; omega)
       have hcall : Calls Tryz.prog 36 #[.pointer (some ⟨p, 0, none⟩)] w2 (LexPost p w p s k ts (tokenR L true true)) := by
        rw [tok_op HAT0.out hl (by simp) hd (fun x => by have := eqT e58; omega) (by have := eqT e58; omega) (by have := eqT e58; omega) (by have := eqT e58; omega), HL.out]; exact r11_operator w2 p p s k true true v ts w (by omega) hlt HS.out hfew
       have HCL := Lib.hid hcall
       clear hcall
       go_wp2_with (first | (go_at_call 30; refine (r11_letter' c _ hl _).mono ?_; rintro e w' ⟨rfl, rfl⟩) | (go_at_call 32; refine (r11_digit' c _ hd _).mono ?_; rintro e w' ⟨rfl, rfl⟩))
       refine HCL.out.mono ?_
       rintro e w5 ⟨rfl, hp5⟩
       clear HCL c1 c2 c3 c4
       cases hr : tokenR L true true with
       |tok kk n b q =>
        rw [hr] at hp5
        obtain ⟨v', hst5⟩ := hp5
        obtain ⟨hn1, hn2, hR5⟩ := HTOK.out kk n b q hr
        rw [← HL.out] at hst5
        have HS5 := Lib.hid hst5
        have HR5 := Lib.hid hR5
        have HM5 := Lib.hid (lnat_of hst5.z)
        have c5 : w5.cell? ⟨p, 5, none⟩ = some (.int .i64 0) := by rw [hst5.z.cell]; rfl
        clear hst5 hR5 hr HTOK HBAD HS
        go_wp2_with fail
        exact ⟨⟨k + n, b, q, v', _, by omega, by rw [List.length_append]; simp; omega, HS5, HR5⟩, by rw [HM5.out, HMU.out]; omega⟩
       |bad er =>
        rw [hr] at hp5
        obtain ⟨b, q, v', hz5, hb5⟩ := hp5
        obtain ⟨hR5, hne5⟩ := HBAD.out er hr
        have HR5 := Lib.hid hR5
        have HB5 : Hid (Below w.heap.size w w5) := Lib.hid (by rw [← HP.out]; exact hb5)
        have c1 : w5.cell? ⟨p, 1, none⟩ = some (.int .i64 (k : Int)) := by rw [hz5.cell]; rfl
        have c5 : w5.cell? ⟨p, 5, none⟩ = some (.int .i64 (er : Int)) := by rw [hz5.cell]; rfl
        have y5 : ((er : Int) != 0) = true := by rw [bne_iff_ne]; omega
        clear hz5 hb5 hR5 hr HTOK HBAD HS hne5
        go_wp2_with fail
        go_region_held3 (fun w' => w'.cell? ⟨p, 1, none⟩ = some (.int .i64 (k : Int)) ∧ w'.cell? ⟨p, 5, none⟩ = some (.int .i64 (er : Int))) (first | go_keep) (first | fail)
        go_wp2_with fail
        refine bodyPost_ret (rz_res3 rfl _ _ _) rfl ?_
        exact ScanPost.bad HR5.out HB5.out.drew
    ·skip
     have hcall : Calls Tryz.prog 31 #[.pointer (some ⟨p, 0, none⟩)] w2 (LexPost p w p s k ts (tokenR L br sq)) := by
      rw [HL.out]; exact r11_name w2 p p s k br sq v ts w (by omega) hlt HS.out hfew (by rw [HC.out]; exact .inl hl)
     have HCL := Lib.hid hcall
     clear hcall
     go_wp2_with (first | (go_at_call 30; refine (r11_letter' c _ hl _).mono ?_; rintro e w' ⟨rfl, rfl⟩))
     refine HCL.out.mono ?_
     rintro e w5 ⟨rfl, hp5⟩
     clear HCL c1 c2 c3 c4
     cases hr : tokenR L br sq with
     |tok kk n b q =>
      rw [hr] at hp5
      obtain ⟨v', hst5⟩ := hp5
      obtain ⟨hn1, hn2, hR5⟩ := HTOK.out kk n b q hr
      rw [← HL.out] at hst5
      have HS5 := Lib.hid hst5
      have HR5 := Lib.hid hR5
      have HM5 := Lib.hid (lnat_of hst5.z)
      have c5 : w5.cell? ⟨p, 5, none⟩ = some (.int .i64 0) := by rw [hst5.z.cell]; rfl
      clear hst5 hR5 hr HTOK HBAD HS
      go_wp2_with fail
      exact ⟨⟨k + n, b, q, v', _, by omega, by rw [List.length_append]; simp; omega, HS5, HR5⟩, by rw [HM5.out, HMU.out]; omega⟩
     |bad er =>
      rw [hr] at hp5
      obtain ⟨b, q, v', hz5, hb5⟩ := hp5
      obtain ⟨hR5, hne5⟩ := HBAD.out er hr
      have HR5 := Lib.hid hR5
      have HB5 : Hid (Below w.heap.size w w5) := Lib.hid (by rw [← HP.out]; exact hb5)
      have c1 : w5.cell? ⟨p, 1, none⟩ = some (.int .i64 (k : Int)) := by rw [hz5.cell]; rfl
      have c5 : w5.cell? ⟨p, 5, none⟩ = some (.int .i64 (er : Int)) := by rw [hz5.cell]; rfl
      have y5 : ((er : Int) != 0) = true := by rw [bne_iff_ne]; omega
      clear hz5 hb5 hR5 hr HTOK HBAD HS hne5
      go_wp2_with fail
      go_region_held3 (fun w' => w'.cell? ⟨p, 1, none⟩ = some (.int .i64 (k : Int)) ∧ w'.cell? ⟨p, 5, none⟩ = some (.int .i64 (er : Int))) (first | go_keep) (first | fail)
      go_wp2_with fail
      refine bodyPost_ret (rz_res3 rfl _ _ _) rfl ?_
      exact ScanPost.bad HR5.out HB5.out.drew
   ·have hke : k = s.size := by omega
    have h2 : R = (ts, none) := by rw [HR.out, hke, List.drop_of_length_le (by rw [len_data]; omega), scanF_nil, List.append_nil]
    have H2 := Lib.hid h2
    clear h2 HR
    go_wp2_with fail
    refine bodyPost_ret (rz_res3 rfl _ _ _) rfl ?_
    have h3 : R.1 = ts := by rw [H2.out]
    exact ScanPost.good (by rw [H2.out]) (by rw [h3, ← HP.out]; exact HS.out.own) (by rw [← HP.out]; exact HS.out.below)
end Go.Proofs.YtpkeonafcldkhaaGreatDoor
