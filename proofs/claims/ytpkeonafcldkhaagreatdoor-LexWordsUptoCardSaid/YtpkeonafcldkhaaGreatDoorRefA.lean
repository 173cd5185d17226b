import Derived.Test.YtpkeonafcldkhaaGreatDoorLexB
/- weirref11: the small functions. -/
set_option linter.unusedVariables false
set_option linter.unusedSimpArgs false
namespace Go.Proofs.YtpkeonafcldkhaaGreatDoor
open Go.RowKit

theorem info_u8 : (Tryz.prog.info? 5).map (fun i => (i.zero, i.size, i.bytes)) = some (some (.int .u8 0), 1, 1) := by kernel_rfl
theorem first_of {col : Bool} {c : UInt8} {k : Nat} (hk : k ≠ 0) {b : Bool} (_ : letter c = b) (hd : digit c = true) : letter c = true ∨ (col = true ∧ c.toNat = 58) ∨ (k ≠ 0 ∧ digit c = true) := .inr (.inr ⟨hk, hd⟩)
theorem r11_digit (c : UInt8) (w : World) :
    Calls Tryz.prog 32 #[.int .u8 (c.toNat : Int)] w fun e w' => e = .returned (.bool (digit c)) ∧ w = w' := by
  go_enter Tryz.func32, Tryz.ntmps32
  go_wp2
  all_goals (go_ret; exact ⟨ret_bool (by rw [Bool.eq_iff_iff]; simp [digit]; omega), rfl⟩)
theorem r11_letter (c : UInt8) (w : World) :
    Calls Tryz.prog 30 #[.int .u8 (c.toNat : Int)] w fun e w' => e = .returned (.bool (letter c)) ∧ w = w' := by
  have hc : c.toNat < 95 ∨ c.toNat = 95 ∨ 95 < c.toNat := by omega
  rcases hc with hc | hc | hc
  all_goals
    first | (have h1 : 95 ≤ c.toNat ∧ c.toNat ≤ 95 := by omega) | skip
    first | clear hc | skip
    go_enter Tryz.func30, Tryz.ntmps30
    go_wp2
    all_goals (go_ret; exact ⟨ret_bool (by rw [Bool.eq_iff_iff]; simp [letter]; omega), rfl⟩)
theorem r11_at (s : ByteArray) (i : Nat) (w : World) (_hs : s.size ≤ maxLen) :
    Calls Tryz.prog 33 #[.string s, .int .i64 (i : Int)] w fun e w' => e = .returned (.int .u8 ((atB s.data.toList i).toNat : Int)) ∧ w = w' := by
  by_cases h : i < s.size
  · have ha := Lib.hid (atB_lt h)
    go_enter Tryz.func33, Tryz.ntmps33
    go_wp2_with fail
    go_ret
    exact ⟨ret_int (by rw [ha.out]), rfl⟩
  · have ha := Lib.hid (atB_ge (l := s.data.toList) (i := i) (by rw [len_data]; omega))
    go_enter Tryz.func33, Tryz.ntmps33
    go_wp2_with fail
    go_ret
    exact ⟨ret_int (by rw [ha.out]; rfl), rfl⟩
set_option maxHeartbeats 400000 in
theorem r11_isLabel (s : ByteArray) (w : World) (hs : s.size ≤ maxLen) :
    Calls Tryz.prog 23 #[.string s] w fun e w' => e = .returned (.bool (isLabel s.data.toList)) ∧ w = w' := by
  unfold maxLen at hs
  have h0 : idAt false s.data.toList 0 = isLabel s.data.toList := rfl
  have H0 := Lib.hid h0
  clear h0
  go_enter Tryz.func23, Tryz.ntmps23
  go_wp2_with fail
  go_loop [3] (fun t => ∃ k : Nat, k ≤ s.size ∧ t = .int .i64 k ∧ Hid (idAt false s.data.toList k = isLabel s.data.toList)) (fun t => s.size - (intOf t).toNat)
  case atStart => exact ⟨0, Nat.zero_le _, rfl, H0.out⟩
  case round =>
    obtain ⟨k, hk, rfl, hsp⟩ := hrel
    clear H0
    by_cases hlt : k < s.size
    · by_cases hk0 : k = 0
      · subst hk0
        cases hl : letter s[0]
        all_goals
          go_wp2_with (first | (go_at_call 30; refine (r11_letter _ _).mono ?_; rintro e w' ⟨rfl, rfl⟩) | (go_at_call 32; refine (r11_digit _ _).mono ?_; rintro e w' ⟨rfl, rfl⟩))
        · go_ret
          exact ⟨ret_bool (by rw [← hsp.out, idAt_stop hlt hl (by simp) (.inl rfl)]), rfl⟩
        · go_round
          case rel => exact ⟨1, by omega, by go_num, (idAt_step hlt (.inl hl)).trans hsp.out⟩
          case measure => simp [intOf]; omega
      · have hkp : 1 ≤ k := by omega
        have HK := Lib.hid hk0
        clear hk0
        cases hl : letter s[k] <;> cases hd : digit s[k]
        all_goals
          go_wp2_with (first | (go_at_call 30; refine (r11_letter _ _).mono ?_; rintro e w' ⟨rfl, rfl⟩) | (go_at_call 32; refine (r11_digit _ _).mono ?_; rintro e w' ⟨rfl, rfl⟩))
        · go_ret
          exact ⟨ret_bool (by rw [← hsp.out, idAt_stop hlt hl (by simp) (.inr hd)]), rfl⟩
        · go_round
          case rel => exact ⟨k + 1, by omega, by go_num, (idAt_step hlt (.inr (.inr ⟨HK.out, hd⟩))).trans hsp.out⟩
          case measure => simp [intOf]; omega
        · go_round
          case rel => exact ⟨k + 1, by omega, by go_num, (idAt_step hlt (.inl hl)).trans hsp.out⟩
          case measure => simp [intOf]; omega
        · go_round
          case rel => exact ⟨k + 1, by omega, by go_num, (idAt_step hlt (.inl hl)).trans hsp.out⟩
          case measure => simp [intOf]; omega
    · go_wp2_with fail
      go_ret
      exact ⟨ret_bool (by rw [← hsp.out, idAt_end (by rw [len_data]; omega), ByteArray.toList_eq]; first | done | (cases s.data.toList <;> rfl)), rfl⟩

set_option maxHeartbeats 600000 in
theorem r11_isMetric (s : ByteArray) (w : World) (hs : s.size ≤ maxLen) :
    Calls Tryz.prog 25 #[.string s] w fun e w' => e = .returned (.bool (isMetric s.data.toList)) ∧ w = w' := by
  unfold maxLen at hs
  have h0 : idAt true s.data.toList 0 = isMetric s.data.toList := rfl
  have H0 := Lib.hid h0
  clear h0
  go_enter Tryz.func25, Tryz.ntmps25
  go_wp2_with fail
  go_loop [3] (fun t => ∃ k : Nat, k ≤ s.size ∧ t = .int .i64 k ∧ Hid (idAt true s.data.toList k = isMetric s.data.toList)) (fun t => s.size - (intOf t).toNat)
  case atStart => exact ⟨0, Nat.zero_le _, rfl, H0.out⟩
  case round =>
    obtain ⟨k, hk, rfl, hsp⟩ := hrel
    clear H0
    by_cases hlt : k < s.size
    · by_cases hcol : s[k].toNat = 58
      · have hst := Lib.hid ((idAt_step (col := true) hlt (.inr (.inl ⟨rfl, hcol⟩))).trans hsp.out)
        have hc1 : 58 ≤ s[k].toNat ∧ s[k].toNat ≤ 58 := by omega
        obtain ⟨hc1, hc2⟩ := hc1
        clear hcol
        cases hl : letter s[k]
        all_goals
          go_wp2_with (first | (go_at_call 30; refine (r11_letter _ _).mono ?_; rintro e w' ⟨rfl, rfl⟩) | (go_at_call 32; refine (r11_digit _ _).mono ?_; rintro e w' ⟨rfl, rfl⟩))
          go_round
          case rel => exact ⟨k + 1, by omega, by go_num, hst.out⟩
          case measure => simp [intOf]; omega
      · have HC := Lib.hid hcol
        have hcc : ((s[k].toNat : Int) != 58) = true := by rw [bne_iff_ne]; omega
        clear hcol
        by_cases hk0 : k = 0
        · subst hk0
          cases hl : letter s[0]
          all_goals
            go_wp2_with (first | (go_at_call 30; refine (r11_letter _ _).mono ?_; rintro e w' ⟨rfl, rfl⟩) | (go_at_call 32; refine (r11_digit _ _).mono ?_; rintro e w' ⟨rfl, rfl⟩))
          all_goals first
            | (go_ret; exact ⟨ret_bool (by rw [← hsp.out, idAt_stop hlt hl (fun _ => HC.out) (.inl rfl)]), rfl⟩)
            | (go_round
               case rel => exact ⟨1, by omega, by go_num, (idAt_step hlt (.inl hl)).trans hsp.out⟩
               case measure => simp [intOf]; omega)
        · have hkp : 1 ≤ k := by omega
          have hkb : ((k : Int) == 0) = false := by rw [beq_eq_false_iff_ne]; omega
          have HK := Lib.hid hk0
          clear hk0
          cases hl : letter s[k] <;> cases hd : digit s[k]
          all_goals
            go_wp2_with (first | (go_at_call 30; refine (r11_letter _ _).mono ?_; rintro e w' ⟨rfl, rfl⟩) | (go_at_call 32; refine (r11_digit _ _).mono ?_; rintro e w' ⟨rfl, rfl⟩))
          all_goals first
            | (go_ret; exact ⟨ret_bool (by rw [← hsp.out, idAt_stop hlt hl (fun _ => HC.out) (.inr hd)]), rfl⟩)
            | (go_round
               case rel => exact ⟨k + 1, by omega, by go_num, (idAt_step hlt (first_of HK.out hl hd)).trans hsp.out⟩
               case measure => simp [intOf]; omega)
            | (go_round
               case rel => exact ⟨k + 1, by omega, by go_num, (idAt_step hlt (.inl hl)).trans hsp.out⟩
               case measure => simp [intOf]; omega)
    · go_wp2_with fail
      go_ret
      exact ⟨ret_bool (by rw [← hsp.out, idAt_end (by rw [len_data]; omega), ByteArray.toList_eq]; first | done | (cases s.data.toList <;> rfl)), rfl⟩

set_option maxRecDepth 100000 in
set_option maxHeartbeats 400000 in
theorem r11_small (s : ByteArray) (w : World) (hs : s.size ≤ maxLen) (hs2 : s.size ≤ 281474976710656) :
    Calls Tryz.prog 46 #[.string s] w fun e w' => e = .returned (.string ⟨(s.data.toList.map low).toArray⟩) ∧ Below w.heap.size w w' := by
  have hs' := hs
  unfold maxLen at hs'
  obtain ⟨i0, hi0, hz0, hz1, hz2⟩ := info_parts info_u8
  go_enter Tryz.func46, Tryz.ntmps46
  go_wp2_with (at_make; refine wpList_make_own _ rfl (.const (.int .i64 0)) (.tmp 7) 40 rfl w.heap.size 5 i0 (.int .u8 0) 1 Tryz.underlying40 hi0 hz0 hz1 _ _ _ s.size rfl rfl rfl (by rw [hz2]; omega) hs (Nat.le_refl _) ?_)
  intro w1 hown1 hgr1
  have hbel1 : Below w.heap.size w w1 := (Below.refl _ _).grown hgr1 (Nat.le_refl _) (by simp)
  have hlt1 : w.heap.size < w1.heap.size := (hown1.lt w.heap.size rfl).2
  go_wp2_with fail
  go_loopw [3, 4] (fun v i wr => ∃ k : Nat, k ≤ s.size ∧ i = .int .i64 k ∧ v = .slice (some ⟨w.heap.size, 0, none⟩) k s.size ∧ wr.ownsRow w.heap.size 5 1 (.slice (some ⟨w.heap.size, 0, none⟩) k s.size) k (cellsOf (lowPre s.data.toList k)) ∧ Below w.heap.size w wr ∧ w.heap.size < wr.heap.size) (fun _ i _ => s.size - (intOf i).toNat)
  case atStart => exact ⟨0, Nat.zero_le _, rfl, rfl, hown1, hbel1, hlt1⟩
  case round =>
    obtain ⟨k, hk, rfl, rfl, hown, hbel, hsz⟩ := hrel
    clear hown1 hgr1 hbel1 hlt1
    by_cases hlt : k < s.size
    · have hkl : k < s.data.toList.length := by rw [len_data]; exact hlt
      have htk : cellsOf (lowPre s.data.toList (k + 1)) = cellsOf (lowPre s.data.toList k) ++ [.int .u8 ((low s[k]).toNat : Int)] := by
        rw [lowPre_succ _ _ hkl, gl, cellsOf_append]; rfl
      have HT := Lib.hid htk
      clear htk
      by_cases hup : 65 ≤ s[k].toNat ∧ s[k].toNat ≤ 90
      · have HU := Lib.hid (low_up _ hup)
        obtain ⟨hu1, hu2⟩ := hup
        go_wp2_with (at_builtin; refine wpList_push_fits rfl (.tmp 26) (.tmp 28) 40 rfl w.heap.size 5 (.int .u8 0) 1 1 info_u8 Tryz.underlying40 w.heap.size k s.size _ rfl hown [.int .u8 ((s[k].toNat : Int) + 32)] rfl rfl (one1 rfl) (by omega) ?_)
        intro w2 hown2 hgr2
        have HO := Lib.hid hown2
        have HB := Lib.hid (hbel.grown hgr2 (Nat.le_of_lt hsz) (by intro g hg; cases hg; exact Nat.le_refl _))
        have hsz2 := Nat.lt_of_lt_of_le hsz hgr2.size
        clear hown2 hgr2 hown hbel
        go_wp2_with fail
        go_roundw
        case rel => exact ⟨k + 1, by omega, by go_num, rfl, by rw [HT.out, HU.out]; exact HO.out, HB.out, hsz2⟩
        case measure => simp [intOf]; omega
      · have HU := Lib.hid (low_id _ hup)
        rcases (show s[k].toNat < 65 ∨ (65 ≤ s[k].toNat ∧ 90 < s[k].toNat) from by omega) with hu | ⟨hu1, hu2⟩
        all_goals
          go_wp2_with (at_builtin; refine wpList_push_fits rfl (.tmp 26) (.tmp 28) 40 rfl w.heap.size 5 (.int .u8 0) 1 1 info_u8 Tryz.underlying40 w.heap.size k s.size _ rfl hown [.int .u8 (s[k].toNat : Int)] rfl rfl (one1 rfl) (by omega) ?_)
          intro w2 hown2 hgr2
          have HO := Lib.hid hown2
          have HB := Lib.hid (hbel.grown hgr2 (Nat.le_of_lt hsz) (by intro g hg; cases hg; exact Nat.le_refl _))
          have hsz2 := Nat.lt_of_lt_of_le hsz hgr2.size
          clear hown2 hgr2 hown hbel
          go_wp2_with fail
          go_roundw
          case rel => exact ⟨k + 1, by omega, by go_num, rfl, by rw [HT.out, HU.out]; exact HO.out, HB.out, hsz2⟩
          case measure => simp [intOf]; omega
    · have hke : lowPre s.data.toList k = s.data.toList.map low := by rw [lowPre, List.take_of_length_le (by rw [len_data]; omega)]
      have hlk : k = (s.data.toList.map low).length := by rw [List.length_map, len_data]; omega
      rw [hke] at hown
      have hback := run_string_of (P := Tryz.prog) (bytesAt_of_own hown) 40 9 5 k s.size hlk Tryz.underlying40 Tryz.underlying5 Tryz.underlying9
      have HB := Lib.hid hbel
      clear hke hlk hown hbel
      go_wp2_with fail
      go_ret
      exact ⟨rfl, HB.out⟩
set_option maxHeartbeats 1000000 in
theorem r11_word (s : ByteArray) (w : World) (hs : s.size ≤ maxLen) :
    Calls Tryz.prog 22 #[.string s] w fun e w' => e = .returned (.tuple #[.string (wordOut s.data.toList), .bool (word s.data.toList)]) ∧ Below w.heap.size w w' := by
  have hs' := hs
  unfold maxLen at hs'
  by_cases h12 : 20 < s.size
  · have hw : word s.data.toList = false := word_long (by rw [len_data]; omega)
    have hw2 : wordOut s.data.toList = ⟨#[]⟩ := by simp [wordOut, hw]
    rw [hw, hw2]
    clear hw hw2
    go_enter Tryz.func22, Tryz.ntmps22
    go_wp2_with fail
    go_ret2
    exact ⟨rfl, Below.refl _ _⟩
  · have hwo : wordOut s.data.toList = (if isKw (s.data.toList.map low) then ⟨(s.data.toList.map low).toArray⟩ else ⟨#[]⟩) := rfl
    have hw : word s.data.toList = isKw (s.data.toList.map low) := rfl
    go_enter Tryz.func22, Tryz.ntmps22
    have HO := Lib.hid hwo
    have HW := Lib.hid hw
    clear hwo hw
    go_wp2_with fail
    refine (r11_small s _ hs (by omega)).mono ?_
    rintro e w1 ⟨rfl, hb⟩
    generalize s.data.toList.map low = L at HO HW ⊢
    have HB := Lib.hid hb
    clear hb
    cases hk : isKw L
    · have hne : ∀ k, k ∈ kws → (L == k) = false := by
        intro k hkm
        cases hb : L == k
        · rfl
        · have : L = k := by simpa using hb
          subst this
          simp [isKw] at hk
          exact absurd hkm hk
      simp only [kws, List.mem_cons, List.not_mem_nil, or_false, forall_eq_or_imp, forall_eq] at hne
      obtain ⟨h1, h2, h3, h4, h5, h6, h7, h8, h9, h10, h11, h12, h13, h14, h15, h16, h17, h18, h19, h20, h21, h22, h23⟩ := hne
      have HK := Lib.hid hk
      clear hk
      go_wp2_with fail
      go_ret2
      exact ⟨ret_sb (by rw [HO.out, HK.out]; rfl) (by rw [HW.out, HK.out]), HB.out⟩
    · have hm : L ∈ kws := by simpa [isKw] using hk
      simp only [kws, List.mem_cons, List.not_mem_nil, or_false] at hm
      have HK := Lib.hid hk
      clear hk
      rcases hm with rfl | rfl | rfl | rfl | rfl | rfl | rfl | rfl | rfl | rfl | rfl | rfl | rfl | rfl | rfl | rfl | rfl | rfl | rfl | rfl | rfl | rfl | rfl
      all_goals
        go_wp2_with fail
        go_ret2
        exact ⟨ret_sb (by rw [HO.out, HK.out]; rfl) (by rw [HW.out, HK.out]), HB.out⟩
end Go.Proofs.YtpkeonafcldkhaaGreatDoor
