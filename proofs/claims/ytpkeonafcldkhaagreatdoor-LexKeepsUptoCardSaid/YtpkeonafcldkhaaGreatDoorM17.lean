import Derived.Test.YtpkeonafcldkhaaGreatDoorM16
import Derived.Test.YtpkeonafcldkhaaGreatDoorM06
import Derived.Test.YtpkeonafcldkhaaGreatDoorM01
import Derived.Test.YtpkeonafcldkhaaGreatDoorM10
/- lex: Join. -/
set_option linter.unusedVariables false
set_option linter.unusedSimpArgs false
namespace Go.Proofs.YtpkeonafcldkhaaGreatDoor
open Go.RowKit

def joinL : List (List UInt8) → List UInt8
  | [] => []
  | [t] => t
  | t :: u :: r => t ++ 32 :: joinL (u :: r)
theorem joinL_snoc : ∀ (l : List (List UInt8)) (t : List UInt8), joinL (l ++ [t]) = if l = [] then t else joinL l ++ 32 :: t
  | [], t => rfl
  | [a], t => by simp [joinL]
  | a :: b :: r, t => by
    have ih := joinL_snoc (b :: r) t
    rw [if_neg (by simp)] at ih
    rw [if_neg (by simp)]
    show a ++ 32 :: joinL ((b :: r) ++ [t]) = (a ++ 32 :: joinL (b :: r)) ++ 32 :: t
    rw [ih]; simp
theorem joinL_app : ∀ (a b : List (List UInt8)), (joinL a).length ≤ (joinL (a ++ b)).length
  | [], b => by simp [joinL]
  | [t], [] => by simp [joinL]
  | [t], u :: r => by simp [joinL]
  | t :: u :: r, b => by
    have ih : (joinL (u :: r)).length ≤ (joinL (u :: (r ++ b))).length := joinL_app (u :: r) b
    have e : (t :: u :: r) ++ b = t :: u :: (r ++ b) := rfl
    rw [e]
    simp only [joinL, List.length_append, List.length_cons] at *
    omega
theorem joinL_take (l : List (List UInt8)) (k : Nat) : (joinL (l.take k)).length ≤ (joinL l).length := by
  have := joinL_app (l.take k) (l.drop k)
  rwa [List.take_append_drop] at this
theorem bldAt_alloc {T e : TypeId} {B b : Nat} {p : Value} {bs : List Value} {w : World} (h : Lib.BuilderAt T e B b p bs w) (o : Obj) : Lib.BuilderAt T e B b p bs (w.alloc o) := by
  have hlt := h.lt
  obtain ⟨hB, v, hb, hown, hne⟩ := h
  exact ⟨hB, v, (Below.heap_alloc w o b hlt).trans hb, hown.alloc o, hne⟩
theorem isBld_alloc {T e : TypeId} {B b : Nat} {bs : List Value} {w : World} (h : Lib.IsBuilder T e B b bs w) (o : Obj) : Lib.IsBuilder T e B b bs (w.alloc o) := by
  rcases h with h | h
  · exact .inl (bldAt_alloc h o)
  · exact .inr (bldAt_alloc h o)
/-- A row of tokens that can be read. -/
def TokRow (w : World) (g o : Nat) (xs : List (Int × ByteArray × Int)) : Prop :=
  g < w.heap.size ∧ ∀ j (h : j < xs.length), w.cell? ⟨g, o + j * 3, none⟩ = some (.int .i64 xs[j].1) ∧ w.cell? ⟨g, o + j * 3 + 1, none⟩ = some (.string xs[j].2.1) ∧ w.cell? ⟨g, o + j * 3 + 2, none⟩ = some (.int .i64 xs[j].2.2)
def textsOf (xs : List (Int × ByteArray × Int)) : List (List UInt8) := xs.map fun x => x.2.1.data.toList
theorem vi' {k : IntKind} {a b : Int} (h : a = b) : Value.int k a = Value.int k b := by rw [h]
set_option maxRecDepth 100000 in
set_option maxHeartbeats 1000000 in
theorem lex_Join (w : World) (g o c : Nat) (xs : List (Int × ByteArray × Int)) (hx : TokRow w g o xs) (hn : xs.length ≤ 1099511627776) (hlen : (joinL (textsOf xs)).length ≤ 140737488355328) :
    Calls Tryz.prog 16 #[.slice (some ⟨g, o, none⟩) xs.length c] w fun e w' => e = .returned (.string ⟨(joinL (textsOf xs)).toArray⟩) ∧ Below w.heap.size w w' := by
  go_enter Tryz.func16, Tryz.ntmps16
  go_wp2_with fail
  go_loopw [8] (fun t8 wr => ∃ k : Nat, Hid (k ≤ xs.length) ∧ t8 = .int .i64 (k : Int) ∧ Hid (Lib.IsBuilder 68 5 w.heap.size w.heap.size (Lib.byteCells (joinL ((textsOf xs).take k))) wr ∧ Below w.heap.size w wr ∧ w.heap.size < wr.heap.size)) (fun t8 wr => xs.length - (intOf t8).toNat)
  case atStart =>
    refine ⟨0, Lib.hid (Nat.zero_le _), rfl, Lib.hid ⟨?_, ?_, ?_⟩⟩
    · exact .inl ⟨Nat.le_refl _, _, Blk.new w _ _, World.ownsRow_nil _ _ _ _, by simp [Value.ownBlock]⟩
    · exact (Below.refl _ _).alloc (Nat.le_refl _) _
    · simp
  case round =>
    obtain ⟨k, hk, rfl, hB⟩ := hrel
    by_cases hi : k < xs.length
    · have p1 : ((k : Int) < (xs.length : Int)) = True := by simp; omega
      obtain ⟨x1, x2, x3⟩ := hx.2 k hi
      have hb := hB.out.2.1
      have y1 := (hb.cell (p := ⟨g, o + k * 3, none⟩) hx.1).trans x1
      have y2 := (hb.cell (p := ⟨g, o + k * 3 + 1, none⟩) hx.1).trans x2
      have y3 := (hb.cell (p := ⟨g, o + k * 3 + 2, none⟩) hx.1).trans x3
      clear x1 x2 x3 hb
      obtain ⟨hI, hBl, hsz⟩ := hB.out
      have hI1 := isBld_alloc hI (.cells #[.int .i64 xs[k].1, .string xs[k].2.1, .int .i64 xs[k].2.2] 33)
      have hN1 := Blk.new wr 33 #[.int .i64 xs[k].1, .string xs[k].2.1, .int .i64 xs[k].2.2]
      have hB1 := hBl.alloc (Nat.le_of_lt hsz) (.cells #[.int .i64 xs[k].1, .string xs[k].2.1, .int .i64 xs[k].2.2] 33)
      have hs1 : w.heap.size ≤ (wr.alloc (.cells #[.int .i64 xs[k].1, .string xs[k].2.1, .int .i64 xs[k].2.2] 33)).heap.size := by simp; omega
      have hlen1 : (joinL ((textsOf xs).take (k + 1))).length ≤ 140737488355328 := Nat.le_trans (joinL_take _ _) hlen
      have hkt : k < (textsOf xs).length := by simp [textsOf]; exact hi
      have hsn : joinL ((textsOf xs).take (k + 1)) = if (textsOf xs).take k = [] then xs[k].2.1.data.toList else joinL ((textsOf xs).take k) ++ 32 :: xs[k].2.1.data.toList := by
        rw [List.take_succ_eq_append_getElem hkt, joinL_snoc]
        simp [textsOf]
      have HI1 := Lib.hid hI1
      have HN1 := Lib.hid hN1
      have HB1 := Lib.hid hB1
      have HS1 := Lib.hid hs1
      have HL1 := Lib.hid hlen1
      have HSN := Lib.hid hsn
      clear hI hBl hsz hI1 hN1 hB1 hs1 hlen1 hsn hkt
      by_cases k0 : 0 < k
      · have q0 : ((0 : Int) < (k : Int)) = True := by simp; omega
        have hne : ¬ (textsOf xs).take k = [] := by
          intro h
          have hl0 : ((textsOf xs).take k).length = k := by simp [textsOf]; omega
          rw [h] at hl0
          simp at hl0
          omega
        have hsn2 := HSN.out
        rw [if_neg hne] at hsn2
        have hl2 := HL1.out
        rw [hsn2, List.length_append, List.length_cons, len_data] at hl2
        have HS2 := Lib.hid hsn2
        have HL2 := Lib.hid hl2
        clear hne hsn2 hl2
        go_wp2_with fail
        refine (bld_WriteByte w.heap.size w.heap.size _ 32 _ HI1.out (by have := HL2.out; simp [Lib.byteCells]; omega) HS1.out).mono ?_
        rintro e w2 ⟨rfl, h2, hb2, hk2⟩
        have hN2 := hk2 _ _ _ (by decide) (by decide) HN1.out
        have d1 : w2.cell? ⟨wr.heap.size, 1, none⟩ = some (.string xs[k].2.1) := by rw [hN2.cell]; rfl
        have HB2 := Lib.hid (HB1.out.trans hb2)
        have H2 := Lib.hid h2
        clear hN2 hb2 h2 hk2
        go_wp2_with fail
        refine (bld_WriteString w.heap.size w.heap.size _ xs[k].2.1 _ (.inr H2.out) (by have := HL2.out; simp [Lib.byteCells]; omega) HB2.out.size).mono ?_
        rintro e w3 ⟨rfl, h3, hb3, hk3⟩
        have HB3 := Lib.hid (HB2.out.trans hb3)
        have H3 := Lib.hid h3
        clear h3 hb3 hk3
        go_wp2_with fail
        go_round
        case rel =>
          refine ⟨k + 1, Lib.hid hi, (by first | rfl | (simp; done) | (apply vi'; simp only [wrap64]; omega)), Lib.hid ⟨?_, HB3.out, ?_⟩⟩
          · rw [HS2.out]
            have e : Lib.byteCells (joinL ((textsOf xs).take k)) ++ [.int .u8 32] ++ Lib.strCells xs[k].2.1 = Lib.byteCells (joinL ((textsOf xs).take k) ++ 32 :: xs[k].2.1.data.toList) := by simp [Lib.byteCells, Lib.strCells]
            rw [← e]
            exact .inr H3.out
          · exact H3.out.lt
        case measure => simp [intOf]; omega
      · have q0 : ((0 : Int) < (k : Int)) = False := by simp; omega
        have hk0 : k = 0 := by omega
        have hsn2 := HSN.out
        rw [if_pos (by rw [hk0]; rfl)] at hsn2
        have hl2 := HL1.out
        rw [hsn2, len_data] at hl2
        have HS2 := Lib.hid hsn2
        have HL2 := Lib.hid hl2
        have HK0 := Lib.hid hk0
        clear hsn2 hl2 hk0
        go_wp2_with fail
        have hz : joinL ((textsOf xs).take k) = [] := by rw [HK0.out]; rfl
        have hzl : (joinL ((textsOf xs).take k)).length = 0 := by rw [hz]; rfl
        refine (bld_WriteString w.heap.size w.heap.size _ xs[k].2.1 _ HI1.out (by have := HL2.out; simp [Lib.byteCells]; omega) HS1.out).mono ?_
        rintro e w3 ⟨rfl, h3, hb3, hk3⟩
        have HB3 := Lib.hid (HB1.out.trans hb3)
        have H3 := Lib.hid h3
        clear h3 hb3 hk3
        go_wp2_with fail
        go_round
        case rel =>
          refine ⟨k + 1, Lib.hid hi, (by first | rfl | (simp; done) | (apply vi'; simp only [wrap64]; omega)), Lib.hid ⟨?_, HB3.out, ?_⟩⟩
          · rw [HS2.out]
            have e : Lib.byteCells (joinL ((textsOf xs).take k)) ++ Lib.strCells xs[k].2.1 = Lib.byteCells (xs[k].2.1.data.toList) := by rw [hz]; rfl
            rw [← e]
            exact .inr H3.out
          · exact H3.out.lt
        case measure => simp [intOf]; omega
    · have hke : k = xs.length := by have := hk.out; omega
      obtain ⟨hI, hBl, hsz⟩ := hB.out
      rw [hke, show (textsOf xs).take xs.length = textsOf xs from List.take_of_length_le (by simp [textsOf])] at hI
      have HI := Lib.hid hI
      have HBl := Lib.hid hBl
      clear hI hBl
      subst hke
      go_wp2_with fail
      refine (Tryz.Builder_String_any w.heap.size w.heap.size _ _ HI.out HBl.out.size).mono ?_
      rintro e w2 ⟨rfl, hb2⟩
      have HB2 := Lib.hid (HBl.out.trans hb2)
      clear hb2
      go_wp2_with fail
      go_ret
      exact ⟨rfl, HB2.out⟩
end Go.Proofs.YtpkeonafcldkhaaGreatDoor
/- weirref11: the small functions. -/
set_option linter.unusedVariables false
set_option linter.unusedSimpArgs false
namespace Go.Proofs.YtpkeonafcldkhaaGreatDoor
open Go.RowKit

theorem info_u8r : (Tryz.prog.info? 5).map (fun i => (i.zero, i.size, i.bytes)) = some (some (.int .u8 0), 1, 1) := by kernel_rfl
theorem first_of {col : Bool} {c : UInt8} {k : Nat} (hk : k ≠ 0) {b : Bool} (_ : letter c = b) (hd : digit c = true) : letter c = true ∨ (col = true ∧ c.toNat = 58) ∨ (k ≠ 0 ∧ digit c = true) := .inr (.inr ⟨hk, hd⟩)
theorem r11_digit (c : UInt8) (w : World) :
    Calls Tryz.prog 32 #[.int .u8 (c.toNat : Int)] w fun e w' => e = .returned (.bool (digit c)) ∧ w = w' := by
  go_enter Tryz.func32, Tryz.ntmps32
  go_wp2
  all_goals (go_ret; exact ⟨ret_bool (by rw [Bool.eq_iff_iff]; simp [digit]; omega), rfl⟩)
theorem r11_letter (c : UInt8) (w : World) :
    Calls Tryz.prog 30 #[.int .u8 (c.toNat : Int)] w fun e w' => e = .returned (.bool (letter c)) ∧ w = w' := by
  have hc : c.toNat < 95 ∨ c.toNat = 95 ∨ 95 < c.toNat := by omega
  rcases hc with hc | hc | hc
  all_goals
    first | (have h1 : 95 ≤ c.toNat ∧ c.toNat ≤ 95 := by omega) | skip
    first | clear hc | skip
    go_enter Tryz.func30, Tryz.ntmps30
    go_wp2
    all_goals (go_ret; exact ⟨ret_bool (by rw [Bool.eq_iff_iff]; simp [letter]; omega), rfl⟩)
theorem r11_at (s : ByteArray) (i : Nat) (w : World) (_hs : s.size ≤ maxLen) :
    Calls Tryz.prog 33 #[.string s, .int .i64 (i : Int)] w fun e w' => e = .returned (.int .u8 ((atB s.data.toList i).toNat : Int)) ∧ w = w' := by
  by_cases h : i < s.size
  · have ha := Lib.hid (atB_lt h)
    go_enter Tryz.func33, Tryz.ntmps33
    go_wp2_with fail
    go_ret
    exact ⟨ret_int (by rw [ha.out]), rfl⟩
  · have ha := Lib.hid (atB_ge (l := s.data.toList) (i := i) (by rw [len_data]; omega))
    go_enter Tryz.func33, Tryz.ntmps33
    go_wp2_with fail
    go_ret
    exact ⟨ret_int (by rw [ha.out]; rfl), rfl⟩
set_option maxHeartbeats 400000 in
theorem r11_isLabel (s : ByteArray) (w : World) (hs : s.size ≤ maxLen) :
    Calls Tryz.prog 23 #[.string s] w fun e w' => e = .returned (.bool (isLabel s.data.toList)) ∧ w = w' := by
  unfold maxLen at hs
  have h0 : idAt false s.data.toList 0 = isLabel s.data.toList := rfl
  have H0 := Lib.hid h0
  clear h0
  go_enter Tryz.func23, Tryz.ntmps23
  go_wp2_with fail
  go_loop [3] (fun t => ∃ k : Nat, k ≤ s.size ∧ t = .int .i64 k ∧ Hid (idAt false s.data.toList k = isLabel s.data.toList)) (fun t => s.size - (intOf t).toNat)
  case atStart => exact ⟨0, Nat.zero_le _, rfl, H0.out⟩
  case round =>
    obtain ⟨k, hk, rfl, hsp⟩ := hrel
    clear H0
    by_cases hlt : k < s.size
    · by_cases hk0 : k = 0
      · subst hk0
        cases hl : letter s[0]
        all_goals
          go_wp2_with (first | (go_at_call 30; refine (r11_letter _ _).mono ?_; rintro e w' ⟨rfl, rfl⟩) | (go_at_call 32; refine (r11_digit _ _).mono ?_; rintro e w' ⟨rfl, rfl⟩))
        · go_ret
          exact ⟨ret_bool (by rw [← hsp.out, idAt_stop hlt hl (by simp) (.inl rfl)]), rfl⟩
        · go_round
          case rel => exact ⟨1, by omega, by go_num, (idAt_step hlt (.inl hl)).trans hsp.out⟩
          case measure => simp [intOf]; omega
      · have hkp : 1 ≤ k := by omega
        have HK := Lib.hid hk0
        clear hk0
        cases hl : letter s[k] <;> cases hd : digit s[k]
        all_goals
          go_wp2_with (first | (go_at_call 30; refine (r11_letter _ _).mono ?_; rintro e w' ⟨rfl, rfl⟩) | (go_at_call 32; refine (r11_digit _ _).mono ?_; rintro e w' ⟨rfl, rfl⟩))
        · go_ret
          exact ⟨ret_bool (by rw [← hsp.out, idAt_stop hlt hl (by simp) (.inr hd)]), rfl⟩
        · go_round
          case rel => exact ⟨k + 1, by omega, by go_num, (idAt_step hlt (.inr (.inr ⟨HK.out, hd⟩))).trans hsp.out⟩
          case measure => simp [intOf]; omega
        · go_round
          case rel => exact ⟨k + 1, by omega, by go_num, (idAt_step hlt (.inl hl)).trans hsp.out⟩
          case measure => simp [intOf]; omega
        · go_round
          case rel => exact ⟨k + 1, by omega, by go_num, (idAt_step hlt (.inl hl)).trans hsp.out⟩
          case measure => simp [intOf]; omega
    · go_wp2_with fail
      go_ret
      exact ⟨ret_bool (by rw [← hsp.out, idAt_end (by rw [len_data]; omega), ByteArray.toList_eq]; first | done | (cases s.data.toList <;> rfl)), rfl⟩

set_option maxHeartbeats 600000 in
theorem r11_isMetric (s : ByteArray) (w : World) (hs : s.size ≤ maxLen) :
    Calls Tryz.prog 25 #[.string s] w fun e w' => e = .returned (.bool (isMetric s.data.toList)) ∧ w = w' := by
  unfold maxLen at hs
  have h0 : idAt true s.data.toList 0 = isMetric s.data.toList := rfl
  have H0 := Lib.hid h0
  clear h0
  go_enter Tryz.func25, Tryz.ntmps25
  go_wp2_with fail
  go_loop [3] (fun t => ∃ k : Nat, k ≤ s.size ∧ t = .int .i64 k ∧ Hid (idAt true s.data.toList k = isMetric s.data.toList)) (fun t => s.size - (intOf t).toNat)
  case atStart => exact ⟨0, Nat.zero_le _, rfl, H0.out⟩
  case round =>
    obtain ⟨k, hk, rfl, hsp⟩ := hrel
    clear H0
    by_cases hlt : k < s.size
    · by_cases hcol : s[k].toNat = 58
      · have hst := Lib.hid ((idAt_step (col := true) hlt (.inr (.inl ⟨rfl, hcol⟩))).trans hsp.out)
        have hc1 : 58 ≤ s[k].toNat ∧ s[k].toNat ≤ 58 := by omega
        obtain ⟨hc1, hc2⟩ := hc1
        clear hcol
        cases hl : letter s[k]
        all_goals
          go_wp2_with (first | (go_at_call 30; refine (r11_letter _ _).mono ?_; rintro e w' ⟨rfl, rfl⟩) | (go_at_call 32; refine (r11_digit _ _).mono ?_; rintro e w' ⟨rfl, rfl⟩))
          go_round
          case rel => exact ⟨k + 1, by omega, by go_num, hst.out⟩
          case measure => simp [intOf]; omega
      · have HC := Lib.hid hcol
        have hcc : ((s[k].toNat : Int) != 58) = true := by rw [bne_iff_ne]; omega
        clear hcol
        by_cases hk0 : k = 0
        · subst hk0
          cases hl : letter s[0]
          all_goals
            go_wp2_with (first | (go_at_call 30; refine (r11_letter _ _).mono ?_; rintro e w' ⟨rfl, rfl⟩) | (go_at_call 32; refine (r11_digit _ _).mono ?_; rintro e w' ⟨rfl, rfl⟩))
          all_goals first
            | (go_ret; exact ⟨ret_bool (by rw [← hsp.out, idAt_stop hlt hl (fun _ => HC.out) (.inl rfl)]), rfl⟩)
            | (go_round
               case rel => exact ⟨1, by omega, by go_num, (idAt_step hlt (.inl hl)).trans hsp.out⟩
               case measure => simp [intOf]; omega)
        · have hkp : 1 ≤ k := by omega
          have hkb : ((k : Int) == 0) = false := by rw [beq_eq_false_iff_ne]; omega
          have HK := Lib.hid hk0
          clear hk0
          cases hl : letter s[k] <;> cases hd : digit s[k]
          all_goals
            go_wp2_with (first | (go_at_call 30; refine (r11_letter _ _).mono ?_; rintro e w' ⟨rfl, rfl⟩) | (go_at_call 32; refine (r11_digit _ _).mono ?_; rintro e w' ⟨rfl, rfl⟩))
          all_goals first
            | (go_ret; exact ⟨ret_bool (by rw [← hsp.out, idAt_stop hlt hl (fun _ => HC.out) (.inr hd)]), rfl⟩)
            | (go_round
               case rel => exact ⟨k + 1, by omega, by go_num, (idAt_step hlt (first_of HK.out hl hd)).trans hsp.out⟩
               case measure => simp [intOf]; omega)
            | (go_round
               case rel => exact ⟨k + 1, by omega, by go_num, (idAt_step hlt (.inl hl)).trans hsp.out⟩
               case measure => simp [intOf]; omega)
    · go_wp2_with fail
      go_ret
      exact ⟨ret_bool (by rw [← hsp.out, idAt_end (by rw [len_data]; omega), ByteArray.toList_eq]; first | done | (cases s.data.toList <;> rfl)), rfl⟩

set_option maxRecDepth 100000 in
set_option maxHeartbeats 400000 in
theorem r11_small (s : ByteArray) (w : World) (hs : s.size ≤ maxLen) (hs2 : s.size ≤ 281474976710656) :
    Calls Tryz.prog 46 #[.string s] w fun e w' => e = .returned (.string ⟨(s.data.toList.map low).toArray⟩) ∧ Below w.heap.size w w' := by
  have hs' := hs
  unfold maxLen at hs'
  obtain ⟨i0, hi0, hz0, hz1, hz2⟩ := info_parts info_u8r
  go_enter Tryz.func46, Tryz.ntmps46
  go_wp2_with (at_make; refine wpList_make_own _ rfl (.const (.int .i64 0)) (.tmp 7) 40 rfl w.heap.size 5 i0 (.int .u8 0) 1 Tryz.underlying40 hi0 hz0 hz1 _ _ _ s.size rfl rfl rfl (by rw [hz2]; omega) hs (Nat.le_refl _) ?_)
  intro w1 hown1 hgr1
  have hbel1 : Below w.heap.size w w1 := (Below.refl _ _).grown hgr1 (Nat.le_refl _) (by simp)
  have hlt1 : w.heap.size < w1.heap.size := (hown1.lt w.heap.size rfl).2
  go_wp2_with fail
  go_loopw [3, 4] (fun v i wr => ∃ k : Nat, k ≤ s.size ∧ i = .int .i64 k ∧ v = .slice (some ⟨w.heap.size, 0, none⟩) k s.size ∧ wr.ownsRow w.heap.size 5 1 (.slice (some ⟨w.heap.size, 0, none⟩) k s.size) k (cellsOf (lowPre s.data.toList k)) ∧ Below w.heap.size w wr ∧ w.heap.size < wr.heap.size) (fun _ i _ => s.size - (intOf i).toNat)
  case atStart => exact ⟨0, Nat.zero_le _, rfl, rfl, hown1, hbel1, hlt1⟩
  case round =>
    obtain ⟨k, hk, rfl, rfl, hown, hbel, hsz⟩ := hrel
    clear hown1 hgr1 hbel1 hlt1
    by_cases hlt : k < s.size
    · have hkl : k < s.data.toList.length := by rw [len_data]; exact hlt
      have htk : cellsOf (lowPre s.data.toList (k + 1)) = cellsOf (lowPre s.data.toList k) ++ [.int .u8 ((low s[k]).toNat : Int)] := by
        rw [lowPre_succ _ _ hkl, gl, cellsOf_append]; rfl
      have HT := Lib.hid htk
      clear htk
      by_cases hup : 65 ≤ s[k].toNat ∧ s[k].toNat ≤ 90
      · have HU := Lib.hid (low_up _ hup)
        obtain ⟨hu1, hu2⟩ := hup
        go_wp2_with (at_builtin; refine wpList_push_fits rfl (.tmp 26) (.tmp 28) 40 rfl w.heap.size 5 (.int .u8 0) 1 1 info_u8r Tryz.underlying40 w.heap.size k s.size _ rfl hown [.int .u8 ((s[k].toNat : Int) + 32)] rfl rfl (one1 rfl) (by omega) ?_)
        intro w2 hown2 hgr2
        have HO := Lib.hid hown2
        have HB := Lib.hid (hbel.grown hgr2 (Nat.le_of_lt hsz) (by intro g hg; cases hg; exact Nat.le_refl _))
        have hsz2 := Nat.lt_of_lt_of_le hsz hgr2.size
        clear hown2 hgr2 hown hbel
        go_wp2_with fail
        go_roundw
        case rel => exact ⟨k + 1, by omega, by go_num, rfl, by rw [HT.out, HU.out]; exact HO.out, HB.out, hsz2⟩
        case measure => simp [intOf]; omega
      · have HU := Lib.hid (low_id _ hup)
        rcases (show s[k].toNat < 65 ∨ (65 ≤ s[k].toNat ∧ 90 < s[k].toNat) from by omega) with hu | ⟨hu1, hu2⟩
        all_goals
          go_wp2_with (at_builtin; refine wpList_push_fits rfl (.tmp 26) (.tmp 28) 40 rfl w.heap.size 5 (.int .u8 0) 1 1 info_u8r Tryz.underlying40 w.heap.size k s.size _ rfl hown [.int .u8 (s[k].toNat : Int)] rfl rfl (one1 rfl) (by omega) ?_)
          intro w2 hown2 hgr2
          have HO := Lib.hid hown2
          have HB := Lib.hid (hbel.grown hgr2 (Nat.le_of_lt hsz) (by intro g hg; cases hg; exact Nat.le_refl _))
          have hsz2 := Nat.lt_of_lt_of_le hsz hgr2.size
          clear hown2 hgr2 hown hbel
          go_wp2_with fail
          go_roundw
          case rel => exact ⟨k + 1, by omega, by go_num, rfl, by rw [HT.out, HU.out]; exact HO.out, HB.out, hsz2⟩
          case measure => simp [intOf]; omega
    · have hke : lowPre s.data.toList k = s.data.toList.map low := by rw [lowPre, List.take_of_length_le (by rw [len_data]; omega)]
      have hlk : k = (s.data.toList.map low).length := by rw [List.length_map, len_data]; omega
      rw [hke] at hown
      have hback := run_string_of (P := Tryz.prog) (bytesAt_of_own hown) 40 9 5 k s.size hlk Tryz.underlying40 Tryz.underlying5 Tryz.underlying9
      have HB := Lib.hid hbel
      clear hke hlk hown hbel
      go_wp2_with fail
      go_ret
      exact ⟨rfl, HB.out⟩
set_option maxHeartbeats 1000000 in
theorem r11_word (s : ByteArray) (w : World) (hs : s.size ≤ maxLen) :
    Calls Tryz.prog 22 #[.string s] w fun e w' => e = .returned (.tuple #[.string (wordOut s.data.toList), .bool (word s.data.toList)]) ∧ Below w.heap.size w w' := by
  have hs' := hs
  unfold maxLen at hs'
  by_cases h12 : 20 < s.size
  · have hw : word s.data.toList = false := word_long (by rw [len_data]; omega)
    have hw2 : wordOut s.data.toList = ⟨#[]⟩ := by simp [wordOut, hw]
    rw [hw, hw2]
    clear hw hw2
    go_enter Tryz.func22, Tryz.ntmps22
    go_wp2_with fail
    go_ret2
    exact ⟨rfl, Below.refl _ _⟩
  · have hwo : wordOut s.data.toList = (if isKw (s.data.toList.map low) then ⟨(s.data.toList.map low).toArray⟩ else ⟨#[]⟩) := rfl
    have hw : word s.data.toList = isKw (s.data.toList.map low) := rfl
    go_enter Tryz.func22, Tryz.ntmps22
    have HO := Lib.hid hwo
    have HW := Lib.hid hw
    clear hwo hw
    go_wp2_with fail
    refine (r11_small s _ hs (by omega)).mono ?_
    rintro e w1 ⟨rfl, hb⟩
    generalize s.data.toList.map low = L at HO HW ⊢
    have HB := Lib.hid hb
    clear hb
    cases hk : isKw L
    · have hne : ∀ k, k ∈ kws → (L == k) = false := by
        intro k hkm
        cases hb : L == k
        · rfl
        · have : L = k := by simpa using hb
          subst this
          simp [isKw] at hk
          exact absurd hkm hk
      simp only [kws, List.mem_cons, List.not_mem_nil, or_false, forall_eq_or_imp, forall_eq] at hne
      obtain ⟨h1, h2, h3, h4, h5, h6, h7, h8, h9, h10, h11, h12, h13, h14, h15, h16, h17, h18, h19, h20, h21, h22, h23⟩ := hne
      have HK := Lib.hid hk
      clear hk
      go_wp2_with fail
      go_ret2
      exact ⟨ret_sb (by rw [HO.out, HK.out]; rfl) (by rw [HW.out, HK.out]), HB.out⟩
    · have hm : L ∈ kws := by simpa [isKw] using hk
      simp only [kws, List.mem_cons, List.not_mem_nil, or_false] at hm
      have HK := Lib.hid hk
      clear hk
      rcases hm with rfl | rfl | rfl | rfl | rfl | rfl | rfl | rfl | rfl | rfl | rfl | rfl | rfl | rfl | rfl | rfl | rfl | rfl | rfl | rfl | rfl | rfl | rfl
      all_goals
        go_wp2_with fail
        go_ret2
        exact ⟨ret_sb (by rw [HO.out, HK.out]; rfl) (by rw [HW.out, HK.out]), HB.out⟩
end Go.Proofs.YtpkeonafcldkhaaGreatDoor
/- weirref11: Join; lex.Join, of any slice of tokens. -/
set_option linter.unusedVariables false
set_option linter.unusedSimpArgs false
namespace Go.Proofs.YtpkeonafcldkhaaGreatDoor
open Go.RowKit

/-- A slice of tokens that can be read. -/
def TokSl (w : World) (v : Value) (xs : List (Int × ByteArray × Int)) : Prop :=
  (v = .slice none 0 0 ∧ xs = []) ∨ ∃ g o c, v = .slice (some ⟨g, o, none⟩) xs.length c ∧ TokRow w g o xs
theorem TokRow.below {w w' : World} {g o : Nat} {xs : List (Int × ByteArray × Int)} (h : TokRow w g o xs) (hb : Below w.heap.size w w') : TokRow w' g o xs :=
  ⟨Nat.lt_of_lt_of_le h.1 hb.size, fun j hj => ⟨(hb.cell (p := ⟨g, _, none⟩) h.1).trans (h.2 j hj).1, (hb.cell (p := ⟨g, _, none⟩) h.1).trans (h.2 j hj).2.1, (hb.cell (p := ⟨g, _, none⟩) h.1).trans (h.2 j hj).2.2⟩⟩
theorem TokSl.below {w w' : World} {v : Value} {xs : List (Int × ByteArray × Int)} (h : TokSl w v xs) (hb : Below w.heap.size w w') : TokSl w' v xs := by
  rcases h with h | ⟨g, o, c, h1, h2⟩
  · exact .inl h
  · exact .inr ⟨g, o, c, h1, h2.below hb⟩
set_option maxRecDepth 100000 in
set_option maxHeartbeats 1000000 in
theorem lex_Join_nil (w : World) : Calls Tryz.prog 16 #[.slice none 0 0] w fun e w' => e = .returned (.string ⟨#[]⟩) ∧ Below w.heap.size w w' := by
  go_enter Tryz.func16, Tryz.ntmps16
  go_wp2_with fail
  go_loopw [8] (fun t8 wr => t8 = .int .i64 0 ∧ Hid (Lib.IsBuilder 68 5 w.heap.size w.heap.size (Lib.byteCells []) wr ∧ Below w.heap.size w wr)) (fun t8 wr => 0)
  case atStart =>
    refine ⟨rfl, Lib.hid ⟨?_, ?_⟩⟩
    · exact .inl ⟨Nat.le_refl _, _, Blk.new w _ _, World.ownsRow_nil _ _ _ _, by simp [Value.ownBlock]⟩
    · exact (Below.refl _ _).alloc (Nat.le_refl _) _
  case round =>
    obtain ⟨rfl, hB⟩ := hrel
    go_wp2_with fail
    refine (Tryz.Builder_String_any w.heap.size w.heap.size [] _ hB.out.1 hB.out.2.size).mono ?_
    rintro e w2 ⟨rfl, hb2⟩
    go_wp2_with fail
    go_ret
    exact ⟨rfl, hB.out.2.trans hb2⟩
theorem lex_Join_any (w : World) (v : Value) (xs : List (Int × ByteArray × Int)) (hx : TokSl w v xs) (hn : xs.length ≤ 1099511627776) (hlen : (joinL (textsOf xs)).length ≤ 140737488355328) :
    Calls Tryz.prog 16 #[v] w fun e w' => e = .returned (.string ⟨(joinL (textsOf xs)).toArray⟩) ∧ Below w.heap.size w w' := by
  rcases hx with ⟨rfl, rfl⟩ | ⟨g, o, c, rfl, hr⟩
  · exact lex_Join_nil w
  · exact lex_Join w g o c xs hr hn hlen
set_option maxRecDepth 100000 in
set_option maxHeartbeats 1000000 in
theorem r11_Join_nil (w : World) : Calls Tryz.prog 26 #[.slice none 0 0] w fun e w' => e = .returned (.string ⟨#[]⟩) ∧ Below w.heap.size w w' := by
  go_enter Tryz.func26, Tryz.ntmps26
  go_wp2_with fail
  go_loopw [3, 4] (fun t3 t4 wr => t3 = .slice none 0 0 ∧ t4 = .int .i64 0 ∧ wr = w) (fun _ _ _ => 0)
  case atStart => exact ⟨rfl, rfl, rfl⟩
  case round =>
    obtain ⟨rfl, rfl, rfl⟩ := hrel
    have hback := run_string_own (P := Tryz.prog) (l := []) (World.ownsRow_nil wr wr.heap.size 5 1) 40 9 Tryz.underlying40 Tryz.underlying5 Tryz.underlying9
    go_wp2_with fail
    go_ret
    exact ⟨rfl, Below.refl _ _⟩
set_option maxRecDepth 100000 in
set_option maxHeartbeats 1000000 in
theorem r11_Join (w : World) (g o c : Nat) (xs : List (Int × ByteArray × Int)) (hx : TokRow w g o xs) (hn : xs.length ≤ 1099511627776) (hlen : (joinL (textsOf xs)).length ≤ 140737488355328) :
    Calls Tryz.prog 26 #[.slice (some ⟨g, o, none⟩) xs.length c] w fun e w' => e = .returned (.string ⟨(joinL (textsOf xs)).toArray⟩) ∧ Below w.heap.size w w' := by
  obtain ⟨i0, hi0, hz0, hz1, hz2⟩ := info_parts info_u8
  go_enter Tryz.func26, Tryz.ntmps26
  go_wp2_with fail
  go_loopw [3, 4] (fun t3 t4 wr => ∃ k : Nat, Hid (k ≤ xs.length) ∧ t4 = .int .i64 (k : Int) ∧ Hid (wr.ownsRow w.heap.size 5 1 t3 (joinL ((textsOf xs).take k)).length (cellsOf (joinL ((textsOf xs).take k))) ∧ Below w.heap.size w wr)) (fun _ t4 _ => xs.length - (intOf t4).toNat)
  case atStart =>
    exact ⟨0, Lib.hid (Nat.zero_le _), rfl, Lib.hid ⟨World.ownsRow_nil _ _ _ _, Below.refl _ _⟩⟩
  case round =>
    obtain ⟨k, hk, rfl, hB⟩ := hrel
    by_cases hi : k < xs.length
    · have p1 : ((k : Int) < (xs.length : Int)) = True := by simp; omega
      obtain ⟨x1, x2, x3⟩ := hx.2 k hi
      have hb := hB.out.2
      have y2 := (hb.cell (p := ⟨g, o + k * 3 + 1, none⟩) hx.1).trans x2
      clear x1 x2 x3 hb
      obtain ⟨hO, hBl⟩ := hB.out
      have hlen1 : (joinL ((textsOf xs).take (k + 1))).length ≤ 140737488355328 := Nat.le_trans (joinL_take _ _) hlen
      have hkt : k < (textsOf xs).length := by simp [textsOf]; exact hi
      have hsn : joinL ((textsOf xs).take (k + 1)) = if (textsOf xs).take k = [] then xs[k].2.1.data.toList else joinL ((textsOf xs).take k) ++ 32 :: xs[k].2.1.data.toList := by
        rw [List.take_succ_eq_append_getElem hkt, joinL_snoc]
        simp [textsOf]
      have HO := Lib.hid hO
      have HBl := Lib.hid hBl
      have HL1 := Lib.hid hlen1
      have HSN := Lib.hid hsn
      clear hO hBl hlen1 hsn hkt hB
      obtain ⟨J, hJ⟩ : ∃ J, J = joinL ((textsOf xs).take k) := ⟨_, rfl⟩
      rw [← hJ] at HO
      have HJ := Lib.hid hJ
      clear hJ
      by_cases k0 : 0 < k
      · have q0 : ((0 : Int) < (k : Int)) = True := by simp; omega
        have hne : ¬ (textsOf xs).take k = [] := by
          intro h
          have hl0 : ((textsOf xs).take k).length = k := by simp [textsOf]; omega
          rw [h] at hl0
          simp at hl0
          omega
        have hsn2 := HSN.out
        rw [if_neg hne, ← HJ.out] at hsn2
        have hl2 := HL1.out
        rw [hsn2, List.length_append, List.length_cons, len_data] at hl2
        have HS2 := Lib.hid hsn2
        have HL2 := Lib.hid hl2
        clear hne hsn2 hl2
        go_wp2_with (at_builtin; refine wpList_push rfl (.tmp 13) (.tmp 14) 40 rfl w.heap.size 5 (.int .u8 0) 1 1 info_u8 Tryz.underlying40 rfl (by omega) _ _ _ rfl HO.out [.int .u8 32] rfl rfl (one1 rfl) (by have := HL2.out; unfold maxLen; omega) (by have := HL2.out; omega) HBl.out.size ?_)
        intro v2 w2 hown2 hgr2
        have HB2 := Lib.hid (HBl.out.grown hgr2 HBl.out.size (fun g hg => (HO.out.lt g hg).1))
        have HO2 := Lib.hid hown2
        clear hown2 hgr2
        have y3 : w2.cell? ⟨g, o + k * 3 + 1, none⟩ = some (.string xs[k].2.1) := (HB2.out.cell (p := ⟨g, o + k * 3 + 1, none⟩) hx.1).trans (hx.2 k hi).2.1
        obtain ⟨ao, n', cap, rfl⟩ : ∃ ao n' cap, v2 = .slice ao n' cap := by
          rcases HO2.out.2 with ⟨hv, _⟩ | ⟨g, cap, cur, hv, _⟩
          · exact ⟨_, _, _, hv⟩
          · exact ⟨_, _, _, hv⟩
        go_wp2_with (at_builtin; refine Lib.wpList_append_own_string _ rfl _ _ 40 9 rfl w.heap.size 5 i0 Tryz.underlying40 Tryz.underlying9 hi0 hz0 hz1 hz2 _ _ _ rfl HO2.out xs[k].2.1 rfl (by have := HL2.out; unfold maxLen; omega) (by have := HL2.out; omega) HB2.out.size ?_)
        intro v3 w3 hown3 hgr3 _
        have HB3 := Lib.hid (HB2.out.grown hgr3 HB2.out.size (fun g hg => (HO2.out.lt g hg).1))
        have HO3 := Lib.hid hown3
        clear hown3 hgr3
        go_wp2_with fail
        go_roundw
        case rel =>
          refine ⟨k + 1, Lib.hid hi, (by first | rfl | (simp; done) | (apply vi'; simp only [wrap64]; omega)), Lib.hid ⟨?_, HB3.out⟩⟩
          rw [HS2.out]
          have e : cellsOf J ++ .int .u8 32 :: Lib.strCells xs[k].2.1 = cellsOf (J ++ 32 :: xs[k].2.1.data.toList) := by simp [cellsOf, Lib.strCells]
          have e2 : J.length + 1 + xs[k].2.1.size = (J ++ 32 :: xs[k].2.1.data.toList).length := by rw [List.length_append, List.length_cons, len_data]; omega
          rw [← e, ← e2]
          exact HO3.out
        case measure => simp [intOf]; omega
      · have q0 : ((0 : Int) < (k : Int)) = False := by simp; omega
        have hk0 : k = 0 := by omega
        have hsn2 := HSN.out
        rw [if_pos (by rw [hk0]; rfl)] at hsn2
        have hl2 := HL1.out
        rw [hsn2, len_data] at hl2
        have hj0 : J = [] := by rw [HJ.out, hk0]; rfl
        have HS2 := Lib.hid hsn2
        have HL2 := Lib.hid hl2
        have HJ0 := Lib.hid hj0
        clear hsn2 hl2 hj0
        have hjl : J.length = 0 := by rw [HJ0.out]; rfl
        obtain ⟨ao, n', cap, rfl⟩ : ∃ ao n' cap, u3 = .slice ao n' cap := by
          rcases HO.out.2 with ⟨hv, _⟩ | ⟨g, cap, cur, hv, _⟩
          · exact ⟨_, _, _, hv⟩
          · exact ⟨_, _, _, hv⟩
        have c4 : J.length + xs[k].2.1.size ≤ 140737488355328 := by have := HL2.out; omega
        have c3 : J.length + xs[k].2.1.size ≤ maxLen := by unfold maxLen; omega
        have C3 := Lib.hid c3
        have C4 := Lib.hid c4
        have HK0 := Lib.hid hk0
        clear c3 c4 hjl hk0
        go_wp2_with (at_builtin; refine Lib.wpList_append_own_string _ rfl _ _ 40 9 rfl w.heap.size 5 i0 Tryz.underlying40 Tryz.underlying9 hi0 hz0 hz1 hz2 _ _ _ rfl HO.out xs[k].2.1 rfl C3.out C4.out HBl.out.size ?_)
        intro v3 w3 hown3 hgr3 _
        have HB3 := Lib.hid (HBl.out.grown hgr3 HBl.out.size (fun g hg => (HO.out.lt g hg).1))
        have HO3 := Lib.hid hown3
        clear hown3 hgr3
        go_wp2_with fail
        go_roundw
        case rel =>
          refine ⟨k + 1, Lib.hid hi, (by first | rfl | (simp; done) | (apply vi'; simp only [wrap64]; omega)), Lib.hid ⟨?_, HB3.out⟩⟩
          rw [HS2.out]
          have e : cellsOf J ++ Lib.strCells xs[k].2.1 = cellsOf (xs[k].2.1.data.toList) := by rw [HJ0.out]; simp [cellsOf, Lib.strCells]
          have e2 : J.length + xs[k].2.1.size = (xs[k].2.1.data.toList).length := by rw [len_data, HJ0.out, List.length_nil]; omega
          rw [← e, ← e2]
          exact HO3.out
        case measure => simp [intOf]; omega
    · have hke : k = xs.length := by have := hk.out; omega
      obtain ⟨hO, hBl⟩ := hB.out
      rw [hke, show (textsOf xs).take xs.length = textsOf xs from List.take_of_length_le (by simp [textsOf])] at hO
      have hback := run_string_own (P := Tryz.prog) hO 40 9 Tryz.underlying40 Tryz.underlying5 Tryz.underlying9
      have HBl := Lib.hid hBl
      clear hO hBl hB
      subst hke
      go_wp2_with fail
      go_ret
      exact ⟨rfl, HBl.out⟩
theorem r11_Join_any (w : World) (v : Value) (xs : List (Int × ByteArray × Int)) (hx : TokSl w v xs) (hn : xs.length ≤ 1099511627776) (hlen : (joinL (textsOf xs)).length ≤ 140737488355328) :
    Calls Tryz.prog 26 #[v] w fun e w' => e = .returned (.string ⟨(joinL (textsOf xs)).toArray⟩) ∧ Below w.heap.size w w' := by
  rcases hx with ⟨rfl, rfl⟩ | ⟨g, o, c, rfl, hr⟩
  · exact r11_Join_nil w
  · exact r11_Join w g o c xs hr hn hlen
end Go.Proofs.YtpkeonafcldkhaaGreatDoor
