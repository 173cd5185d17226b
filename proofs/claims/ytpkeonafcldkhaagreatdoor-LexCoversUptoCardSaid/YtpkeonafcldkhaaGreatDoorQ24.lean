import Derived.Test.YtpkeonafcldkhaaGreatDoorQ23
/- Part of the proof of YtpkeonafcldkhaaGreatDoorCardS CardV: LawW RbF CvA. -/
set_option linter.unusedVariables false
set_option linter.unusedSimpArgs false
namespace Go.Proofs.YtpkeonafcldkhaaGreatDoor
open Go.RowKit
def StrSl (w : World) (v : Value) (ss : List ByteArray) : Prop :=
 ∃ ao c, v = .slice ao ss.length c ∧ ∀ j (h : j < ss.length), ∃ g o, ao = some ⟨g, o, none⟩ ∧ g < w.heap.size ∧ w.cell? ⟨g, o + j, none⟩ = some (.string ss[j])
def TokSl2 (w : World) (v : Value) (xs : List (Int × ByteArray × Int)) : Prop :=
 (∃ ao c, v = .slice ao 0 c ∧ xs = []) ∨ ∃ g o c, v = .slice (some ⟨g, o, none⟩) xs.length c ∧ TokRow w g o xs
theorem TokSl2.below {w w' : World} {v : Value} {xs : List (Int × ByteArray × Int)} (h : TokSl2 w v xs) (hb : Below w.heap.size w w') : TokSl2 w' v xs := by
 rcases h with h | ⟨g, o, c, h1, h2⟩
 ·exact .inl h
 ·exact .inr ⟨g, o, c, h1, h2.below hb⟩
theorem ten_lt (n : Nat) : 10 ^ n < 4294967296 ^ (n + 1) := by
 have h1 : (10 : Nat) ^ n ≤ 4294967296 ^ n := Nat.pow_le_pow_left (by decide) n
 have h2 : (4294967296 : Nat) ^ n < 4294967296 ^ (n + 1) := Nat.pow_lt_pow_right (by decide) (Nat.lt_succ_self n)
 omega
structure PowI (w wr : World) (v : Value) (n m : Nat) (es : List Nat) : Prop where
 own : BigO wr w.heap.size v es
 ok : BigOk es
 norm : Norm es
 val : bigV es * 10 ^ m = 10 ^ n
 le : m ≤ n
 below : Below w.heap.size w wr
theorem PowI.len {w wr : World} {v : Value} {n m : Nat} {es : List Nat} (h : PowI w wr v n m es) : es.length ≤ n + 1 := by
 apply norm_len h.norm
 have h1 := ten_lt n
 have h2 := h.val
 have h3 : bigV es * 1 ≤ bigV es * 10 ^ m := Nat.mul_le_mul_left _ (Nat.pow_pos (by decide))
 omega
set_option maxRecDepth 100000 in
set_option maxHeartbeats 2000000 in
theorem r02_power (w : World) (n : Nat) (hn : n ≤ 1099511627) :
  Calls Tryz.prog 62 #[.int .u32 10, .int .i64 (n : Int)] w (BigPost w (10 ^ n)) := by
 have ho1 : BigO (w.alloc (.cells #[.int .u32 1] 92)) w.heap.size (.slice (some ⟨w.heap.size, 0, none⟩) 1 1) [1] := World.ownsRow_lit (e := 92) (size := 1) w #[.int .u32 1] 1 (Nat.le_refl _) (by unfold maxLen; omega) rfl
 have HI0 := Lib.hid (show PowI w (w.alloc (.cells #[.int .u32 1] 92)) (.slice (some ⟨w.heap.size, 0, none⟩) 1 1) n n [1] from
  ⟨ho1, fun d hd => by simp at hd; omega, fun _ => by simp, by show (1 + 4294967296 * 0) * _ = _; rw [Nat.mul_zero, Nat.add_zero, Nat.one_mul], Nat.le_refl _, (Below.refl _ _).alloc (Nat.le_refl _) _⟩)
 clear ho1
 go_enter Tryz.func62, Tryz.ntmps62
 go_wp2_with fail
 go_loopw [1, 5] (fun t1 t5 wr => ∃ (m : Nat) (es : List Nat), Hid (PowI w wr t5 n m es) ∧ t1 = .int .i64 (m : Int)) (fun t1 _ _ => (intOf t1).toNat)
 case atStart => exact ⟨n, [1], HI0, rfl⟩
 case round =>
  obtain ⟨m, es, HI, rfl⟩ := hrel
  obtain ⟨rv, rc, hrv⟩ := own_form2 HI.out.own
  subst hrv
  have hmn := HI.out.le
  by_cases hm : 0 < m
  ·have p1 : ((0 : Int) < (m : Int)) = True := eq_true (by omega)
   have HM := Lib.hid hm
   go_wp2_with fail
   go_loopw [1, 6, 7] (fun t1 t6 t7 wx => ∃ (j m' k : Nat), Hid (j ≤ 9 ∧ m' + j = m ∧ k = 10 ^ j ∧ wx = wr) ∧ t1 = .int .i64 (m' : Int) ∧ t6 = .int .u32 (k : Int) ∧ t7 = .int .i64 (j : Int)) (fun _ _ t7 _ => 9 - (intOf t7).toNat)
   case atStart => exact ⟨0, m, 1, Lib.hid ⟨by omega, rfl, rfl, rfl⟩, rfl, rfl, rfl⟩
   case round =>
    obtain ⟨j, m', k, hJ, rfl, rfl, rfl⟩ := hrel
    have hw := hJ.out.2.2.2
    subst hw
    by_cases hj : j < 9
    ·have p2 : ((j : Int) < 9) = True := eq_true (by omega)
     by_cases hm' : 0 < m'
     ·have p3 : ((0 : Int) < (m' : Int)) = True := eq_true (by omega)
      have hk9 : k ≤ 100000000 := by
       have : k = 10 ^ j := hJ.out.2.2.1
       have h2 : (10 : Nat) ^ j ≤ 10 ^ 8 := Nat.pow_le_pow_right (by decide) (by omega)
       have h3 : (10 : Nat) ^ 8 = 100000000 := by decide
       omega
      have q1 : IntKind.u32.wrap ((k : Int) * 10) = ((k * 10 : Nat) : Int) := by rw [IntKind.wrap_u32]; omega
      have bm : m' ≤ 1099511627 := by have := hJ.out.2.1; omega
      go_wp2_with fail
      refine ⟨⟨j + 1, m' - 1, k * 10, Lib.hid ⟨by omega, by have := hJ.out.2.1; omega, by rw [hJ.out.2.2.1, Nat.pow_succ], trivial⟩, ?_, ?_, rfl⟩, meas_j hj⟩
      ·apply vi'; omega
      ·apply vi'; omega
     ·have p3 : ((0 : Int) < (m' : Int)) = False := eq_false (by omega)
      go_wp2_with fail
      have ht : Calls Tryz.prog 81 #[.slice rv es.length rc, .int .u32 (k : Int), .int .u32 0] wr (BigPost wr (bigV es * k + 0)) := r02_times wr _ es k 0 HI.out.own.r HI.out.ok (by have := HI.out.len; omega) (by
       have h1 : k = 10 ^ j := hJ.out.2.2.1
       have h2 : (10 : Nat) ^ j ≤ 10 ^ 9 := Nat.pow_le_pow_right (by decide) hJ.out.1
       have h3 : (10 : Nat) ^ 9 = 1000000000 := by decide
       omega) (by decide)
      refine ht.mono ?_
      rintro e w2 ⟨⟨v2, fs, rfl, f1, f2, f3, f4⟩, hb⟩
      have hnew : PowI w w2 v2 n m' fs := by
       refine ⟨own_mono f1 HI.out.below.size, f4, f3, ?_, by have := hJ.out.2.1; omega, HI.out.below.trans (hb.mono HI.out.below.size)⟩
       have h1 : k = 10 ^ j := hJ.out.2.2.1
       have h2 := HI.out.val
       have h3 : m = j + m' := by have := hJ.out.2.1; omega
       rw [h3, Nat.pow_add] at h2
       rw [f2, Nat.add_zero, h1, Nat.mul_assoc]
       exact h2
      have HNEW := Lib.hid hnew
      have hlt : m' < m := by have := hJ.out.2.1; have := HM.out; omega
      clear f1 f2 f3 f4 hb hnew ht
      go_wp2_with fail
      exact ⟨⟨m', fs, HNEW, rfl⟩, by simp only [intOf]; omega⟩
    ·have p2 : ((j : Int) < 9) = False := eq_false (by omega)
     go_wp2_with fail
     have ht : Calls Tryz.prog 81 #[.slice rv es.length rc, .int .u32 (k : Int), .int .u32 0] wr (BigPost wr (bigV es * k + 0)) := r02_times wr _ es k 0 HI.out.own.r HI.out.ok (by have := HI.out.len; omega) (by
      have h1 : k = 10 ^ j := hJ.out.2.2.1
      have h2 : (10 : Nat) ^ j ≤ 10 ^ 9 := Nat.pow_le_pow_right (by decide) hJ.out.1
      have h3 : (10 : Nat) ^ 9 = 1000000000 := by decide
      omega) (by decide)
     refine ht.mono ?_
     rintro e w2 ⟨⟨v2, fs, rfl, f1, f2, f3, f4⟩, hb⟩
     have hnew : PowI w w2 v2 n m' fs := by
      refine ⟨own_mono f1 HI.out.below.size, f4, f3, ?_, by have := hJ.out.2.1; omega, HI.out.below.trans (hb.mono HI.out.below.size)⟩
      have h1 : k = 10 ^ j := hJ.out.2.2.1
      have h2 := HI.out.val
      have h3 : m = j + m' := by have := hJ.out.2.1; omega
      rw [h3, Nat.pow_add] at h2
      rw [f2, Nat.add_zero, h1, Nat.mul_assoc]
      exact h2
     have HNEW := Lib.hid hnew
     have hlt : m' < m := by have := hJ.out.2.1; have := HM.out; omega
     clear f1 f2 f3 f4 hb hnew ht
     go_wp2_with fail
     exact ⟨⟨m', fs, HNEW, rfl⟩, by simp only [intOf]; omega⟩
  ·have p1 : ((0 : Int) < (m : Int)) = False := eq_false (by omega)
   have hm0 : m = 0 := by omega
   have hv := HI.out.val
   rw [hm0, Nat.pow_zero, Nat.mul_one] at hv
   have HV := Lib.hid hv
   clear hv
   go_wp2_with fail
   go_ret
   exact ⟨⟨_, es, rfl, HI.out.own, HV.out, HI.out.norm, HI.out.ok⟩, HI.out.below⟩
theorem take_spanEnd0 (p : UInt8 → Bool) (l : List UInt8) : l.take (spanEnd p l 0) = l.takeWhile p := by
 rw [spanEnd, List.drop_zero, Nat.zero_add]
 exact (List.prefix_iff_eq_take.1 (List.takeWhile_prefix p)).symm
theorem take_cons' {l : List UInt8} (h : l ≠ []) (n : Nat) : l.take (n + 1) = atB l 0 :: (l.drop 1).take n := by
 cases l with
 |nil => exact absurd rfl h
 |cons c r => rfl
theorem spanEnd_stops {p : UInt8 → Bool} : ∀ {l : List UInt8} (h : spanEnd p l 0 < l.length), p l[spanEnd p l 0] = false
 | [], h => by simp at h
 |c :: r, h => by
  cases hp : p c
  ·have h0 : spanEnd p (c :: r) 0 = 0 := by simp [spanEnd, List.takeWhile_cons, hp]
   simp only [h0, List.getElem_cons_zero, hp]
  ·have h1 : spanEnd p (c :: r) 0 = spanEnd p r 0 + 1 := by simp [spanEnd, List.takeWhile_cons, hp]
   have h2 : spanEnd p r 0 < r.length := by rw [h1] at h; simpa using h
   simp only [h1, List.getElem_cons_succ]
   exact spanEnd_stops h2
def idleGo : Bool → List UInt8 → Option Bool
 |r, [] => some r
 |r, c :: l => if c.toNat = 10 then idleGo false l else if r = false ∧ c.toNat = 35 then idleGo true l else if r = false ∧ isBl c = false then none else idleGo r l
def idleB (l : List UInt8) (last : Bool) : Bool := match idleGo false l with | none => false | some r => last || !r
theorem idleGo_app : ∀ (x y : List UInt8) (r : Bool), idleGo r (x ++ y) = (idleGo r x).bind fun b => idleGo b y
 | [], _, _ => rfl
 |c :: x, y, r => by
  rw [List.cons_append, idleGo, idleGo]
  split
  ·exact idleGo_app x y false
  ·split
   ·exact idleGo_app x y true
   ·split
    ·rfl
    ·exact idleGo_app x y r
theorem idleGo_bl {c : UInt8} (h : isBl c = true) : idleGo false [c] = some false := by
 have h35 : c.toNat ≠ 35 := by intro e; rw [bl35 e] at h; cases h
 rw [idleGo, idleGo]
 split
 ·rfl
 ·rw [if_neg (by simp [h35]), if_neg (by simp [h])]
theorem idleGo_in : ∀ (x : List UInt8), x.all notNl = true → idleGo true x = some true
 | [], _ => rfl
 |c :: x, h => by
  simp only [List.all_cons, Bool.and_eq_true] at h
  have hc : c.toNat ≠ 10 := by have := h.1; simpa [notNl] using this
  rw [idleGo, if_neg hc, if_neg (by simp), if_neg (by simp)]
  exact idleGo_in x h.2
theorem idleGo_remark {l : List UInt8} (h : l ≠ []) (hc : (atB l 0).toNat = 35) : idleGo false (l.take (remark l)) = some false ∨ (idleGo false l = some true ∧ remark l = l.length) := by
 have hn0 : notNl (atB l 0) = true := by simp [notNl, hc]
 have h1 := spanEnd_first (p := notNl) h hn0
 have h2 := spanEnd_le notNl l 0 (Nat.zero_le _)
 have hr : remark l = min (spanEnd notNl l 0 + 1) l.length := rfl
 have htw : l.take (spanEnd notNl l 0) = l.takeWhile notNl := by
  have := take_spanEnd0 notNl l
  exact this
 have hall : (l.takeWhile notNl).all notNl = true := List.all_takeWhile
 have hcons : l = atB l 0 :: l.drop 1 := atB_cons h
 by_cases hk : spanEnd notNl l 0 < l.length
 ·left
  rw [hr, Nat.min_eq_left (by omega), List.take_succ_eq_append_getElem hk, idleGo_app, htw]
  have hx : l.takeWhile notNl = atB l 0 :: (l.drop 1).takeWhile notNl := by
   conv => lhs; rw [hcons]
   rw [List.takeWhile_cons, if_pos hn0]
  have hnl : (l[spanEnd notNl l 0]).toNat = 10 := by
   rcases Nat.lt_or_ge (spanEnd notNl l (spanEnd notNl l 0)) (spanEnd notNl l 0) with hh | hh
   ·exact absurd (spanEnd_ge notNl l (spanEnd notNl l 0)) (by omega)
   ·have hf : notNl l[spanEnd notNl l 0] = false := spanEnd_stops hk
    simpa [notNl] using hf
  rw [hx] at hall ⊢
  simp only [List.all_cons, Bool.and_eq_true] at hall
  rw [idleGo, if_neg (by omega), if_pos ⟨rfl, hc⟩, idleGo_in _ hall.2]
  simp [idleGo, hnl]
 ·right
  have he : spanEnd notNl l 0 = l.length := by omega
  rw [he, List.take_length] at htw
  refine ⟨?_, by omega⟩
  rw [← htw] at hall
  rw [hcons] at hall ⊢
  simp only [List.all_cons, Bool.and_eq_true] at hall
  rw [idleGo, if_neg (by omega), if_pos ⟨rfl, hc⟩, idleGo_in _ hall.2]
def soundB (k : Nat) (t : List UInt8) : Bool :=
 if k = 1 then isLabel t
 else if k = 2 then isMetric t && !isLabel t
 else if k = 3 then decide (numErr t = 0)
 else if k = 4 then decide ((spanParse t).2 = 0)
 else if k = 5 then decide ((unquote t).1 = 0)
 else decide (k = 6) && (decide (t.length = 1) || decide (t.length = 2))
theorem low_or : ∀ c : UInt8, ∀ d ∈ [(105 : UInt8), 110, 102, 97], low c = d → ((c.toNat ||| 32) == d.toNat) = true :=
 all_bytes (P := fun c => ∀ d ∈ [(105 : UInt8), 110, 102, 97], low c = d → ((c.toNat ||| 32) == d.toNat) = true) (by decide +kernel)
theorem infnan_err {t : List UInt8} (h : infnan t = true) : numErr t = 0 := by
  have key : ∀ a b c : UInt8, a ∈ [(105 : UInt8), 110, 102, 97] → b ∈ [(105 : UInt8), 110, 102, 97] → c ∈ [(105 : UInt8), 110, 102, 97] → (t.take 4).map low = [a, b, c] → isWord3 t a.toNat b.toNat c.toNat = true := by
    intro a b c ha hb hc he
    have hl := congrArg List.length he
    simp at hl
    have hl3 : t.length = 3 := by omega
    match t, hl3 with
    | [x, y, z], _ =>
      simp at he
      obtain ⟨e1, e2, e3⟩ := he
      simp only [isWord3, List.length_cons, List.length_nil, Bool.and_eq_true]
      exact ⟨⟨⟨rfl, low_or x a ha e1⟩, low_or y b hb e2⟩, low_or z c hc e3⟩
  have h3 : t.length ≤ 3 := by
    simp only [infnan, Bool.or_eq_true, beq_iff_eq] at h
    rcases h with h | h <;> (have hl := congrArg List.length h; simp at hl; omega)
  have hw : (isWord3 t 105 110 102 || isWord3 t 110 97 110) = true := by
    simp only [infnan, Bool.or_eq_true, beq_iff_eq] at h
    rcases h with h | h
    · rw [Bool.or_eq_true]; exact .inl (key 105 110 102 (by decide) (by decide) (by decide) h)
    · rw [Bool.or_eq_true]; exact .inr (key 110 97 110 (by decide) (by decide) (by decide) h)
  rw [numErr, if_neg (by omega), if_pos hw]
theorem nameCh_more {col : Bool} {c : UInt8} (h : nameCh col c = true) : nameCh true c = true := by
 cases col
 ·simp [nameCh] at h ⊢; rcases h with h | h <;> simp [h]
 ·exact h
theorem nameCh_less {col : Bool} {c : UInt8} (h : nameCh col c = true) (h2 : c ≠ 58) : nameCh false c = true := by
 have : c.toNat ≠ 58 := fun e => h2 ((u8_eq (n := 58) (by omega)).2 e)
 simp [nameCh, this] at h ⊢; exact h
theorem name_sound {col br : Bool} {c : UInt8} {r : List UInt8} (hc : letter c = true) (hr : (c :: r).all (nameCh col) = true) : soundB (nameTok br (c :: r)) (c :: r) = true := by
 have hd := letter_digit hc
 unfold nameTok
 split
 ·rename_i h58
  have hm : isMetric (c :: r) = true := by
   simp only [isMetric, hd, Bool.not_false, Bool.true_and]
   rw [List.all_eq_true] at hr ⊢
   exact fun x hx => nameCh_more (hr x hx)
  have hl : isLabel (c :: r) = false := by
   simp only [isLabel, hc, Bool.true_and]
   rw [Bool.eq_false_iff]
   intro hall
   rw [List.all_eq_true] at hall
   have := hall 58 (by simpa using h58)
   exact absurd this (by decide)
  rw [soundB, if_neg (by omega), if_pos rfl, hm, hl]; rfl
 ·rename_i h58
  split
  ·rename_i hi
   simp only [Bool.and_eq_true] at hi
   rw [soundB, if_neg (by omega), if_neg (by omega), if_pos rfl, infnan_err hi.2]; rfl
  ·rw [soundB, if_pos rfl]
   simp only [isLabel, hc, Bool.true_and]
   rw [List.all_eq_true] at hr ⊢
   refine fun x hx => nameCh_less (hr x hx) ?_
   rintro rfl
   exact h58 (by simpa using hx)
theorem tokenR_sound {l : List UInt8} {br sq b q : Bool} {k n : Nat} (h : l ≠ []) (ht : tokenR l br sq = .tok k n b q) : soundB k (l.take n) = true := by
 have hpos := tokenR_pos h ht
 have hcons : l = atB l 0 :: l.drop 1 := atB_cons h
 unfold tokenR at ht
 split at ht
 ·rename_i hl
  injection ht with h1 h2
  subst h1 h2
  rw [take_spanEnd0]
  have hall : (l.takeWhile (nameCh (!br && !sq))).all (nameCh (!br && !sq)) = true := List.all_takeWhile
  have hx : l.takeWhile (nameCh (!br && !sq)) = atB l 0 :: (l.drop 1).takeWhile (nameCh (!br && !sq)) := by
   conv => lhs; rw [hcons]
   rw [List.takeWhile_cons, if_pos (nameCh_letter hl)]
  rw [hx] at hall ⊢
  exact name_sound hl hall
 ·split at ht
  ·rename_i hl hc
   injection ht with h1 h2
   subst h1 h2
   have hx : l.take (spanEnd (nameCh true) l 1) = atB l 0 :: (l.drop 1).takeWhile (nameCh true) := by
    rw [spanEnd, Nat.add_comm, take_cons' h]
    congr 1
    exact (List.prefix_iff_eq_take.1 (List.takeWhile_prefix _)).symm
   rw [hx, soundB, if_neg (by omega), if_pos rfl]
   have hd : digit (atB l 0) = false := by simp [digit, hc.1]
   have hn : nameCh true (atB l 0) = true := by simp [nameCh, hc.1]
   simp only [isMetric, isLabel, hd, hl, List.all_cons, hn, Bool.not_false, Bool.true_and, Bool.false_and, Bool.and_true]
   simp
  ·split at ht
   ·unfold numberR at ht
    split at ht
    ·cases ht
    ·split at ht
     ·cases ht
     ·rename_i hb
      injection ht with h1 h2
      subst h1 h2
      have hb0 : numBad l = 0 := by omega
      unfold numBad at hb0
      unfold numKind
      split at hb0
      ·rename_i hlt
       rw [if_pos hlt, soundB, if_neg (by omega), if_neg (by omega), if_neg (by omega), if_pos rfl, hb0]; rfl
      ·rename_i hlt
       rw [if_neg hlt, soundB, if_neg (by omega), if_neg (by omega), if_pos rfl, hb0]; rfl
   ·split at ht
    ·unfold strR at ht
     split at ht
     ·cases ht
     ·split at ht
      ·rename_i hu
       injection ht with h1 h2
       subst h1 h2
       rw [soundB, if_neg (by omega), if_neg (by omega), if_neg (by omega), if_neg (by omega), if_pos rfl, hu]; rfl
      ·cases ht
    ·have hn : n = 1 ∨ n = 2 := by
      cases ho : op2 l
      ·exact .inl (opR_n ho ht)
      ·rw [opR_two ho] at ht; injection ht with _ h2; exact .inr h2.symm
     have hk : k = 6 := by
      unfold opR at ht
      repeat' split at ht
      all_goals first
       |(cases ht; done)
       |(injection ht with h1; exact h1.symm)
     subst hk
     have hlen : (l.take n).length = n := by rw [List.length_take]; omega
     rw [soundB, if_neg (by omega), if_neg (by omega), if_neg (by omega), if_neg (by omega), if_neg (by omega), hlen]
     rcases hn with rfl | rfl <;> rfl
def Covers (l : List UInt8) : Nat → List Tok → Prop
 |m, [] => idleB (l.drop m) true = true
 |m, t :: ts => m ≤ t.pos ∧ t.pos + t.text.length ≤ l.length ∧ t.text ≠ [] ∧ (l.drop t.pos).take t.text.length = t.text ∧ idleB ((l.drop m).take (t.pos - m)) false = true ∧ soundB t.kind t.text = true ∧ Covers l (t.pos + t.text.length) ts
theorem take_step {l : List UInt8} {m p n : Nat} (h : m ≤ p) : (l.drop m).take (p + n - m) = (l.drop m).take (p - m) ++ (l.drop p).take n := by
 rw [show p + n - m = (p - m) + n by omega, List.take_add, List.drop_drop, show m + (p - m) = p by omega]
theorem scanF_covers (L : List UInt8) : ∀ (f p m : Nat) (br sq : Bool) (ts : List Tok), L.length - p ≤ f → p ≤ L.length → m ≤ p → idleGo false ((L.drop m).take (p - m)) = some false → scanF (L.drop p) p br sq = (ts, none) → Covers L m ts
 |f, p, m, br, sq, ts, hf, hp, hm, hi, hs => by
  by_cases hne : L.drop p = []
  ·rw [hne, scanF_nil] at hs
   have hts : ts = [] := (congrArg Prod.fst hs).symm
   have hpl : L.length ≤ p := by have := congrArg List.length hne; simp at this; omega
   rw [List.take_of_length_le (by simp; omega)] at hi
   rw [hts, Covers, idleB, hi]; rfl
  ·have hpos : p < L.length := by have := nil_len hne; simp at this; omega
   match f, hf with
   | 0, hf => omega
   |f + 1, hf =>
    by_cases hb : isBl (atB (L.drop p) 0) = true
    ·rw [scanF_blank hne hb, List.drop_drop] at hs
     refine scanF_covers L f (p + 1) m br sq ts (by omega) (by omega) (by omega) ?_ hs
     rw [take_step hm, idleGo_app, hi, take_one hne]
     exact idleGo_bl hb
    ·by_cases hc : (atB (L.drop p) 0).toNat = 35
     ·have hr := remark_pos hne
      have hrem := idleGo_remark hne hc
      rw [scanF_remark hne hc, List.drop_drop] at hs
      rw [List.length_drop] at hr
      rcases hrem with hrem | ⟨hrem, hlen⟩
      ·refine scanF_covers L f (p + remark (L.drop p)) m br sq ts (by omega) (by omega) (by omega) ?_ hs
       rw [take_step hm, idleGo_app, hi]
       exact hrem
      ·rw [List.length_drop] at hlen
       rw [List.drop_eq_nil_of_le (by omega), scanF_nil] at hs
       have hts : ts = [] := (congrArg Prod.fst hs).symm
       have hsp : L.drop m = (L.drop m).take (p - m) ++ L.drop p := by
        conv => lhs; rw [← List.take_append_drop (p - m) (L.drop m)]
        rw [List.drop_drop, show m + (p - m) = p by omega]
       rw [hts, Covers, idleB, hsp, idleGo_app, hi]
       simp only [Option.bind_some]
       rw [hrem]; rfl
     ·cases ht : tokenR (L.drop p) br sq with
      |bad e =>
       rw [scanF_bad hne (by simpa using hb) hc ht] at hs
       cases hs
      |tok k n b q =>
       have hn := tokenR_pos hne ht
       have hso := tokenR_sound hne ht
       rw [scanF_tok hne (by simpa using hb) hc ht, List.drop_drop] at hs
       rw [List.length_drop] at hn
       have h1 := congrArg Prod.fst hs
       have h2 := congrArg Prod.snd hs
       simp only at h1 h2
       have hlen : ((L.drop p).take n).length = n := by rw [List.length_take, List.length_drop]; omega
       rw [← h1, Covers]
       refine ⟨hm, by simp only [hlen]; omega, ?_, by simp only [hlen], by rw [idleB, hi]; rfl, hso, ?_⟩
       ·intro e
        simp only at e
        rw [e] at hlen
        simp at hlen; omega
       ·simp only [hlen]
        refine scanF_covers L f (p + n) (p + n) b q _ (by omega) (by omega) (Nat.le_refl _) ?_ (Prod.ext rfl h2)
        simp [idleGo]
end Go.Proofs.YtpkeonafcldkhaaGreatDoor
