import Derived.Test.YtpkeonafcldkhaaGreatDoorQ26
import Derived.Test.YtpkeonafcldkhaaGreatDoorQ27
import Derived.Test.YtpkeonafcldkhaaGreatDoorQ24
/- Part of the proof of YtpkeonafcldkhaaGreatDoorCardS CardV: LawD RbG RbH OvH OpenB OpenS. -/
set_option linter.unusedVariables false
set_option linter.unusedSimpArgs false
namespace Go.Proofs.YtpkeonafcldkhaaGreatDoor
open Go.RowKit
theorem ScanPost.open {w w' : World} {r : List Tok × Option (Nat × Nat)} {e : Ending} (h : ScanPost w r e w') :
  ∃ ao c, e = .returned (.tuple #[.slice ao (outToks r).length c, .int .i64 (outAt r : Int), .int .i64 (outErr r : Int)]) ∧ w'.ownsRow w.heap.size 33 3 (.slice ao (outToks r).length c) (outToks r).length (toksCells (outToks r)) ∧ TokAt w' (.slice ao (outToks r).length c) ((outToks r).map tokV) ∧ Below w.heap.size w w' := by
 obtain ⟨v, rfl, ho, hb⟩ := h
 have hs := tokSl_of_own ho
 rcases ho.2 with ⟨rfl, hn⟩ | ⟨g, cap, cur, rfl, _⟩
 ·rw [List.eq_nil_of_length_eq_zero hn] at *
  exact ⟨none, 0, rfl, ho, hs.at, hb⟩
 ·exact ⟨_, cap, rfl, ho, hs.at, hb⟩
theorem outErr_none {r : List Tok × Option (Nat × Nat)} (h : r.2 = none) : outErr r = 0 ∧ outAt r = 0 ∧ outToks r = r.1 := by
 obtain ⟨a, b⟩ := r
 simp only at h
 subst h
 exact ⟨rfl, rfl, rfl⟩
theorem outErr_some {r : List Tok × Option (Nat × Nat)} {a k : Nat} (h : r.2 = some (a, k)) : outErr r = k ∧ outAt r = a ∧ outToks r = [] := by
 obtain ⟨x, b⟩ := r
 simp only at h
 subst h
 exact ⟨rfl, rfl, rfl⟩
theorem scanF_len : ∀ (m : Nat) (l : List UInt8) (p : Nat) (br sq : Bool), l.length ≤ m → (scanF l p br sq).1.length ≤ l.length ∧ ∀ t ∈ (scanF l p br sq).1, t.pos + t.text.length ≤ p + l.length
 |m, [], p, br, sq, _ => ⟨Nat.zero_le _, fun t h => by cases h⟩
 | 0, c :: r, p, br, sq, h => by simp at h
 |m + 1, c :: r, p, br, sq, hm => by
  have hne : c :: r ≠ [] := by simp
  generalize hl : c :: r = x at *
  have hlen := nil_len hne
  cases hb : isBl (atB x 0)
  ·by_cases hc : (atB x 0).toNat = 35
   ·have hr := remark_pos hne
    rw [scanF_remark hne hc]
    obtain ⟨i1, i2⟩ := scanF_len m (x.drop (remark x)) (p + remark x) br sq (by simp; omega)
    rw [List.length_drop] at i1 i2
    exact ⟨by omega, fun t ht => by have := i2 t ht; omega⟩
   ·cases ht : tokenR x br sq with
    |bad e' => rw [scanF_bad hne hb hc ht]; exact ⟨Nat.zero_le _, fun t h => by cases h⟩
    |tok k n b q =>
     have hn := tokenR_pos hne ht
     rw [scanF_tok hne hb hc ht]
     obtain ⟨i1, i2⟩ := scanF_len m (x.drop n) (p + n) b q (by simp; omega)
     rw [List.length_drop] at i1 i2
     refine ⟨by simp only [List.length_cons]; omega, fun t ht => ?_⟩
     rcases List.mem_cons.1 ht with rfl | ht
     ·simp only [List.length_take]; omega
     ·have := i2 t ht; omega
  ·rw [scanF_blank hne hb]
   obtain ⟨i1, i2⟩ := scanF_len m (x.drop 1) (p + 1) br sq (by simp; omega)
   rw [List.length_drop] at i1 i2
   exact ⟨by omega, fun t ht => by have := i2 t ht; omega⟩
theorem scanAll_len (l : List UInt8) : (scanAll l).1.length ≤ l.length ∧ ∀ t ∈ (scanAll l).1, t.pos + t.text.length ≤ l.length := by
 unfold scanAll
 split
 ·exact ⟨Nat.zero_le _, fun t h => by cases h⟩
 ·have := scanF_len l.length l 0 false false (Nat.le_refl _)
  rw [Nat.zero_add] at this
  exact this
def ptM (b : Nat) : Nat := if b / 4503599627370496 = 0 then b else b % 4503599627370496 + 4503599627370496
def ptE (b : Nat) : Int := if b / 4503599627370496 = 0 then -1074 else ((b / 4503599627370496 : Nat) : Int) - 1075
set_option maxRecDepth 100000 in
set_option maxHeartbeats 1000000 in
theorem r02_parts (w : World) (b : Nat) (hb : b < 9223372036854775808) :
  Calls Tryz.prog 84 #[.int .u64 (b : Int)] w fun e w' => e = .returned (.tuple #[.int .u64 (ptM b : Int), .int .i64 (ptE b)]) ∧ w' = w := by
 obtain ⟨M, hM⟩ : ∃ M, M = ptM b := ⟨_, rfl⟩
 obtain ⟨E, hE⟩ : ∃ E, E = ptE b := ⟨_, rfl⟩
 rw [← hM, ← hE]
 obtain ⟨x, hx⟩ : ∃ x, x = b / 4503599627370496 := ⟨_, rfl⟩
 have q1 : (b : Int) / 4503599627370496 = (x : Int) := by omega
 unfold ptM at hM
 unfold ptE at hE
 rw [← hx] at hM hE
 by_cases h0 : x = 0
 ·rw [if_pos h0] at hM hE
  subst hM hE
  have p1 : ((x : Int) = 0) = True := eq_true (by omega)
  go_enter Tryz.func84, Tryz.ntmps84
  go_wp2_with fail
  all_goals (go_ret2; exact ⟨rfl, rfl⟩)
 ·rw [if_neg h0] at hM hE
  have p1 : ((x : Int) = 0) = False := eq_false (by omega)
  have hlt : b % 4503599627370496 < 4503599627370496 := Nat.mod_lt _ (by decide)
  have q2 : bits .and .u64 (b : Int) 4503599627370495 = ((b % 4503599627370496 : Nat) : Int) := by
   have := bits_and_u64_nat b 4503599627370495 (by omega) (by decide)
   rw [show (4503599627370495 : Nat) = 2 ^ 52 - 1 by decide, Nat.and_two_pow_sub_one_eq_mod] at this
   exact this
  obtain ⟨lowb, hlow⟩ : ∃ l, l = b % 4503599627370496 := ⟨_, rfl⟩
  rw [← hlow] at q2 hM hlt
  have q3 : bits .or .u64 (lowb : Int) 4503599627370496 = (M : Int) := by
   have h1 := bits_or_u64_nat lowb 4503599627370496 (by omega) (by decide)
   have h2 := Nat.two_pow_add_eq_or_of_lt (i := 52) (b := lowb) (by simpa using hlt) 1
   rw [Nat.mul_one, show (2 : Nat) ^ 52 = 4503599627370496 by decide, Nat.or_comm] at h2
   rw [← h2] at h1
   rw [hM, Nat.add_comm]
   exact h1
  have bx : x ≤ 2047 := by omega
  clear hM hx hlow
  subst hE
  go_enter Tryz.func84, Tryz.ntmps84
  go_wp2_with fail
  all_goals (go_ret2; exact ⟨rfl, rfl⟩)
theorem shl_len {es fs : List Nat} {k : Nat} (h : BigOk es) (h2 : bigV fs = bigV es * 2 ^ k) (h3 : Norm fs) : fs.length ≤ es.length + k := by
 apply norm_len h3
 have h1 := bigV_lt es h
 have h5 : (2 : Nat) ^ k ≤ 4294967296 ^ k := Nat.pow_le_pow_left (by decide) k
 rw [h2, Nat.pow_add]
 exact Nat.lt_of_le_of_lt (Nat.mul_le_mul_left _ h5) (Nat.mul_lt_mul_of_pos_right h1 (Nat.pow_pos (by decide)))
def agI (m : Nat) (e : Int) (N D : Nat) : Int := if 0 ≤ e then cmpI (m * D * 2 ^ e.toNat) N else cmpI (m * D) (N * 2 ^ (-e).toNat)
set_option maxRecDepth 100000 in
set_option maxHeartbeats 2000000 in
theorem r02_against (w : World) (m : Nat) (e : Int) (vn vd : Value) (ns ds : List Nat) (hm : m < 18446744073709551616) (he0 : -100000 ≤ e) (he1 : e ≤ 100000) (hn : BigR w vn ns) (hd : BigR w vd ds) (hno : BigOk ns) (hdo : BigOk ds) (hnn : Norm ns) (hnl : ns.length ≤ 1000000) (hdl : ds.length ≤ 1000000) :
  Calls Tryz.prog 85 #[.int .u64 (m : Int), .int .i64 e, vn, vd] w fun e' w' => e' = .returned (.int .i64 (agI m e (bigV ns) (bigV ds))) ∧ Below w.heap.size w w' := by
 obtain ⟨V, hV⟩ : ∃ V, V = agI m e (bigV ns) (bigV ds) := ⟨_, rfl⟩
 rw [← hV]
 obtain ⟨lo, hlo⟩ : ∃ lo, lo = m % 4294967296 := ⟨_, rfl⟩
 obtain ⟨hi, hhi⟩ : ∃ hi, hi = m / 4294967296 := ⟨_, rfl⟩
 have q1 : (m : Int) % 4294967296 = (lo : Int) := by omega
 have q2 : (m : Int) / 4294967296 = (hi : Int) := by omega
 have q3 : IntKind.u32.wrap (m : Int) = (lo : Int) := by rw [IntKind.wrap_u32]; omega
 have q4 : IntKind.u32.wrap (hi : Int) = (hi : Int) := by rw [IntKind.wrap_u32]; omega
 have q5 : (hi : Int) % 4294967296 = (hi : Int) := by omega
 have ho1 : BigO (w.alloc (.cells #[.int .u32 (lo : Int), .int .u32 (hi : Int)] 92)) w.heap.size (.slice (some ⟨w.heap.size, 0, none⟩) 2 2) [lo, hi] := World.ownsRow_lit (e := 92) (size := 1) w #[.int .u32 (lo : Int), .int .u32 (hi : Int)] 2 (Nat.le_refl _) (by unfold maxLen; omega) rfl
 have hb1 := (Below.refl w.heap.size w).alloc (Nat.le_refl _) (.cells #[.int .u32 (lo : Int), .int .u32 (hi : Int)] 92)
 have hval : bigV [lo, hi] = m := by show lo + 4294967296 * (hi + 4294967296 * 0) = m; rw [Nat.mul_zero, Nat.add_zero]; omega
 have hok : BigOk [lo, hi] := fun d hd => by
  simp only [List.mem_cons, List.not_mem_nil, or_false] at hd
  rcases hd with rfl | rfl <;> omega
 have HP := Lib.hid (r02_product (w.alloc (.cells #[.int .u32 (lo : Int), .int .u32 (hi : Int)] 92)) _ vd [lo, hi] ds ho1.r (hd.below hb1) hok hdo (by simp) (by omega))
 have HB1 := Lib.hid hb1
 have HV := Lib.hid hV
 have HVL := Lib.hid hval
 have HN := Lib.hid (And.intro hn (And.intro hno (And.intro hnn hdo)))
 clear ho1 hb1 hval hok hV hn hd hno hdo hnn hlo hhi
 go_enter Tryz.func85, Tryz.ntmps85
 go_wp2_with fail
 have hp : Calls Tryz.prog 63 #[.slice (some ⟨w.heap.size, 0, none⟩) 2 2, vd] (w.alloc (.cells #[.int .u32 (lo : Int), .int .u32 (hi : Int)] 92)) (BigPost (w.alloc (.cells #[.int .u32 (lo : Int), .int .u32 (hi : Int)] 92)) (bigV [lo, hi] * bigV ds)) := HP.out
 refine hp.mono ?_
 rintro e' w2 ⟨⟨v2, es, rfl, f1, f2, f3, f4⟩, hb⟩
 have hB2 : Below w.heap.size w w2 := HB1.out.trans (hb.mono HB1.out.size)
 rw [HVL.out] at f2
 have hal : es.length ≤ ds.length + 2 := by
  apply norm_len f3
  have h1 := bigV_lt ds HN.out.2.2.2
  rw [f2, Nat.add_comm, Nat.pow_add]
  exact Nat.mul_lt_mul'' (by omega) h1
 have HA := Lib.hid (And.intro f1 (And.intro f2 (And.intro f3 f4)))
 have HB := Lib.hid hB2
 have HL := Lib.hid hal
 clear f1 f2 f3 f4 hb hB2 hal
 by_cases h0 : 0 ≤ e
 ·have p1 : ((0 : Int) ≤ e) = True := eq_true h0
  obtain ⟨k, hk⟩ : ∃ k : Nat, e = (k : Int) := ⟨e.toNat, by omega⟩
  subst hk
  go_wp2_with fail
  have hs : Calls Tryz.prog 112 #[v2, .int .i64 (k : Int)] w2 (BigPost w2 (bigV es * 2 ^ k)) := r02_shifted w2 v2 es k HA.out.1.r HA.out.2.2.2 (by have := HL.out; omega) (by omega)
  refine hs.mono ?_
  rintro e' w3 ⟨⟨v3, fs, rfl, g1, g2, g3, g4⟩, gb⟩
  have gl : fs.length ≤ 1200000 := Nat.le_trans (shl_len HA.out.2.2.2 g2 g3) (by have := HL.out; omega)
  have hB3 : Below w.heap.size w w3 := HB.out.trans (gb.mono HB.out.size)
  have HG := Lib.hid (And.intro g1 (And.intro g2 (And.intro g3 g4)))
  have HGL := Lib.hid gl
  have HB3 := Lib.hid hB3
  clear g1 g2 g3 g4 gb gl hB3
  go_wp2_with fail
  have hc : Calls Tryz.prog 111 #[v3, vn] w3 fun e w' => e = .returned (.int .i64 (cmpI (bigV fs) (bigV ns))) ∧ ∃ d, w' = w3.drewN d := r02_compare w3 v3 vn fs ns HG.out.1.r (HN.out.1.below HB3.out) HG.out.2.2.2 HN.out.2.1 HG.out.2.2.1 HN.out.2.2.1 (by have := HGL.out; omega) (by omega)
  refine hc.mono ?_
  rintro e' w4 ⟨rfl, d, rfl⟩
  have hres : cmpI (bigV fs) (bigV ns) = V := by
   rw [HV.out, agI, if_pos h0, HG.out.2.1, HA.out.2.1, Int.toNat_natCast]
  rw [hres]
  go_wp2_with fail
  go_ret
  exact ⟨rfl, Go.below_drewN HB3.out d⟩
 ·have p1 : ((0 : Int) ≤ e) = False := eq_false h0
  obtain ⟨k, hk⟩ : ∃ k : Nat, e = -(k : Int) := ⟨(-e).toNat, by omega⟩
  subst hk
  have q6 : (-(-(k : Int))) = (k : Int) := by omega
  go_wp2_with fail
  have hs : Calls Tryz.prog 112 #[vn, .int .i64 (k : Int)] w2 (BigPost w2 (bigV ns * 2 ^ k)) := r02_shifted w2 vn ns k (HN.out.1.below HB.out) HN.out.2.1 (by omega) (by omega)
  refine hs.mono ?_
  rintro e' w3 ⟨⟨v3, fs, rfl, g1, g2, g3, g4⟩, gb⟩
  have gl : fs.length ≤ 1200000 := Nat.le_trans (shl_len HN.out.2.1 g2 g3) (by omega)
  have hB3 : Below w.heap.size w w3 := HB.out.trans (gb.mono HB.out.size)
  have ha3 : BigR w3 v2 es := HA.out.1.r.below gb
  have HG := Lib.hid (And.intro g1 (And.intro g2 (And.intro g3 g4)))
  have HGL := Lib.hid gl
  have HB3 := Lib.hid hB3
  have HA3 := Lib.hid ha3
  clear g1 g2 g3 g4 gb gl hB3 ha3
  go_wp2_with fail
  have hc : Calls Tryz.prog 111 #[v2, v3] w3 fun e w' => e = .returned (.int .i64 (cmpI (bigV es) (bigV fs))) ∧ ∃ d, w' = w3.drewN d := r02_compare w3 v2 v3 es fs HA3.out HG.out.1.r HA.out.2.2.2 HG.out.2.2.2 HA.out.2.2.1 HG.out.2.2.1 (by have := HL.out; omega) (by have := HGL.out; omega)
  refine hc.mono ?_
  rintro e' w4 ⟨rfl, d, rfl⟩
  have hres : cmpI (bigV es) (bigV fs) = V := by
   rw [HV.out, agI, if_neg (by omega), HG.out.2.1, HA.out.2.1, Int.neg_neg, Int.toNat_natCast]
  rw [hres]
  go_wp2_with fail
  go_ret
  exact ⟨rfl, Go.below_drewN HB3.out d⟩
theorem cmpI_cases (a b : Nat) : (cmpI a b = -1 ∧ a < b) ∨ (cmpI a b = 0 ∧ a = b) ∨ (cmpI a b = 1 ∧ b < a) := by
 unfold cmpI
 by_cases h : a < b
 ·rw [if_pos h]; exact Or.inl ⟨rfl, h⟩
 ·rw [if_neg h]
  by_cases h2 : b < a
  ·rw [if_pos h2]; exact Or.inr (Or.inr ⟨rfl, h2⟩)
  ·rw [if_neg h2]; exact Or.inr (Or.inl ⟨rfl, by omega⟩)
theorem cmpI_le {a b : Nat} : cmpI a b ≤ 0 ↔ a ≤ b := by
 rcases cmpI_cases a b with ⟨h, h2⟩ | ⟨h, h2⟩ | ⟨h, h2⟩ <;> rw [h] <;> constructor <;> intro _ <;> omega
theorem agI_cases (m : Nat) (e : Int) (N D : Nat) : agI m e N D = -1 ∨ agI m e N D = 0 ∨ agI m e N D = 1 := by
 unfold agI
 split
 ·rcases cmpI_cases (m * D * 2 ^ e.toNat) N with h | h | h
  ·exact Or.inl h.1
  ·exact Or.inr (Or.inl h.1)
  ·exact Or.inr (Or.inr h.1)
 ·rcases cmpI_cases (m * D) (N * 2 ^ (-e).toNat) with h | h | h
  ·exact Or.inl h.1
  ·exact Or.inr (Or.inl h.1)
  ·exact Or.inr (Or.inr h.1)
theorem ptM_lt {b : Nat} (hb : b < infW) : ptM b < 9007199254740992 := by
 unfold ptM
 unfold infW at hb
 split <;> omega
theorem ptE_le {b : Nat} (hb : b < infW) : -1074 ≤ ptE b ∧ ptE b ≤ 971 := by
 unfold ptE
 unfold infW at hb
 split <;> omega
theorem pw_big {M e a : Nat} (hM : M < 9007199254740992) (he : e ≤ a + 1) : M * 2 ^ e ≤ (2 ^ 54 - 1) * 2 ^ a := by
 have h1 : (2 : Nat) ^ e ≤ 2 ^ (a + 1) := Nat.pow_le_pow_right (by decide) he
 have h2 := Nat.mul_le_mul (Nat.le_of_lt_succ hM) h1
 rw [show (2 : Nat) ^ (a + 1) = 2 ^ a * 2 from Nat.pow_succ (n := 2) (m := a)] at h2
 generalize (2 : Nat) ^ a = X at h2 ⊢
 omega
theorem big_le_ov {M e : Nat} (hM : M < 9007199254740992) (he : e ≤ 971) : M * 2 ^ e ≤ ovN := by
 unfold ovN
 generalize h : (970 : Nat) = a
 exact pw_big hM (by omega)
theorem ag_over {b N D : Nat} (hb : b < infW) (h : ovN * D ≤ N) : agI (ptM b) (ptE b) N D ≤ 0 := by
 have h1 := ptM_lt hb
 have h2 := (ptE_le hb).2
 unfold agI
 split
 ·rename_i h0
  rw [cmpI_le, Nat.mul_assoc, Nat.mul_comm D, ← Nat.mul_assoc]
  exact Nat.le_trans (Nat.mul_le_mul_right D (big_le_ov h1 (by omega))) h
 ·rename_i h0
  rw [cmpI_le]
  have h3 := big_le_ov (e := 0) h1 (by omega)
  rw [Nat.pow_zero, Nat.mul_one] at h3
  have h4 : N * 1 ≤ N * 2 ^ (-ptE b).toNat := Nat.mul_le_mul_left N (Nat.pow_pos (by decide))
  rw [Nat.mul_one] at h4
  exact Nat.le_trans (Nat.mul_le_mul_right D h3) (Nat.le_trans h h4)
theorem ag_top (N D : Nat) : agI (2 * ptM 9218868437227405311 + 1) (ptE 9218868437227405311 - 1) N D ≤ 0 ↔ ovN * D ≤ N := by
 have h1 : ptM 9218868437227405311 = 9007199254740991 := by decide
 have h2 : ptE 9218868437227405311 = 971 := by decide
 rw [h1, h2]
 unfold agI
 rw [if_pos (by decide), cmpI_le, show ((971 : Int) - 1).toNat = 970 by decide]
 unfold ovN
 generalize (970 : Nat) = a
 rw [Nat.mul_assoc, Nat.mul_comm D, ← Nat.mul_assoc]
def NearPost (w : World) (N D : Nat) (e : Ending) (w' : World) : Prop :=
 ∃ b : Nat, e = .returned (.int .u64 (b : Int)) ∧ b ≤ infW ∧ (infW ≤ b ↔ ovN * D ≤ N) ∧ Below w.heap.size w w'
theorem near_up {w w' : World} {lo N D : Nat} {A : Int} (h : lo < infW) (ho : ovN * D ≤ N → lo = 9218868437227405311) (hT : lo = 9218868437227405311 → (A ≤ 0 ↔ ovN * D ≤ N)) (hA : A ≤ 0) (hb : Below w.heap.size w w') :
  NearPost w N D (.returned (.int .u64 ((lo : Int) + 1))) w' := by
 refine ⟨lo + 1, rfl, h, ?_, hb⟩
 unfold infW at h ⊢
 constructor
 ·intro h1
  have h2 : lo = 9218868437227405311 := by omega
  exact (hT h2).mp hA
 ·intro h1
  have := ho h1
  omega
theorem near_at {w w' : World} {lo N D : Nat} {A : Int} (h : lo < infW) (ho : ovN * D ≤ N → lo = 9218868437227405311) (hT : lo = 9218868437227405311 → (A ≤ 0 ↔ ovN * D ≤ N)) (hA : A ≤ 0 → ¬ lo % 2 = 1) (hb : Below w.heap.size w w') :
  NearPost w N D (.returned (.int .u64 (lo : Int))) w' := by
 refine ⟨lo, rfl, Nat.le_of_lt h, ?_, hb⟩
 constructor
 ·intro h1
  omega
 ·intro h1
  have h2 := ho h1
  have h3 := (hT h2).mpr h1
  exact absurd (by rw [h2]) (hA h3)
set_option maxRecDepth 100000 in
set_option maxHeartbeats 2000000 in
theorem r02_nearest (w : World) (vn vd : Value) (ns ds : List Nat) (hn : BigR w vn ns) (hd : BigR w vd ds) (hno : BigOk ns) (hdo : BigOk ds) (hnn : Norm ns) (hnl : ns.length ≤ 1000000) (hdl : ds.length ≤ 1000000) :
  Calls Tryz.prog 64 #[vn, vd] w (NearPost w (bigV ns) (bigV ds)) := by
 have HN := Lib.hid (And.intro hn (And.intro hno (And.intro hnn (And.intro hdo hd))))
 clear hn hno hnn hdo hd
 go_enter Tryz.func64, Tryz.ntmps64
 go_wp2_with fail
 go_loopw [5, 6, 7, 8, 9] (fun t5 t6 t7 t8 t9 wr => ∃ (lo hi : Nat), Hid (lo ≤ hi ∧ hi < infW ∧ (ovN * bigV ds ≤ bigV ns → hi = 9218868437227405311) ∧ Below w.heap.size w wr) ∧ t5 = .int .u64 (lo : Int) ∧ t6 = .int .u64 (hi : Int)) (fun t5 t6 _ _ _ _ => (intOf t6).toNat - (intOf t5).toNat)
 case atStart => exact ⟨0, 9218868437227405311, Lib.hid ⟨by decide, by decide, fun _ => rfl, Below.refl _ _⟩, rfl, rfl⟩
 case round =>
  obtain ⟨lo, hi, HI, rfl, rfl⟩ := hrel
  by_cases hlt : lo < hi
  ·have p1 : ((lo : Int) < (hi : Int)) = True := eq_true (by omega)
   have hhi : hi < 9218868437227405312 := HI.out.2.1
   obtain ⟨mid, hmid⟩ : ∃ m : Nat, m = lo + (hi - lo + 1) / 2 := ⟨_, rfl⟩
   have q1 : ((lo : Int) + ((hi : Int) - (lo : Int) + 1) / 2) = (mid : Int) := by omega
   have m1 : lo < mid := by omega
   have m2 : mid ≤ hi := by omega
   clear hmid
   have hmi : mid < infW := Nat.lt_of_le_of_lt m2 HI.out.2.1
   go_wp2_with fail
   refine (r02_parts wr mid (by omega)).mono ?_
   rintro e' w1 ⟨rfl, hw⟩
   subst w1
   have hM := Lib.hid (ptM_lt hmi)
   have hE := Lib.hid (ptE_le hmi)
   have hA := Lib.hid (agI_cases (ptM mid) (ptE mid) (bigV ns) (bigV ds))
   have hO := Lib.hid (fun h : ovN * bigV ds ≤ bigV ns => ag_over hmi h)
   have ha : Calls Tryz.prog 85 #[.int .u64 (ptM mid : Int), .int .i64 (ptE mid), vn, vd] wr fun e' w' => e' = .returned (.int .i64 (agI (ptM mid) (ptE mid) (bigV ns) (bigV ds))) ∧ Below wr.heap.size wr w' :=
    r02_against wr (ptM mid) (ptE mid) vn vd ns ds (by have := hM.out; omega) (by have := hE.out; omega) (by have := hE.out; omega) (HN.out.1.below HI.out.2.2.2) (HN.out.2.2.2.2.below HI.out.2.2.2) HN.out.2.1 HN.out.2.2.2.1 HN.out.2.2.1 hnl hdl
   have HW := Lib.hid ha
   clear ha hmi
   generalize agI (ptM mid) (ptE mid) (bigV ns) (bigV ds) = A at HW hA hO
   generalize ptM mid = M at HW hM ⊢
   generalize ptE mid = E at HW hE ⊢
   go_wp2_with fail
   refine HW.out.mono ?_
   rintro e' w2 ⟨rfl, hb⟩
   have HB := Lib.hid (HI.out.2.2.2.trans (hb.mono HI.out.2.2.2.size))
   clear hb
   by_cases hle : A ≤ 0
   ·have p2 : (A ≤ 0) = True := eq_true hle
    go_wp2_with fail
    exact ⟨⟨mid, hi, Lib.hid ⟨m2, HI.out.2.1, HI.out.2.2.1, HB.out⟩, rfl, rfl⟩, by show hi - mid < hi - lo; omega⟩
   ·have p2 : (A ≤ 0) = False := eq_false hle
    go_wp2_with fail
    have q3 : ((mid : Int) - 1) = ((mid - 1 : Nat) : Int) := by omega
    rw [q3]
    exact ⟨⟨lo, mid - 1, Lib.hid ⟨by omega, by have := HI.out.2.1; omega, fun h => absurd (hO.out h) (Int.not_le.mpr hle), HB.out⟩, rfl, rfl⟩, by show (mid - 1) - lo < hi - lo; omega⟩
  ·have p1 : ((lo : Int) < (hi : Int)) = False := eq_false (by omega)
   have hhi : hi < 9218868437227405312 := HI.out.2.1
   have hlh : lo = hi := by have := HI.out.1; omega
   subst hlh
   go_wp2_with fail
   refine (r02_parts wr lo (by omega)).mono ?_
   rintro e' w1 ⟨rfl, hw⟩
   subst w1
   have hM := Lib.hid (ptM_lt hhi)
   have hE := Lib.hid (ptE_le hhi)
   have hA := Lib.hid (agI_cases (2 * ptM lo + 1) (ptE lo - 1) (bigV ns) (bigV ds))
   have hT := Lib.hid (fun h : lo = 9218868437227405311 => (by subst h; exact ag_top (bigV ns) (bigV ds) : agI (2 * ptM lo + 1) (ptE lo - 1) (bigV ns) (bigV ds) ≤ 0 ↔ ovN * bigV ds ≤ bigV ns))
   have ha : Calls Tryz.prog 85 #[.int .u64 ((2 * ptM lo + 1 : Nat) : Int), .int .i64 (ptE lo - 1), vn, vd] wr fun e' w' => e' = .returned (.int .i64 (agI (2 * ptM lo + 1) (ptE lo - 1) (bigV ns) (bigV ds))) ∧ Below wr.heap.size wr w' :=
    r02_against wr (2 * ptM lo + 1) (ptE lo - 1) vn vd ns ds (by have := hM.out; omega) (by have := hE.out; omega) (by have := hE.out; omega) (HN.out.1.below HI.out.2.2.2) (HN.out.2.2.2.2.below HI.out.2.2.2) HN.out.2.1 HN.out.2.2.2.1 HN.out.2.2.1 hnl hdl
   have HW := Lib.hid ha
   clear ha
   generalize agI (2 * ptM lo + 1) (ptE lo - 1) (bigV ns) (bigV ds) = A at HW hA hT
   generalize ptM lo = M at HW hM ⊢
   generalize ptE lo = E at HW hE ⊢
   have bM : M < 9007199254740992 := hM.out
   have bE := hE.out
   go_wp2_with fail
   have ha2 : Calls Tryz.prog 85 #[.int .u64 (2 * (M : Int) + 1), .int .i64 (E - 1), vn, vd] wr fun e' w' => e' = .returned (.int .i64 A) ∧ Below wr.heap.size wr w' := HW.out
   refine ha2.mono ?_
   rintro e' w2 ⟨rfl, hb⟩
   have HB := Lib.hid (HI.out.2.2.2.trans (hb.mono HI.out.2.2.2.size))
   clear hb ha2
   by_cases hodd : lo % 2 = 1
   ·have p2 : ((lo : Int) % 2 = 1) = True := eq_true (by omega)
    have p3 : (((lo : Int) % 2) == 1) = true := by rw [beq_iff_eq]; omega
    rcases hA.out with rfl | rfl | rfl
    all_goals (go_wp2_with fail)
    ·go_ret; exact near_up hhi HI.out.2.2.1 hT.out (by decide) HB.out
    ·go_ret; exact near_up hhi HI.out.2.2.1 hT.out (by decide) HB.out
    ·go_ret; exact near_at hhi HI.out.2.2.1 hT.out (fun h => absurd h (by decide)) HB.out
   ·have p2 : ((lo : Int) % 2 = 1) = False := eq_false (by omega)
    have p3 : (((lo : Int) % 2) == 1) = false := by rw [beq_eq_false_iff_ne]; omega
    rcases hA.out with rfl | rfl | rfl
    all_goals (go_wp2_with fail)
    ·go_ret; exact near_up hhi HI.out.2.2.1 hT.out (by decide) HB.out
    ·go_ret; exact near_at hhi HI.out.2.2.1 hT.out (fun _ => hodd) HB.out
    ·go_ret; exact near_at hhi HI.out.2.2.1 hT.out (fun _ => hodd) HB.out
theorem smAt_lt {l : List UInt8} {m : Nat} (h : MantOk l m) : ∀ k, k ≤ m → (smAt l k).n < 10 ^ k
 | 0, _ => by show (0 : Nat) < 1; decide
 |k + 1, hk => by
  have ih := smAt_lt h k (by omega)
  have hl := h.1
  rw [ovSmAt_succ (by omega), Nat.pow_succ]
  unfold smStep
  split
  ·show (smAt l k).n < _; omega
  ·rename_i hn
   have hd := digit_fits ((h.2 k (by omega)).resolve_right fun h => hn h.1)
   show (smAt l k).n * 10 + _ < _
   omega
def tooBig (l : List UInt8) : Prop := if hexHead l = true then ovN ≤ hexNK l l.length else overN (smAt l (mEnd l)).n (eVal l - ((smAt l (mEnd l)).behind : Int))
theorem huge_iff {l : List UInt8} (h0 : numPrefix l = l.length) (hne : l ≠ []) (hl : l.length ≤ 512) : huge l = true ↔ tooBig l := by
 have hpos : 0 < l.length := List.length_pos_iff.2 hne
 unfold huge tooBig numVal
 cases hh : hexHead l
 ·rw [if_neg (show ¬ (false = true) by simp)]
  obtain ⟨hm, ⟨i0, hi0, _⟩, he⟩ := shape_dec h0 hne hh
  have hX : isX (atB l 1) = false := by
   rcases Nat.lt_or_ge 1 l.length with h1 | h1
   ·exact (dec_noX h0 hne hh h1).1
   ·have : atB l 1 = 0 := by rw [atB, List.getD_eq_getElem?_getD, List.getElem?_eq_none h1]; rfl
    rw [this]; decide
  cases hs : smallB l
  ·simp only [Bool.not_false, Bool.true_and, Bool.false_eq_true, if_false, hX]
   have hml := hm.1
   refine decL_over hm (by omega) ?_
   unfold eVal
   split
   ·rename_i hlt
    have hx : ExpOk l (mEnd l) (eDig l) (eSgn l) := by
     rcases he with he | he
     ·omega
     ·exact he.2
    have := eAt_le l.length (Nat.le_of_lt hx.some) (Nat.le_refl _) hx.digs
    split <;> omega
   ·omega
  ·simp only [Bool.not_true, Bool.false_and, Bool.false_eq_true, false_iff]
   unfold smallB at hs
   simp only [Bool.and_eq_true, decide_eq_true_eq] at hs
   obtain ⟨hs1, hs2⟩ := hs
   have hme : mEnd l = l.length := by
    rcases he with he | ⟨h1, he⟩
    ·exact he
    ·exfalso
     have hE := he.isE
     have := List.all_eq_true.1 hs2 l[mEnd l] (List.getElem_mem h1)
     have ha : l[mEnd l] = atB l (mEnd l) := by rw [atB, List.getD_eq_getElem?_getD, List.getElem?_eq_getElem h1]; rfl
     rw [ha] at this
     have hf := digit_notE (c := atB l (mEnd l)) (by simpa using this)
     rw [hf] at hE; cases hE
   have hn := smAt_lt hm (mEnd l) (Nat.le_refl _)
   have hv : eVal l = 0 := by unfold eVal; rw [if_neg (by omega)]
   rw [hv]
   exact ov_small (a := mEnd l) (Nat.le_of_lt hn) (by omega)
 ·rw [if_pos (show true = true from rfl)]
  obtain ⟨h2, h3, h4, h5⟩ := shape_hex h0 hh
  have hs : smallB l = false := by
   unfold smallB
   have : plainNumB l = false := by
    unfold plainNumB
    rw [List.all_eq_false]
    refine ⟨l[1], List.getElem_mem (by omega), ?_⟩
    have ha : l[1]'(by omega) = atB l 1 := by rw [atB, List.getD_eq_getElem?_getD, List.getElem?_eq_getElem (by omega)]; rfl
    rw [ha]
    have hall : ∀ c : UInt8, isX c = true → ¬ (digit c || c.toNat == 46) = true := all_bytes (by decide +kernel)
    exact hall _ h4
   rw [this, Bool.and_false]
  simp only [hs, Bool.not_false, Bool.true_and, Bool.false_eq_true, if_false, h4, if_true]
  exact hexW_over h5 h2
end Go.Proofs.YtpkeonafcldkhaaGreatDoor
set_option linter.unusedVariables false
set_option linter.unusedSimpArgs false
namespace Go.Proofs.YtpkeonafcldkhaaGreatDoor
open Go.ChangeShapes Go.WideShapes Go.RowKit Go.Deep
theorem bulk_mem {H : Type} {x : DataW H} : ∀ {l : List (DataW H)}, x ∈ l → Rows.uptoBulk x ≤ Rows.uptoBulkAll l
 |y :: r, h => by
  rw [Rows.uptoBulkAll]
  rcases List.mem_cons.1 h with rfl | h
  ·omega
  ·have := bulk_mem h; omega
theorem open_strs2 {H : Type} {enc : TypeId × Value → H} {W : World} {a0 : Option Addr} {len cap fuel : Nat} {x : DataW H × List MemPlace}
  (hf : DataW.trod enc Tryz.prog W 0 (fun _ => true) true fuel 22 [.slice a0 len cap] = some x) :
  ∃ ss : List ByteArray, StrSl W (.slice a0 len cap) ss ∧ ss.length ≤ Rows.uptoBulk x.1 ∧ (∀ s ∈ ss, s.size ≤ Rows.uptoBulk x.1) := by
 rcases open_strings Tryz.underlying22 Tryz.underlying9 cells_str hf with ⟨hcs, hx⟩ | ⟨a, len', cap', ss, hcs, _, hl, hm, hz, hx, hcell, hws⟩
 ·simp at hcs
  obtain ⟨rfl, rfl, rfl⟩ := hcs
  exact ⟨[], ⟨none, 0, rfl, fun j h => absurd h (by simp)⟩, Nat.zero_le _, fun s h => by cases h⟩
 ·simp at hcs
  obtain ⟨rfl, rfl, rfl⟩ := hcs
  subst hx
  simp only [if_true] at hz
  obtain ⟨b, off, spot⟩ := a
  have htl : (ss.take len).length = len := by simp; omega
  refine ⟨ss.take len, ⟨some ⟨b, off, spot⟩, cap, by rw [htl], fun j hj => ?_⟩, ?_, fun s hs => ?_⟩
  ·have hj' : j < len := by rw [htl] at hj; exact hj
   have hspot : spot = none := by simpa [Addr.add] using World.cell?_spot (hcell 0 (by omega))
   subst hspot
   refine ⟨b, off, rfl, cell_in (hcell 0 (by omega)), ?_⟩
   have := hcell j (by omega)
   rw [Addr.add_lit] at this
   rw [this, List.getElem_take]
   have hjs : j < ss.length := by omega
   simp [List.getD, hjs]
  ·have h1 := bulk_len (H := H) (strs (ss.take len))
   have h2 : (strs (H := H) (ss.take len)).length = len := by simp [strs]; omega
   simp only [Rows.uptoBulk]
   rw [htl]; omega
  ·have hm2 : (.lit (.string s.data.toList) : DataW H) ∈ strs (H := H) (ss.take len) := by
    simp only [strs, List.mem_map]
    exact ⟨s, hs, rfl⟩
   have h1 := bulk_mem hm2
   simp only [Rows.uptoBulk, len_data] at h1 ⊢
   omega
end Go.Proofs.YtpkeonafcldkhaaGreatDoor
