import Derived.Test.YtpkeonafcldkhaaGreatDoorQ23
/- Part of the proof of YtpkeonafcldkhaaGreatDoorCardS CardV: RbC RbE. -/
set_option linter.unusedVariables false
set_option linter.unusedSimpArgs false
namespace Go.Proofs.YtpkeonafcldkhaaGreatDoor
open Go.RowKit
theorem bigV_replicate (k : Nat) (b : List Nat) : bigV (List.replicate k 0 ++ b) = 4294967296 ^ k * bigV b := by
 rw [bigV_app, bigV_zeros _ fun d hd => (List.mem_replicate.1 hd).2, List.length_replicate, Nat.zero_add]
theorem run_make_zero (w : World) (q c : Nat) (hq : q ≤ c) (hc : c ≤ 1099511627776) :
  ∃ w1, (Instr.makeSlice 89 (.int .i64 (q : Int)) (.int .i64 (c : Int))).run Tryz.prog w = .ok (.slice (some ⟨w.heap.size, 0, none⟩) q c) w1 ∧ BigO w1 w.heap.size (.slice (some ⟨w.heap.size, 0, none⟩) q c) (List.replicate q 0) ∧ Below w.heap.size w w1 := by
 obtain ⟨i0, hi0, hz0, hz1, hz2⟩ := info_parts info_u32
 have hr := run_make (P := Tryz.prog) w 89 92 i0 _ Tryz.underlying89 hi0 hz0 .i64 .i64 (q : Int) (c : Int) (by omega) (by omega) (by rw [hz2]; omega) (by omega)
 rw [Int.toNat_natCast, Int.toNat_natCast, hz1, Nat.mul_one] at hr
 refine ⟨_, hr, ?_, (Below.refl _ _).alloc (Nat.le_refl _) _⟩
 have hcl : (madeCells (Value.int .u32 0).cells c).toList = List.replicate c (.int .u32 0) := toList_madeCells_one _ _
 refine ⟨by rw [u32Cells_len]; simp, .inr ⟨w.heap.size, c, _, by rw [List.length_replicate], Nat.le_refl _, heap_alloc_new w _, by rw [List.length_replicate]; exact hq, by unfold maxLen; omega, ?_, ?_⟩⟩
 ·rw [← Array.length_toList, hcl]; simp
 ·rw [hcl, List.length_replicate, Nat.mul_one, List.take_replicate, Nat.min_eq_left hq]
  simp [u32Cells]
set_option maxRecDepth 100000 in
set_option maxHeartbeats 2000000 in
theorem r02_shifted (w : World) (v : Value) (ds : List Nat) (n : Nat) (h : BigR w v ds) (hok : BigOk ds) (hl : ds.length ≤ 1099511627) (hn : n ≤ 1099511627) :
  Calls Tryz.prog 112 #[v, .int .i64 (n : Int)] w (BigPost w (bigV ds * 2 ^ n)) := by
 obtain ⟨ao, cap, rfl, hcell⟩ := h
 have HC := Lib.hid hcell
 have HOK := Lib.hid hok
 clear hcell hok
 obtain ⟨q, hq⟩ : ∃ q, q = n / 32 := ⟨_, rfl⟩
 obtain ⟨s, hs⟩ : ∃ s, s = n % 32 := ⟨_, rfl⟩
 obtain ⟨w1, hmk, ho1, hb1⟩ := run_make_zero w q (ds.length + q + 1) (by omega) (by omega)
 have hmk' : (Instr.makeSlice 89 (.int .i64 (q : Int)) (.int .i64 ((ds.length : Int) + (q : Int) + 1))).run Tryz.prog w = .ok (.slice (some ⟨w.heap.size, 0, none⟩) q (ds.length + q + 1)) w1 := hmk
 have eq1 : (n : Int) / 32 = (q : Int) := by omega
 have eq2 : (n : Int) % 32 = (s : Int) := by omega
 have HO1 := Lib.hid ho1
 have HB1 := Lib.hid hb1
 have HN := Lib.hid (show n = 32 * q + s ∧ s < 32 by omega)
 have hs32 : s < 32 := by omega
 have hq32 : q ≤ 1099511627 := by omega
 clear hmk ho1 hb1 hq hs
 go_enter Tryz.func112, Tryz.ntmps112
 go_wp2_with fail
 go_loopw [5, 6, 7] (fun t5 t6 t7 wr => ∃ (cy : Nat) (es : List Nat), Hid (es.length ≤ ds.length ∧ cy < 2 ^ s ∧ BigOk es ∧ bigV es + 4294967296 ^ es.length * cy = bigV (ds.take es.length) * 2 ^ s) ∧ t6 = .int .u64 (cy : Int) ∧ t7 = .int .i64 (es.length : Int) ∧ Hid (BigO wr w.heap.size t5 (List.replicate q 0 ++ es) ∧ Below w.heap.size w wr)) (fun _ _ t7 _ => ds.length - (intOf t7).toNat)
 case atStart => exact ⟨0, [], Lib.hid ⟨Nat.zero_le _, Nat.pow_pos (by decide), (fun d hd => by cases hd), by simp [bigV]⟩, rfl, rfl, Lib.hid ⟨by rw [List.append_nil]; exact HO1.out, HB1.out⟩⟩
 case round =>
  obtain ⟨cy, es, hI, rfl, rfl, hB⟩ := hrel
  have hbo := hB.out.1
  have hRl : (List.replicate q 0 ++ es).length ≤ 2199023254 := by have := hI.out.1; simp; omega
  obtain ⟨R, hR⟩ : ∃ R, R = List.replicate q 0 ++ es := ⟨_, rfl⟩
  rw [← hR] at hbo hRl
  obtain ⟨rv, rc, hrv⟩ := own_form2 hbo
  subst hrv
  have HO := Lib.hid hbo
  have HB := Lib.hid hB.out.2
  have HRR := Lib.hid hR
  have hcy := hI.out.2.1
  clear hB hbo hR
  by_cases hk : es.length < ds.length
  ·have p1 : ((es.length : Int) < (ds.length : Int)) = True := eq_true (by omega)
   obtain ⟨g, o, rfl, hg, hcl⟩ := HC.out es.length hk
   have hcl2 := (HB.out.cell (p := ⟨g, o + es.length, none⟩) hg).trans hcl
   obtain ⟨d, hd⟩ : ∃ d, d = ds[es.length] := ⟨_, rfl⟩
   have hdlt : d < 4294967296 := by rw [hd]; exact HOK.out _ (List.getElem_mem hk)
   rw [← hd] at hcl2
   have HD := Lib.hid hd
   clear hcl hd
   obtain ⟨P, hP⟩ : ∃ P, P = d * 2 ^ s := ⟨_, rfl⟩
   have h31 : 2 ^ s ≤ 2147483648 := by
    have : 2 ^ s ≤ 2 ^ 31 := Nat.pow_le_pow_right (by decide) (by omega)
    exact this
   have hP63 : P < 9223372036854775808 := by
    have h1 : d * 2 ^ s ≤ 4294967295 * 2147483648 := Nat.mul_le_mul (by omega) h31
    omega
   obtain ⟨S, hS⟩ : ∃ S, S = cy + P := ⟨_, rfl⟩
   have q1 : IntKind.u64.wrap ((d : Int) * 2 ^ s) = (P : Int) := by
    have e : (d : Int) * 2 ^ s = (P : Int) := by rw [hP]; simp
    rw [e, IntKind.wrap_u64]; omega
   have q2 : bits .or .u64 (cy : Int) (P : Int) = (S : Int) := by
    rw [bits_or_u64_nat cy P (by omega) (by omega), hS]
    have := Nat.two_pow_add_eq_or_of_lt (i := s) (b := cy) hcy d
    rw [Nat.or_comm, hP, Nat.mul_comm d, ← this, Nat.add_comm]
   obtain ⟨lo, hlo⟩ : ∃ lo, lo = S % 4294967296 := ⟨_, rfl⟩
   obtain ⟨hi, hhi⟩ : ∃ hi, hi = S / 4294967296 := ⟨_, rfl⟩
   have q3 : (S : Int) % 4294967296 = (lo : Int) := by omega
   have q4 : IntKind.u32.wrap (S : Int) = (lo : Int) := by rw [IntKind.wrap_u32]; omega
   have hS64 : S < 18446744073709551616 := by omega
   have HPS := Lib.hid (And.intro hP (And.intro hS (And.intro hlo (And.intro hhi hP63))))
   clear hP hS hlo hhi hP63
   go_wp2_with (at_builtin; refine wpList_push rfl (.tmp 33) (.tmp 36) 89 rfl w.heap.size 92 (.int .u32 0) 1 4 info_u32 Tryz.underlying89 rfl (by omega) _ _ _ rfl HO.out.own [.int .u32 (lo : Int)] rfl rfl (one1 rfl) (by unfold maxLen; omega) (by omega) HB.out.size ?_)
   intro v2 w2 hown2 hgr2
   have HB2 := Lib.hid (HB.out.grown hgr2 HB.out.size (fun g hg => (World.ownsRow.lt HO.out g hg).1))
   have HO2 := Lib.hid (bigO_push hown2)
   clear hown2 hgr2
   have hS2 : S = lo + 4294967296 * hi := by have := HPS.out; omega
   have hhi2 : hi < 2 ^ s := by
    obtain ⟨h1, h2, _⟩ := HPS.out
    have h4 : S < 2 ^ s * 4294967296 := by
     have : d * 2 ^ s ≤ 4294967295 * 2 ^ s := Nat.mul_le_mul_right _ (by omega)
     rw [h2, h1]
     generalize 2 ^ s = B at *
     omega
    generalize 2 ^ s = B at *
    omega
   have hval : bigV (es ++ [lo]) + 4294967296 ^ (es.length + 1) * hi = bigV (ds.take (es.length + 1)) * 2 ^ s := by
    obtain ⟨h1, h2, _⟩ := HPS.out
    have hv := hI.out.2.2.2
    have hT : bigV (ds.take (es.length + 1)) = bigV (ds.take es.length) + 4294967296 ^ es.length * d := by
     rw [List.take_succ_eq_append_getElem hk, bigV_app, HD.out, List.length_take, Nat.min_eq_left (by omega)]
     simp [bigV]
    rw [bigV_app, hT, Nat.pow_succ, Nat.add_mul]
    simp only [bigV, Nat.mul_zero, Nat.add_zero]
    generalize 4294967296 ^ es.length = B at *
    have e1 : B * lo + B * 4294967296 * hi = B * S := by rw [hS2, Nat.mul_add, Nat.mul_assoc]
    have e2 : B * S = B * cy + B * d * 2 ^ s := by rw [h2, h1, Nat.mul_add, Nat.mul_assoc]
    omega
   have hbok : BigOk (es ++ [lo]) := fun x hx => by
    rcases List.mem_append.1 hx with hx | hx
    ·exact hI.out.2.2.1 x hx
    ·obtain rfl := List.mem_singleton.1 hx
     have := HPS.out.2.2.1; omega
   have HF := Lib.hid (And.intro hval (And.intro hbok (And.intro hhi2 HPS.out.2.2.2.1)))
   clear hval hbok hhi2 hS2
   go_wp2_with fail
   refine ⟨⟨hi, es ++ [lo], Lib.hid ⟨by simp; omega, HF.out.2.2.1, HF.out.2.1, by simp only [List.length_append, List.length_cons, List.length_nil]; exact HF.out.1⟩, ?_, ?_, Lib.hid ⟨?_, HB2.out⟩⟩, ?_⟩
   ·have := HF.out.2.2.2
    apply vi'
    omega
   ·apply vi'; simp
   ·have := HO2.out
    rw [HRR.out, List.append_assoc] at this
    exact this
   ·exact meas_j hk
  ·have hke : es.length = ds.length := by have := hI.out.1; omega
   have p1 : ((es.length : Int) < (ds.length : Int)) = False := eq_false (by omega)
   have h31 : 2 ^ s ≤ 2147483648 := by
    have : 2 ^ s ≤ 2 ^ 31 := Nat.pow_le_pow_right (by decide) (by omega)
    exact this
   have hcy32 : cy < 4294967296 := by omega
   have q3 : (cy : Int) % 4294967296 = (cy : Int) := by omega
   have q4 : IntKind.u32.wrap (cy : Int) = (cy : Int) := by rw [IntKind.wrap_u32]; omega
   have HKE := Lib.hid hke
   clear hke
   go_wp2_with (at_builtin; refine wpList_push rfl (.tmp 40) (.tmp 43) 89 rfl w.heap.size 92 (.int .u32 0) 1 4 info_u32 Tryz.underlying89 rfl (by omega) _ _ _ rfl HO.out.own [.int .u32 (cy : Int)] rfl rfl (one1 rfl) (by unfold maxLen; omega) (by omega) HB.out.size ?_)
   intro v2 w2 hown2 hgr2
   have HB2 := Lib.hid (HB.out.grown hgr2 HB.out.size (fun g hg => (World.ownsRow.lt HO.out g hg).1))
   have HO2 := Lib.hid (bigO_push hown2)
   clear hown2 hgr2
   have hval : bigV (R ++ [cy]) = bigV ds * 2 ^ n := by
    have hv := hI.out.2.2.2
    obtain ⟨hn1, _⟩ := HN.out
    rw [HKE.out, List.take_length] at hv
    rw [HRR.out, List.append_assoc, bigV_replicate, bigV_app, HKE.out]
    simp only [bigV, Nat.mul_zero, Nat.add_zero]
    rw [hv, hn1, Nat.pow_add, Nat.pow_mul, show (2 : Nat) ^ 32 = 4294967296 by decide, Nat.mul_left_comm]
   have hbok : BigOk (R ++ [cy]) := fun x hx => by
    rw [HRR.out, List.append_assoc] at hx
    rcases List.mem_append.1 hx with hx | hx
    ·have := (List.mem_replicate.1 hx).2; omega
    ·rcases List.mem_append.1 hx with hx | hx
     ·exact hI.out.2.2.1 x hx
     ·obtain rfl := List.mem_singleton.1 hx
      exact hcy32
   have hll : (R ++ [cy]).length ≤ 1099511627776 := by simp only [List.length_append, List.length_cons, List.length_nil]; omega
   have HF := Lib.hid (And.intro hval hbok)
   clear hval hbok
   go_wp2_with fail
   refine (r02_trimmed_own _ w.heap.size _ _ HO2.out hll).mono ?_
   rintro e w3 ⟨⟨v3, fs, rfl, f1, f2, f3, f4⟩, rfl⟩
   have HR := Lib.hid (show (∃ v es, Ending.returned v3 = .returned v ∧ BigO w3 w.heap.size v es ∧ bigV es = bigV ds * 2 ^ n ∧ Norm es ∧ BigOk es) ∧ Below w.heap.size w w3 from ⟨⟨v3, fs, rfl, f1, f2.trans HF.out.1, f3, f4 HF.out.2⟩, HB2.out⟩)
   clear f1 f2 f3 f4
   go_wp2_with fail
   go_ret
   exact HR.out
theorem bigV_set : ∀ (R : List Nat) (k x : Nat) (h : k < R.length), bigV (R.set k x) + 4294967296 ^ k * R[k] = bigV R + 4294967296 ^ k * x
 | [], k, x, h => by simp at h
 |d :: r, 0, x, h => by simp [bigV]; omega
 |d :: r, k + 1, x, h => by
  have hk : k < r.length := by simpa using h
  have ih := bigV_set r k x hk
  simp only [List.set_cons_succ, bigV, List.getElem_cons_succ, Nat.pow_succ]
  generalize 4294967296 ^ k = B at *
  have e1 : B * 4294967296 * r[k] = 4294967296 * (B * r[k]) := by simp only [Nat.mul_assoc, Nat.mul_comm, Nat.mul_left_comm]
  have e2 : B * 4294967296 * x = 4294967296 * (B * x) := by simp only [Nat.mul_assoc, Nat.mul_comm, Nat.mul_left_comm]
  rw [e1, e2]
  omega
theorem u32Cells_set (R : List Nat) (k x : Nat) : (u32Cells R).set k (.int .u32 (x : Int)) = u32Cells (R.set k x) := by simp [u32Cells, List.map_set]
theorem bigOk_set {R : List Nat} {k x : Nat} (h : BigOk R) (hx : x < 4294967296) : BigOk (R.set k x) := fun d hd => by
 rcases List.mem_or_eq_of_mem_set hd with h1 | h1
 ·exact h d h1
 ·rw [h1]; exact hx
theorem BigO.set {w : World} {base g c : Nat} {R : List Nat} (h : BigO w base (.slice (some ⟨g, 0, none⟩) R.length c) R) (k x : Nat) : BigO (w.setCell ⟨g, k, none⟩ (.int .u32 (x : Int))) base (.slice (some ⟨g, 0, none⟩) (R.set k x).length c) (R.set k x) ∧ w.grownBy (w.setCell ⟨g, k, none⟩ (.int .u32 (x : Int))) (some g) := by
 obtain ⟨h1, h2⟩ := World.ownsRow.stored h.own k (.int .u32 (x : Int))
 rw [u32Cells_set] at h1
 refine ⟨?_, h2⟩
 unfold BigO
 rw [List.length_set]
 exact h1
structure ProdI (w wr : World) (xs ys R : List Nat) (c : Nat) (i j cy : Nat) : Prop where
 own : BigO wr w.heap.size (.slice (some ⟨w.heap.size, 0, none⟩) R.length c) R
 len : R.length = xs.length + ys.length
 ok : BigOk R
 zero : ∀ k (h : k < R.length), i + ys.length ≤ k → R[k] = 0
 lt : cy < 4294967296
 val : bigV R + 4294967296 ^ (i + j) * cy = bigV (xs.take i) * bigV ys + 4294967296 ^ i * (xs.getD i 0 * bigV (ys.take j))
 below : Below w.heap.size w wr
theorem ProdI.drewN {w wr : World} {xs ys R : List Nat} {c i j cy : Nat} (h : ProdI w wr xs ys R c i j cy) (n : Nat) : ProdI w (wr.drewN n) xs ys R c i j cy :=
 ⟨h.own, h.len, h.ok, h.zero, h.lt, h.val, Go.below_drewN h.below n⟩
theorem ProdI.cell {w wr : World} {xs ys R : List Nat} {c i j cy : Nat} (h : ProdI w wr xs ys R c i j cy) {k : Nat} (hk : k < R.length) : wr.cell? ⟨w.heap.size, k, none⟩ = some (.int .u32 (R[k] : Int)) := by
 rw [World.ownsRow.cellAt h.own.own k (by omega)]
 simp [u32Cells, hk]
theorem ProdI.frozen {w wr : World} {xs ys R : List Nat} {c i j cy : Nat} (h : ProdI w wr xs ys R c i j cy) (k : Nat) : wr.frozen? ⟨w.heap.size, k, none⟩ = false := World.ownsRow.frozenAt h.own.own k
theorem ProdI.step {w wr : World} {xs ys R : List Nat} {c i j cy : Nat} (h : ProdI w wr xs ys R c i j cy) (hi : i < xs.length) (hj : j < ys.length) {S : Nat} (hx : i + j < R.length) (hS : S = cy + (R[i + j] + xs[i] * ys[j])) (hS64 : S < 18446744073709551616) :
  ProdI w (wr.setCell ⟨w.heap.size, i + j, none⟩ (.int .u32 ((S % 4294967296 : Nat) : Int))) xs ys (R.set (i + j) (S % 4294967296)) c i (j + 1) (S / 4294967296) := by
 obtain ⟨o1, o2⟩ := h.own.set (i + j) (S % 4294967296)
 refine ⟨o1, by rw [List.length_set]; exact h.len, bigOk_set h.ok (by omega), fun k hk hik => ?_, by omega, ?_, h.below.grown o2 h.below.size (fun g hg => by injection hg with hg; omega)⟩
 ·rw [List.getElem_set]
  rw [if_neg (by omega)]
  exact h.zero k (by simpa using hk) hik
 ·have h1 := bigV_set R (i + j) (S % 4294967296) hx
  have h2 := h.val
  have hT : bigV (ys.take (j + 1)) = bigV (ys.take j) + 4294967296 ^ j * ys[j] := by
   rw [List.take_succ_eq_append_getElem hj, bigV_app, List.length_take, Nat.min_eq_left (by omega)]
   simp [bigV]
  have hg : xs.getD i 0 = xs[i] := by simp [List.getD, hi]
  rw [hg] at h2 ⊢
  rw [hT, Nat.mul_add, Nat.mul_add]
  have e0 : 4294967296 ^ i * (xs[i] * (4294967296 ^ j * ys[j])) = 4294967296 ^ (i + j) * (xs[i] * ys[j]) := by rw [Nat.pow_add]; simp only [Nat.mul_assoc, Nat.mul_comm, Nat.mul_left_comm]
  rw [e0, ← Nat.add_assoc i j 1, Nat.pow_succ]
  generalize 4294967296 ^ (i + j) = B at *
  have e1 : B * S = B * cy + B * R[i + j] + B * (xs[i] * ys[j]) := by rw [hS, Nat.mul_add, Nat.mul_add]; omega
  have e2 : B * S = B * (S % 4294967296) + B * 4294967296 * (S / 4294967296) := by
   rw [Nat.mul_assoc, ← Nat.mul_add, Nat.mod_add_div]
  omega
theorem ProdI.last {w wr : World} {xs ys R : List Nat} {c i cy : Nat} (h : ProdI w wr xs ys R c i ys.length cy) (hi : i < xs.length) :
  ProdI w (wr.setCell ⟨w.heap.size, i + ys.length, none⟩ (.int .u32 (cy : Int))) xs ys (R.set (i + ys.length) cy) c (i + 1) 0 0 := by
 obtain ⟨o1, o2⟩ := h.own.set (i + ys.length) cy
 have hx : i + ys.length < R.length := by rw [h.len]; omega
 refine ⟨o1, by rw [List.length_set]; exact h.len, bigOk_set h.ok h.lt, fun k hk hik => ?_, by omega, ?_, h.below.grown o2 h.below.size (fun g hg => by injection hg with hg; omega)⟩
 ·rw [List.getElem_set]
  rw [if_neg (by omega)]
  exact h.zero k (by simpa using hk) (by omega)
 ·have h1 := bigV_set R (i + ys.length) cy hx
  have hz := h.zero _ hx (Nat.le_refl _)
  rw [hz] at h1
  have h2 := h.val
  rw [List.take_length] at h2
  have hT : bigV (xs.take (i + 1)) = bigV (xs.take i) + 4294967296 ^ i * xs[i] := by
   rw [List.take_succ_eq_append_getElem hi, bigV_app, List.length_take, Nat.min_eq_left (by omega)]
   simp [bigV]
  have hg : xs.getD i 0 = xs[i] := by simp [List.getD, hi]
  rw [hg] at h2
  rw [hT]
  clear hT hg hz o1 o2 hx
  have e0 : bigV (List.take 0 ys) = 0 := rfl
  rw [e0]
  clear e0
  generalize 4294967296 ^ (i + 1 + 0) = P0
  generalize 4294967296 ^ (i + 1) = P1
  generalize 4294967296 ^ (i + ys.length) = P at h1 h2
  generalize 4294967296 ^ i = Q at h2 ⊢
  rw [Nat.mul_zero, Nat.mul_zero, Nat.mul_zero, Nat.add_zero, Nat.add_zero]
  rw [Nat.mul_zero, Nat.add_zero] at h1
  generalize bigV (R.set (i + ys.length) cy) = Z at h1 ⊢
  rw [h1, h2, Nat.add_mul, Nat.mul_assoc]
set_option maxRecDepth 100000 in
set_option maxHeartbeats 2000000 in
theorem r02_product (w : World) (va vb : Value) (xs ys : List Nat) (ha : BigR w va xs) (hb : BigR w vb ys) (hao : BigOk xs) (hbo : BigOk ys) (hla : xs.length ≤ 1099511627) (hlb : ys.length ≤ 1099511627) :
  Calls Tryz.prog 63 #[va, vb] w (BigPost w (bigV xs * bigV ys)) := by
 obtain ⟨ao, ca, rfl, hca⟩ := ha
 obtain ⟨bo, cb, rfl, hcb⟩ := hb
 have HCA := Lib.hid hca
 have HCB := Lib.hid hcb
 have HO := Lib.hid (And.intro hao hbo)
 clear hca hcb hao hbo
 obtain ⟨w1, hmk, ho1, hb1⟩ := run_make_zero w (xs.length + ys.length) (xs.length + ys.length) (Nat.le_refl _) (by omega)
 have hmk' : (Instr.makeSlice 89 (.int .i64 ((xs.length : Int) + (ys.length : Int))) (.int .i64 ((xs.length : Int) + (ys.length : Int)))).run Tryz.prog w = .ok (.slice (some ⟨w.heap.size, 0, none⟩) (xs.length + ys.length) (xs.length + ys.length)) w1 := hmk
 have hrl : (List.replicate (xs.length + ys.length) 0).length = xs.length + ys.length := List.length_replicate
 have HI0 := Lib.hid (show ProdI w w1 xs ys (List.replicate (xs.length + ys.length) 0) (xs.length + ys.length) 0 0 0 from
  ⟨by rw [hrl]; exact ho1, hrl, fun d hd => by have := (List.mem_replicate.1 hd).2; omega, fun k hk _ => by simp, by omega, by rw [bigV_zeros _ fun d hd => (List.mem_replicate.1 hd).2]; simp [bigV], hb1⟩)
 clear hmk ho1 hb1 hrl
 go_enter Tryz.func63, Tryz.ntmps63
 go_wp2_with fail
 go_loopw [6] (fun t6 wr => ∃ (i : Nat) (R : List Nat), Hid (i ≤ xs.length ∧ ProdI w wr xs ys R (xs.length + ys.length) i 0 0) ∧ t6 = .int .i64 (i : Int)) (fun t6 _ => xs.length - (intOf t6).toNat)
 case atStart => exact ⟨0, _, Lib.hid ⟨Nat.zero_le _, HI0.out⟩, rfl⟩
 case round =>
  obtain ⟨i, R0, hI, rfl⟩ := hrel
  have HI := Lib.hid hI.out.2
  by_cases hi : i < xs.length
  ·have p1 : ((i : Int) < (xs.length : Int)) = True := eq_true (by omega)
   obtain ⟨ga, oa, rfl, hga, hcla⟩ := HCA.out i hi
   obtain ⟨x, hx⟩ : ∃ x, x = xs[i] := ⟨_, rfl⟩
   have hxlt : x < 4294967296 := by rw [hx]; exact HO.out.1 _ (List.getElem_mem hi)
   rw [← hx] at hcla
   have HX := Lib.hid hx
   have HXC := Lib.hid hcla
   have bi : i ≤ 1099511627 := by omega
   have HIL := Lib.hid hi
   clear hx hcla hI
   go_wp2_with fail
   go_loopw [7, 8] (fun t7 t8 wr => ∃ (j cy : Nat) (R : List Nat), Hid (j ≤ ys.length ∧ ProdI w wr xs ys R (xs.length + ys.length) i j cy) ∧ t7 = .int .u64 (cy : Int) ∧ t8 = .int .i64 (j : Int)) (fun _ t8 _ => ys.length - (intOf t8).toNat)
   case atStart =>
    have h0 := HI.out
    exact ⟨0, 0, R0, Lib.hid ⟨Nat.zero_le _, h0⟩, rfl, rfl⟩
   case round =>
    obtain ⟨j, cy, R, hJ, rfl, rfl⟩ := hrel
    have HJ := Lib.hid hJ.out.2
    have hRl := HJ.out.len
    have hcy := HJ.out.lt
    by_cases hj : j < ys.length
    ·have p2 : ((j : Int) < (ys.length : Int)) = True := eq_true (by omega)
     obtain ⟨gb, ob, rfl, hgb, hclb⟩ := HCB.out j hj
     obtain ⟨y, hy⟩ : ∃ y, y = ys[j] := ⟨_, rfl⟩
     have hylt : y < 4294967296 := by rw [hy]; exact HO.out.2 _ (List.getElem_mem hj)
     rw [← hy] at hclb
     have hij : i + j < R.length := by omega
     obtain ⟨z, hz⟩ : ∃ z, z = R[i + j] := ⟨_, rfl⟩
     have hzlt : z < 4294967296 := by rw [hz]; exact HJ.out.ok _ (List.getElem_mem hij)
     have cR := HJ.out.cell hij
     rw [← hz] at cR
     have cX := (HJ.out.below.cell (p := ⟨ga, oa + i, none⟩) hga).trans HXC.out
     have cY := (HJ.out.below.cell (p := ⟨gb, ob + j, none⟩) hgb).trans hclb
     have fR := HJ.out.frozen (i + j)
     obtain ⟨P, hP⟩ : ∃ P, P = x * y := ⟨_, rfl⟩
     have hP2 : P ≤ 18446744065119617025 := by
      have : x * y ≤ 4294967295 * 4294967295 := Nat.mul_le_mul (by omega) (by omega)
      omega
     obtain ⟨Q, hQ⟩ : ∃ Q, Q = z + P := ⟨_, rfl⟩
     obtain ⟨S, hS⟩ : ∃ S, S = cy + Q := ⟨_, rfl⟩
     have hS64 : S < 18446744073709551616 := by omega
     have q1 : IntKind.u64.wrap ((x : Int) * (y : Int)) = (P : Int) := by rw [IntKind.wrap_u64, ← Int.natCast_mul, ← hP]; omega
     have q2 : IntKind.u64.wrap ((z : Int) + (P : Int)) = (Q : Int) := by rw [IntKind.wrap_u64]; omega
     have q3 : IntKind.u64.wrap ((cy : Int) + (Q : Int)) = (S : Int) := by rw [IntKind.wrap_u64]; omega
     obtain ⟨lo, hlo⟩ : ∃ lo, lo = S % 4294967296 := ⟨_, rfl⟩
     have q4 : IntKind.u32.wrap (S : Int) = (lo : Int) := by rw [IntKind.wrap_u32]; omega
     have hstep : ∀ n, ProdI w ((wr.drewN n).setCell ⟨w.heap.size, i + j, none⟩ (.int .u32 (lo : Int))) xs ys (R.set (i + j) lo) (xs.length + ys.length) i (j + 1) (S / 4294967296) := fun n => by
      rw [hlo]
      exact (HJ.out.drewN n).step HIL.out hj hij (S := S) (by rw [hS, hQ, hP, HX.out, hy, hz]) hS64
     have hdiv : (S : Int) / 4294967296 = ((S / 4294967296 : Nat) : Int) := by omega
     have HSTEP := Lib.hid hstep
     have HDIV := Lib.hid hdiv
     have bj : j ≤ 1099511627 := by omega
     have hij2 : i + j < xs.length + ys.length := by omega
     have HJL := Lib.hid hj
     clear hstep hdiv hz hy hP hQ hS hclb hlo hP2 hRl
     go_wp2_with fail
     go_quiet (fail)
     go_wp2_with fail
     exact ⟨⟨j + 1, S / 4294967296, R.set (i + j) lo, Lib.hid ⟨HJL.out, HSTEP.out nq⟩, (by apply vi'; exact HDIV.out), rfl⟩, meas_j HJL.out⟩
    ·have hje : j = ys.length := by have := hJ.out.1; omega
     have p2 : ((j : Int) < (ys.length : Int)) = False := eq_false (by omega)
     have hlast := HJ.out
     rw [hje] at hlast
     have hl2 := hlast.last HIL.out
     have hix : i + ys.length < R.length := by have := HIL.out; omega
     have cR := HJ.out.cell hix
     have fR := HJ.out.frozen (i + ys.length)
     have q4 : IntKind.u32.wrap (cy : Int) = (cy : Int) := by rw [IntKind.wrap_u32]; omega
     have q5 : (cy : Int) % 4294967296 = (cy : Int) := by omega
     have hix2 : i + ys.length < xs.length + ys.length := by have := HIL.out; omega
     have HL2 := Lib.hid hl2
     have HJE := Lib.hid hje
     generalize R[i + ys.length] = zz at cR
     clear hlast hl2 hRl hix
     rw [HJE.out] at p2 ⊢
     go_wp2_with fail
     exact ⟨⟨i + 1, _, Lib.hid ⟨HIL.out, HL2.out⟩, rfl⟩, meas_j HIL.out⟩
  ·have hie : i = xs.length := by have := hI.out.1; omega
   have p1 : ((i : Int) < (xs.length : Int)) = False := eq_false (by omega)
   have hfin := HI.out
   have hval : bigV R0 = bigV xs * bigV ys := by
    have h1 := hfin.val
    rw [hie, List.take_length, show bigV (List.take 0 ys) = 0 from rfl] at h1
    generalize 4294967296 ^ (xs.length + 0) = P1 at h1
    generalize 4294967296 ^ xs.length = P2 at h1
    rw [Nat.mul_zero, Nat.mul_zero, Nat.mul_zero, Nat.add_zero, Nat.add_zero] at h1
    exact h1
   have hOO := hfin.own
   have hlen := hfin.len
   rw [hlen] at hOO
   have HOO := Lib.hid hOO
   have HF := Lib.hid (And.intro hval (And.intro hfin.ok hfin.below))
   have hll : R0.length ≤ 1099511627776 := by omega
   clear hval hfin hOO hlen hI HI
   go_wp2_with fail
   refine (r02_trimmed_own _ w.heap.size _ _ HOO.out hll).mono ?_
   rintro e w3 ⟨⟨v3, fs, rfl, f1, f2, f3, f4⟩, rfl⟩
   have HR := Lib.hid (show (∃ v es, Ending.returned v3 = .returned v ∧ BigO w3 w.heap.size v es ∧ bigV es = bigV xs * bigV ys ∧ Norm es ∧ BigOk es) ∧ Below w.heap.size w w3 from ⟨⟨v3, fs, rfl, f1, f2.trans HF.out.1, f3, f4 HF.out.2.1⟩, HF.out.2.2⟩)
   clear f1 f2 f3 f4
   go_wp2_with fail
   go_ret
   exact HR.out
end Go.Proofs.YtpkeonafcldkhaaGreatDoor
