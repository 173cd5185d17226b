import Derived.Test.YtpkeonafcldkhaaGreatDoorQ20
import Derived.Test.YtpkeonafcldkhaaGreatDoorQ22
/- Part of the proof of YtpkeonafcldkhaaGreatDoorCardS CardV: RbB. -/
set_option linter.unusedVariables false
set_option linter.unusedSimpArgs false
namespace Go.Proofs.YtpkeonafcldkhaaGreatDoor
open Go.RowKit
theorem info_u32 : (Tryz.prog.info? 92).map (fun i => (i.zero, i.size, i.bytes)) = some (some (.int .u32 0), 1, 4) := by kernel_rfl
def BigPost (w : World) (V : Nat) (e : Ending) (w' : World) : Prop :=
 (∃ v es, e = .returned v ∧ BigO w' w.heap.size v es ∧ bigV es = V ∧ Norm es ∧ BigOk es) ∧ Below w.heap.size w w'
theorem bigO_push {w : World} {base : Nat} {v : Value} {es : List Nat} {x : Nat} (h : w.ownsRow base 92 1 v (es.length + 1) (u32Cells es ++ [.int .u32 (x : Int)])) : BigO w base v (es ++ [x]) := by
 unfold BigO
 rw [List.length_append]
 have : u32Cells (es ++ [x]) = u32Cells es ++ [.int .u32 (x : Int)] := by simp [u32Cells]
 rw [this]
 exact h
theorem mul_lt_u64 {d m c : Nat} (hd : d < 4294967296) (hm : m < 4294967296) (hc : c < 4294967296) : c + d * m < 18446744073709551616 := by
 have : d * m ≤ 4294967295 * 4294967295 := Nat.mul_le_mul (by omega) (by omega)
 omega
set_option maxRecDepth 100000 in
set_option maxHeartbeats 2000000 in
theorem r02_times (w : World) (v : Value) (ds : List Nat) (m c : Nat) (h : BigR w v ds) (hok : BigOk ds) (hn : ds.length ≤ 1099511627775) (hm : m < 4294967296) (hc : c < 4294967296) :
  Calls Tryz.prog 81 #[v, .int .u32 (m : Int), .int .u32 (c : Int)] w (BigPost w (bigV ds * m + c)) := by
 obtain ⟨ao, cap, rfl, hcell⟩ := h
 have HC := Lib.hid hcell
 have HOK := Lib.hid hok
 clear hcell hok
 obtain ⟨i0, hi0, hz0, hz1, hz2⟩ := info_parts info_u32
 obtain ⟨w1, hmk, hown, hgr⟩ := run_make_own (P := Tryz.prog) w w.heap.size 89 92 i0 _ 1 Tryz.underlying89 hi0 hz0 hz1 .i64 .i64 (ds.length + 1) (by rw [hz2]; omega) (by unfold maxLen; omega) (Nat.le_refl _)
 have hmk' : (Instr.makeSlice 89 (.int .i64 0) (.int .i64 ((ds.length : Int) + 1))).run Tryz.prog w = .ok (.slice (some ⟨w.heap.size, 0, none⟩) 0 (ds.length + 1)) w1 := hmk
 have HO1 := Lib.hid (show BigO w1 w.heap.size (.slice (some ⟨w.heap.size, 0, none⟩) 0 (ds.length + 1)) [] from hown)
 have HB1 := Lib.hid ((Below.refl w.heap.size w).grown hgr (Nat.le_refl _) (fun g hg => by cases hg))
 clear hmk hown hgr
 go_enter Tryz.func81, Tryz.ntmps81
 go_wp2_with fail
 go_loopw [7, 8, 9] (fun t7 t8 t9 wr => ∃ (k cy : Nat) (es : List Nat), Hid (k ≤ ds.length ∧ cy < 4294967296 ∧ es.length = k ∧ BigOk es ∧ bigV es + 4294967296 ^ k * cy = bigV (ds.take k) * m + c) ∧ t8 = .int .u64 (cy : Int) ∧ t9 = .int .i64 (k : Int) ∧ Hid (BigO wr w.heap.size t7 es ∧ Below w.heap.size w wr)) (fun _ _ t9 _ => ds.length - (intOf t9).toNat)
 case atStart => exact ⟨0, c, [], Lib.hid ⟨Nat.zero_le _, hc, rfl, (fun d hd => by cases hd), by simp [bigV]⟩, rfl, rfl, Lib.hid ⟨HO1.out, HB1.out⟩⟩
 case round =>
  obtain ⟨k, cy, es, hI, rfl, rfl, hB⟩ := hrel
  have hel := hI.out.2.2.1
  subst hel
  obtain ⟨rv, rc, hrv⟩ := own_form2 hB.out.1
  subst hrv
  have HO := Lib.hid hB.out.1
  have HB := Lib.hid hB.out.2
  have hcy := hI.out.2.1
  clear hB
  by_cases hk : es.length < ds.length
  ·have p1 : ((es.length : Int) < (ds.length : Int)) = True := eq_true (by omega)
   obtain ⟨g, o, rfl, hg, hcl⟩ := HC.out es.length hk
   have hcl2 := (HB.out.cell (p := ⟨g, o + es.length, none⟩) hg).trans hcl
   obtain ⟨d, hd⟩ : ∃ d, d = ds[es.length] := ⟨_, rfl⟩
   have hdlt : d < 4294967296 := by rw [hd]; exact HOK.out _ (List.getElem_mem hk)
   rw [← hd] at hcl2
   have hmul := mul_lt_u64 hdlt hm hcy
   obtain ⟨P, hP⟩ : ∃ P, P = d * m := ⟨_, rfl⟩
   obtain ⟨S, hS⟩ : ∃ S, S = cy + P := ⟨_, rfl⟩
   have q1 : IntKind.u64.wrap ((d : Int) * (m : Int)) = (P : Int) := by rw [IntKind.wrap_u64, ← Int.natCast_mul, ← hP]; omega
   have q2 : IntKind.u64.wrap ((cy : Int) + (P : Int)) = (S : Int) := by rw [IntKind.wrap_u64]; omega
   obtain ⟨lo, hlo⟩ : ∃ lo, lo = S % 4294967296 := ⟨_, rfl⟩
   obtain ⟨hi, hhi⟩ : ∃ hi, hi = S / 4294967296 := ⟨_, rfl⟩
   have q3 : IntKind.u32.wrap (S : Int) = (lo : Int) := by rw [IntKind.wrap_u32]; omega
   have HD := Lib.hid hd
   have HPS := Lib.hid (And.intro hP (And.intro hS (And.intro hlo (And.intro hhi hmul))))
   clear hcl hd hP hS hlo hhi
   go_wp2_with (at_builtin; refine wpList_push rfl (.tmp 32) (.tmp 35) 89 rfl w.heap.size 92 (.int .u32 0) 1 4 info_u32 Tryz.underlying89 rfl (by omega) _ _ _ rfl HO.out.own [.int .u32 (lo : Int)] rfl rfl (one1 rfl) (by unfold maxLen; omega) (by omega) HB.out.size ?_)
   intro v2 w2 hown2 hgr2
   have HB2 := Lib.hid (HB.out.grown hgr2 HB.out.size (fun g hg => (World.ownsRow.lt HO.out g hg).1))
   have HO2 := Lib.hid (bigO_push hown2)
   clear hown2 hgr2
   have hval : bigV (es ++ [lo]) + 4294967296 ^ (es.length + 1) * hi = bigV (ds.take (es.length + 1)) * m + c := by
    obtain ⟨h1, h2, h3, h4, _⟩ := HPS.out
    have hv := hI.out.2.2.2.2
    have hT : bigV (ds.take (es.length + 1)) = bigV (ds.take es.length) + 4294967296 ^ es.length * d := by
     rw [List.take_succ_eq_append_getElem hk, bigV_app, HD.out, List.length_take, Nat.min_eq_left (by omega)]
     simp [bigV]
    have hS2 : S = lo + 4294967296 * hi := by omega
    rw [bigV_app, hT, Nat.pow_succ, Nat.add_mul]
    simp only [bigV, Nat.mul_zero, Nat.add_zero]
    generalize 4294967296 ^ es.length = B at *
    have e1 : B * lo + B * 4294967296 * hi = B * S := by rw [hS2, Nat.mul_add, Nat.mul_assoc]
    have e2 : B * S = B * cy + B * d * m := by rw [h2, h1, Nat.mul_add, Nat.mul_assoc]
    omega
   have hbok : BigOk (es ++ [lo]) := fun x hx => by
    rcases List.mem_append.1 hx with hx | hx
    ·exact hI.out.2.2.2.1 x hx
    ·obtain rfl := List.mem_singleton.1 hx
     have := HPS.out.2.2.1; omega
   have hhi : hi < 4294967296 ∧ hi = S / 4294967296 := ⟨by have := HPS.out; omega, HPS.out.2.2.2.1⟩
   have HF := Lib.hid (And.intro hval (And.intro hbok hhi))
   clear hval hbok hhi
   go_wp2_with fail
   refine ⟨⟨es.length + 1, hi, es ++ [lo], Lib.hid ⟨hk, HF.out.2.2.1, by simp, HF.out.2.1, HF.out.1⟩, ?_, rfl, Lib.hid ⟨HO2.out, HB2.out⟩⟩, meas_j hk⟩
   have := HF.out.2.2.2
   apply vi'
   omega
  ·have hke : es.length = ds.length := by have := hI.out.1; omega
   have p1 : ((es.length : Int) < (ds.length : Int)) = False := eq_false (by omega)
   have q3 : IntKind.u32.wrap (cy : Int) = (cy : Int) := by rw [IntKind.wrap_u32]; omega
   have bl : es.length ≤ 1099511627775 := by omega
   have HKE := Lib.hid hke
   clear hke
   go_wp2_with (at_builtin; refine wpList_push rfl (.tmp 39) (.tmp 42) 89 rfl w.heap.size 92 (.int .u32 0) 1 4 info_u32 Tryz.underlying89 rfl (by omega) _ _ _ rfl HO.out.own [.int .u32 (cy : Int)] rfl rfl (one1 rfl) (by unfold maxLen; omega) (by omega) HB.out.size ?_)
   intro v2 w2 hown2 hgr2
   have HB2 := Lib.hid (HB.out.grown hgr2 HB.out.size (fun g hg => (World.ownsRow.lt HO.out g hg).1))
   have HO2 := Lib.hid (bigO_push hown2)
   clear hown2 hgr2
   have hval : bigV (es ++ [cy]) = bigV ds * m + c := by
    have hv := hI.out.2.2.2.2
    rw [HKE.out, List.take_length] at hv
    rw [bigV_app, HKE.out]
    simp only [bigV, Nat.mul_zero, Nat.add_zero]
    exact hv
   have hbok : BigOk (es ++ [cy]) := fun x hx => by
    rcases List.mem_append.1 hx with hx | hx
    ·exact hI.out.2.2.2.1 x hx
    ·obtain rfl := List.mem_singleton.1 hx
     exact hcy
   have hll : (es ++ [cy]).length ≤ 1099511627776 := by simp only [List.length_append, List.length_cons, List.length_nil]; omega
   have HF := Lib.hid (And.intro hval hbok)
   clear hval hbok
   go_wp2_with fail
   refine (r02_trimmed_own _ w.heap.size _ _ HO2.out hll).mono ?_
   rintro e w3 ⟨⟨v3, fs, rfl, f1, f2, f3, f4⟩, rfl⟩
   have HR := Lib.hid (show (∃ v es, Ending.returned v3 = .returned v ∧ BigO w3 w.heap.size v es ∧ bigV es = bigV ds * m + c ∧ Norm es ∧ BigOk es) ∧ Below w.heap.size w w3 from ⟨⟨v3, fs, rfl, f1, f2.trans HF.out.1, f3, f4 HF.out.2⟩, HB2.out⟩)
   clear f1 f2 f3 f4
   go_wp2_with fail
   go_ret
   exact HR.out
end Go.Proofs.YtpkeonafcldkhaaGreatDoor
