import Derived.Test.YtibcjfjacielbaaGreatDoorG28
import Derived.Test.YtibcjfjacielbaaGreatDoorG37
import Derived.Test.YtibcjfjacielbaaGreatDoorG32
import Derived.Test.YtibcjfjacielbaaGreatDoorG33
import Derived.Test.YtibcjfjacielbaaGreatDoorG34
import Derived.Test.YtibcjfjacielbaaGreatDoorG35
import Derived.Test.YtibcjfjacielbaaGreatDoorG36
/- Part of the proof of YtibcjfjacielbaaGreatDoorCardG: TrZh TrYb TsZ TgR TgA TgK. -/
set_option linter.unusedVariables false
set_option linter.unusedSimpArgs false
namespace Go.Proofs.YtibcjfjacielbaaGreatDoor
open Go.RowKit
def KidAt (B : Nat) (d : Nat) (t5 : Value) (W : World) (v : Value) (L : List (Nat × PR)) : Prop := ∃ lo w1, TreeAt lo w1 d v L ∧ B ≤ lo ∧ Agree lo w1 W ∧ Off lo w1 t5
theorem KidAt.tree {B d : Nat} {t5 : Value} {W : World} {v : Value} {L : List (Nat × PR)} (h : KidAt B d t5 W v L) : TreeAt B W d v L := by
 obtain ⟨lo, w1, h1, h2, h3, _⟩ := h
 exact (h1.agree h3).lo h2
theorem KidAt.below {B d : Nat} {t5 : Value} {W W' : World} {v : Value} {L : List (Nat × PR)} (h : KidAt B d t5 W v L) (hb : Below W.heap.size W W') : KidAt B d t5 W' v L := by
 obtain ⟨lo, w1, h1, h2, h3, h4⟩ := h
 exact ⟨lo, w1, h1, h2, h3.below hb, h4⟩
theorem KidAt.push {B d : Nat} {t5 t6 : Value} {W W' : World} {v : Value} {L : List (Nat × PR)} (h : KidAt B d t5 W v L) (hg : W.grownBy W' t5.ownBlock) (ht : SameBlk t5 t6 ∨ (t6.ownBlock = some (W.heap.size + 1) ∧ W.grownBy W' none)) : KidAt B d t6 W' v L := by
 obtain ⟨lo, w1, h1, h2, h3, h4⟩ := h
 refine ⟨lo, w1, h1, h2, h3.grow hg h4, fun q hq => ?_⟩
 rcases ht with ⟨g, n, m, cap, e1, e2⟩ | ⟨e1, _⟩
 ·subst e1 e2
  exact h4 q (by simpa [Value.ownBlock] using hq)
 ·rw [e1] at hq
  injection hq with hq
  have := h3.1
  omega
structure KidsI (B : Nat) (w0 w : World) (d : Nat) (x' y : List PR) (n i : Nat) (A : Array Value) (t0 t5 : Value) (W : World) : Prop where
 le : i ≤ n
 box : Blk W w.heap.size 58 A
 ks : ∃ (ks : List Value) (segs : Nat → List (Nat × PR)) (c rem : List PR), ks.length = i ∧ x' = c ++ rem ∧ trees (n - i) rem = true ∧ ((List.range i).flatMap segs).map (·.2) = c ∧
  W.ownsRow w.heap.size 24 1 t5 i ks ∧ (∀ j (h : j < ks.length), KidAt B (d + 1) t5 W ks[j] (segs j)) ∧ RowsC w0 t0 (rem ++ y) ∧ ∀ v ∈ ks, ∃ t x, v = .iface t x
 below : Below w.heap.size w W
theorem segs_ext {α : Type} (segs : Nat → List α) (i : Nat) (L : List α) : ((List.range (i + 1)).flatMap fun j => if j = i then L else segs j) = (List.range i).flatMap segs ++ L := by
 rw [flat_range_succ]
 have h1 : ∀ n, n ≤ i → (List.range n).flatMap (fun j => if j = i then L else segs j) = (List.range n).flatMap segs := by
  intro n
  induction n with
  |zero => intro _; rfl
  |succ n ih =>
   intro h
   rw [flat_range_succ, flat_range_succ, ih (by omega), if_neg (by omega)]
 rw [h1 i (Nat.le_refl _), if_pos rfl]
theorem exp_own {b : Nat} {w : World} {v : Value} {ks : List Value} (h : w.ownsRow b 24 1 v ks.length ks) : ExpS b w v ks := by
 rcases h.2 with ⟨hv, hn⟩ | ⟨g, cap, cur, hv, hb, _⟩
 ·refine ⟨none, 0, by rw [hv, hn], fun j hj => absurd hj (by omega)⟩
 ·subst hv
  refine ⟨_, _, rfl, fun j hj => ⟨g, 0, rfl, hb, (World.ownsRow.lt h g rfl).2, ?_⟩⟩
  rw [Nat.zero_add, World.ownsRow.cellAt h j (by omega), List.getElem?_eq_getElem hj]
theorem info_exp : (Tryz.prog.info? 24).map (fun i => (i.zero, i.size, i.bytes)) = some (some .nilIface, 1, 16) := by kernel_rfl
set_option maxRecDepth 100000 in
set_option maxHeartbeats 1500000 in
theorem tree_built : ∀ (m B : Nat) (w0 : World) (x y : List PR) (w : World) (d : Nat) (v : Value), x.length ≤ m → B ≤ w.heap.size → Below w0.heap.size w0 w → RowsC w0 v (x ++ y) → trees 1 x = true → (∀ r ∈ x, soundRow r = true ∧ LenOK r) → rangesB (x ++ y) = true → (x ++ y).length ≤ 1099511627776 →
    Calls Tryz.prog 65 #[v] w (BuiltPost B w0 w d x y)
  | 0, B, w0, x, y, w, d, v, hm, _, _, _, ht, _, _, _ => by
    obtain ⟨r, x', rfl, _⟩ := trees_pos ht
    simp at hm
  | m + 1, B, w0, x, y, w, d, v, hm, hB, hw0, hrows, ht, hsound, hrg, hlen => by
    obtain ⟨r, x', rfl, ht'⟩ := trees_pos ht
    rw [Nat.add_zero] at ht'
    by_cases h40 : r.kind = 4
    · have hs0 := hsound r (by simp)
      have hnk1 : nk r = 1 := by
        have h1 := (sound_parts hs0.1).1
        rw [h40] at h1
        simp [kidsB] at h1
        unfold nk; omega
      rw [hnk1] at ht'
      obtain ⟨q, x2, rfl, htq⟩ := trees_pos ht'
      have hq3 : q.kind = 3 := by
        rw [List.cons_append, rangesB, h40] at hrg
        simp [nextSel] at hrg
        exact hrg.1
      have hs1 := hsound q (by simp)
      have hqn : nk q = 0 := by
        have h1 := (sound_parts hs1.1).1
        rw [hq3] at h1
        simp [kidsB] at h1
        unfold nk; omega
      rw [hqn] at htq
      have hx2 : x2 = [] := trees_zero.1 htq
      subst hx2
      exact built_range hB hw0 hrows hs0.1 h40 hq3 hs1.1 hs1.2 (by simp at hlen; omega)
    have H40 := Lib.hid h40
    clear h40
    obtain ⟨ao, c, rfl, hle⟩ := hrows.2
    have hrc := hrows
    obtain ⟨_, _, hv, hc⟩ := (hrows.below hw0).1
    injection hv with e1 e2 e3
    subst e1 e3
    obtain ⟨g, o, rfl, _, hg, vm, vo, vi, vl, hls, hcs⟩ := hc 0 (by simp)
    simp only [List.cons_append, List.getElem_cons_zero, Nat.zero_mul, Nat.add_zero] at hls hcs
    obtain ⟨⟨am, cm, rfl, _⟩, ⟨ao2, co, rfl, _⟩, ⟨ai, ci, rfl, _⟩, ⟨al, cl, rfl, _⟩⟩ := id hls
    obtain ⟨nm, hnm⟩ : ∃ n, n = r.ms.length := ⟨_, rfl⟩
    obtain ⟨no, hno⟩ : ∃ n, n = r.mls.length := ⟨_, rfl⟩
    obtain ⟨ni, hni⟩ : ∃ n, n = r.inc.length := ⟨_, rfl⟩
    obtain ⟨nl, hnl⟩ : ∃ n, n = r.labels.length := ⟨_, rfl⟩
    rw [← hnm, ← hno, ← hni, ← hnl] at hls hcs
    obtain ⟨hsr, hlr⟩ := hsound r (by simp)
    have hkn := sound_nk hsr
    have IH : Hid (∀ (B : Nat) (w0 : World) (x y : List PR) (w : World) (d : Nat) (v : Value), x.length ≤ m → B ≤ w.heap.size → Below w0.heap.size w0 w → RowsC w0 v (x ++ y) → trees 1 x = true → (∀ r ∈ x, soundRow r = true ∧ LenOK r) → rangesB (x ++ y) = true → (x ++ y).length ≤ 1099511627776 → Calls Tryz.prog 65 #[v] w (BuiltPost B w0 w d x y)) := Lib.hid (tree_built m)
    have c0 : w.cell? ⟨g, o, none⟩ = some (.int .i64 r.kind) := hcs 0 (by omega)
    have c1 : w.cell? ⟨g, o + 1, none⟩ = some (.int .i64 r.kids) := hcs 1 (by omega)
    have c2 : w.cell? ⟨g, o + 2, none⟩ = some (.string r.op) := hcs 2 (by omega)
    have c3 : w.cell? ⟨g, o + 3, none⟩ = some (.string r.text) := hcs 3 (by omega)
    have c4 : w.cell? ⟨g, o + 4, none⟩ = some (.slice am nm cm) := hcs 4 (by omega)
    have c5 : w.cell? ⟨g, o + 5, none⟩ = some (.string r.dur) := hcs 5 (by omega)
    have c6 : w.cell? ⟨g, o + 6, none⟩ = some (.string r.step) := hcs 6 (by omega)
    have c7 : w.cell? ⟨g, o + 7, none⟩ = some (.string r.off) := hcs 7 (by omega)
    have c8 : w.cell? ⟨g, o + 8, none⟩ = some (.string r.tim) := hcs 8 (by omega)
    have c9 : w.cell? ⟨g, o + 9, none⟩ = some (.bool r.bool) := hcs 9 (by omega)
    have c10 : w.cell? ⟨g, o + 10, none⟩ = some (.bool r.given) := hcs 10 (by omega)
    have c11 : w.cell? ⟨g, o + 11, none⟩ = some (.bool r.on) := hcs 11 (by omega)
    have c12 : w.cell? ⟨g, o + 12, none⟩ = some (.slice ao2 no co) := hcs 12 (by omega)
    have c13 : w.cell? ⟨g, o + 13, none⟩ = some (.int .i64 r.card) := hcs 13 (by omega)
    have c14 : w.cell? ⟨g, o + 14, none⟩ = some (.slice ai ni ci) := hcs 14 (by omega)
    have c15 : w.cell? ⟨g, o + 15, none⟩ = some (.bool r.without) := hcs 15 (by omega)
    have c16 : w.cell? ⟨g, o + 16, none⟩ = some (.slice al nl cl) := hcs 16 (by omega)
    have HLS := Lib.hid hls
    have HRC := Lib.hid hrc
    have HSO := Lib.hid hsound
    have HKN := Lib.hid hkn
    have HN4 := Lib.hid (And.intro hnm (And.intro hno (And.intro hni hnl)))
    clear hcs hc hrows hrc hsound hkn hnm hno hni hnl
    obtain ⟨L, hL⟩ : ∃ L, L = (x' ++ y).length := ⟨_, rfl⟩
    have hLn : (r :: x' ++ y).length = L + 1 := by rw [hL]; simp
    rw [hLn] at hlen hle HRC ⊢
    have HL := Lib.hid hL
    clear hL hLn
    go_enter Tryz.func65, Tryz.ntmps65
    go_upto_region 2 with (refine wpList_store_blk rfl 58 (.tmp 4) (.tmp 9) rfl w.heap.size _ rfl rfl (Blk.new _ _ _) info_row rfl rfl ?_)
    intro W' hz hgr
    go_upto_region 2 with (fail)
    have hb1 : Below w.heap.size w W' := below_grow ((Below.refl w.heap.size w).alloc (Nat.le_refl _) _) hgr (by simp) (Nat.le_refl _)
    have HZ := Lib.hid hz
    have HB1 := Lib.hid hb1
    have HR1 := HRC
    clear hz hgr hb1 c0 c1 c2 c3 c4 c5 c6 c7 c8 c9 c10 c11 c12 c13 c14 c15 c16
    go_cut [0] from 10 to 11 (fun t0 wx => wx = W' ∧ Hid (RowsC w0 t0 (x' ++ y)))
    case first =>
      by_cases hc1 : c = 1
      · subst hc1
        have HT : Hid (RowsC w0 (.slice (some ⟨g, o, none⟩) 0 0) (x' ++ y)) := Lib.hid (by
          have h0 : x' ++ y = [] := List.length_eq_zero_iff.1 (by rw [← HL.out]; omega)
          rw [h0]; exact RowsC.none_)
        obtain rfl : L = 0 := by omega
        go_wp2_with fail
        go_meet
        exact ⟨rfl, HT⟩
      · have HT : Hid (RowsC w0 (.slice (some ⟨g, o + 17, none⟩) L (c - 1)) (x' ++ y)) := Lib.hid (by
          have := HR1.out.tail (l := x' ++ y)
          rw [← HL.out] at this
          exact this)
        have q1 : ((c : Int) = 1) = False := eq_false (by omega)
        have q2 : (c = 1) = False := eq_false hc1
        go_wp2_with fail
        go_meet
        exact ⟨rfl, HT⟩
    case rest =>
      obtain ⟨rfl, hT0⟩ := hcut
      obtain ⟨a0, k0, hv0, _⟩ := hT0.out.2
      subst hv0
      rw [← HL.out] at hT0 ⊢
      have z0 : wc.cell? ⟨w.heap.size, 0, none⟩ = some (.int .i64 r.kind) := HZ.out.cell 0
      have z1 : wc.cell? ⟨w.heap.size, 1, none⟩ = some (.int .i64 (nk r : Int)) := (HZ.out.cell 1).trans (by rw [← HKN.out]; rfl)
      have hnkl : nk r ≤ 1099511627776 := by
        have h1 := trees_le x' (nk r) ht'
        have h2 := HL.out
        rw [List.length_append] at h2
        omega
      have HTR := Lib.hid ht'
      have HRG := Lib.hid hrg
      have HLL := Lib.hid hls
      have HM := Lib.hid (show x'.length ≤ m by simp at hm; omega)
      clear ht ht' hrg hls hm
      by_cases h4 : r.kind = 4
      · exact absurd h4 H40.out
      · have q4 : (r.kind == 4) = false := by simpa using h4
        have H4 := Lib.hid h4
        clear h4
        go_wp2_with fail
        go_loopw [0, 5, 28] (fun t0 t5 t28 wx => ∃ i : Nat, t28 = .int .i64 (i : Int) ∧ Hid (KidsI B w0 w d x' y (nk r) i (rowA r (.slice am nm cm) (.slice ao2 no co) (.slice ai ni ci) (.slice al nl cl)) t0 t5 wx)) (fun _ _ t28 _ => nk r - (intOf t28).toNat)
        case atStart => exact ⟨0, rfl, Lib.hid ⟨Nat.zero_le _, HZ.out, ⟨[], fun _ => [], [], x', rfl, rfl, HTR.out, rfl, World.ownsRow_nil _ _ _ _, (fun j h => absurd h (by simp)), hT0.out, (fun v h => by cases h)⟩, HB1.out⟩⟩
        case round =>
          obtain ⟨i, rfl, hI⟩ := hrel
          obtain ⟨ks, segs, cc, rem, hkl, hxc, htr, hmap, hown, htree, hrows, hif⟩ := hI.out.ks
          obtain ⟨a6, c6, hv6, hle6⟩ := hrows.2
          subst hv6
          obtain ⟨n6, hn6⟩ : ∃ n, n = (rem ++ y).length := ⟨_, rfl⟩
          rw [← hn6] at hrows hle6 hI ⊢
          have HN6 := Lib.hid hn6
          clear hn6
          by_cases hlt : i < nk r
          · have p1 : ((i : Int) < (nk r : Int)) = True := eq_true (by omega)
            obtain ⟨a, rem2, hra, hta, htb⟩ := trees_split rem 1 (nk r - i - 1) (by rw [show 1 + (nk r - i - 1) = nk r - i by omega]; exact htr)
            have hsub : ∀ q ∈ a, q ∈ x' := fun q hq => by rw [hxc, hra]; simp [hq]
            have hal : a.length ≤ m := by
              have h1 := HM.out
              rw [hxc, hra] at h1
              simp at h1; omega
            have hll : (a ++ (rem2 ++ y)).length ≤ 1099511627776 := by
              have h2 := HL.out
              rw [hxc, hra] at h2
              simp at h2 ⊢; omega
            have hrga : rangesB (a ++ (rem2 ++ y)) = true := by
              refine rangesB_suffix (r :: cc) _ ?_
              have h3 := HRG.out
              rw [hxc, hra] at h3
              simpa [List.append_assoc] using h3
            have hrows2 : RowsC w0 (.slice a6 n6 c6) (a ++ (rem2 ++ y)) := by rw [← List.append_assoc, ← hra]; exact hrows
            have HCALL := Lib.hid (IH.out wr.heap.size w0 a (rem2 ++ y) wr (d + 1) _ hal (Nat.le_refl _) (hw0.trans (hI.out.below.mono hw0.size)) hrows2 hta (fun q hq => HSO.out q (List.mem_cons_of_mem _ (hsub q hq))) hrga hll)
            have hBw : B ≤ wr.heap.size := Nat.le_trans hB hI.out.below.size
            have HK := Lib.hid (And.intro hkl (And.intro hxc (And.intro hra (And.intro htb (And.intro hmap (And.intro hta hif))))))
            have HTREE := Lib.hid htree
            have HOWN := Lib.hid hown
            have hil : i ≤ 1099511627776 := by omega
            clear hkl hxc htr hmap hown htree hrows hif hra hta htb hsub hal hll hrga hrows2 hle6
            go_wp2_with fail
            (with_reducible refine HCALL.out.mono ?_)
            rintro e W2 ⟨nv, sv, rfl, htn, hrn, hb2⟩
            obtain ⟨tt, gg, rfl⟩ := htn.iface
            obtain ⟨a7, c7, hv7, _⟩ := hrn.2
            subst hv7
            obtain ⟨n7, hn7⟩ : ∃ n, n = (rem2 ++ y).length := ⟨_, rfl⟩
            rw [← hn7] at hrn ⊢
            have HN7 := Lib.hid hn7
            clear hn7
            have HOWN2 : Hid (W2.ownsRow w.heap.size 24 1 u5 i ks) := Lib.hid (own_belowE HOWN.out hb2)
            have hks : ks.length = i := HK.out.1
            have HTN := Lib.hid htn
            have HRN := Lib.hid hrn
            have HB2 := Lib.hid hb2
            clear htn hrn hb2
            go_wp2_with ((at_builtin; refine wpList_push2 rfl (.tmp 35) (.tmp 37) 160 rfl w.heap.size 24 .nilIface 1 16 info_exp Tryz.underlying160 rfl (by decide) _ _ _ rfl HOWN2.out [.iface tt (.pointer (some ⟨gg, 0, none⟩))] rfl rfl (one1 rfl) (by unfold maxLen; omega) (by omega) (Nat.le_trans hI.out.below.size HB2.out.size) ?_))
            intro v3 W3 hown3 hgr3 htwo
            have HNEW : Hid (KidsI B w0 w d x' y (nk r) (i + 1) (rowA r (.slice am nm cm) (.slice ao2 no co) (.slice ai ni ci) (.slice al nl cl)) (.slice a7 n7 c7) v3 W3) := Lib.hid (by
              obtain ⟨_, hxc, hra, htb, hmap, hta, hif⟩ := HK.out
              refine ⟨hlt, (hI.out.box.below HB2.out hI.out.box.lt).grown hgr3 (own_blk_ne HOWN2.out (hI.out.box.below HB2.out hI.out.box.lt) (by decide)).symm, ⟨ks ++ [.iface tt (.pointer (some ⟨gg, 0, none⟩))], fun j => if j = i then annot (d + 1) a else segs j, cc ++ a, rem2, by simp [hks], by rw [hxc, hra, List.append_assoc], by rw [show nk r - (i + 1) = nk r - i - 1 by omega]; exact htb, ?_, hown3, ?_, by rw [← HN7.out] at *; exact HRN.out, ?_⟩, ?_⟩
              · rw [segs_ext, List.map_append, annot_rows hta, hmap]
              · intro j hj
                show KidAt B (d + 1) v3 W3 _ (if j = i then annot (d + 1) a else segs j)
                by_cases hji : j = i
                · subst hji
                  rw [if_pos rfl, List.getElem_append_right (by omega)]
                  simp only [hks, Nat.sub_self, List.getElem_cons_zero]
                  refine KidAt.push (t5 := u5) ⟨wr.heap.size, W2, HTN.out, hBw, Agree.refl _ _, fun q hq => .inl (HOWN.out.lt q hq).2⟩ hgr3 htwo
                · have hj2 : j < ks.length := by simp at hj; omega
                  rw [if_neg hji, List.getElem_append_left hj2]
                  exact ((HTREE.out j hj2).below HB2.out).push hgr3 htwo
              · intro q hq
                rcases List.mem_append.1 hq with hq | hq
                · exact hif q hq
                · rw [List.mem_singleton.1 hq]; exact ⟨_, _, rfl⟩
              · exact (hI.out.below.trans (HB2.out.mono hI.out.below.size)).grown hgr3 (Nat.le_trans hI.out.below.size HB2.out.size) (fun q hq => (HOWN2.out.lt q hq).1))
            obtain ⟨a8, m8, c8, hv8⟩ := own_sl hown3
            subst hv8
            clear hown3 hgr3 htwo hks
            go_wp2_with fail
            exact ⟨⟨i + 1, by go_num, HNEW⟩, by simp [intOf]; omega⟩
          · have hie : i = nk r := by have := hI.out.le; omega
            have p1 : ((i : Int) < (nk r : Int)) = False := eq_false (by omega)
            have hrem : rem = [] := trees_zero.1 (by rw [show nk r - i = 0 by omega] at htr; exact htr)
            have hBw : B ≤ wr.heap.size := Nat.le_trans hB hI.out.below.size
            have hexp : ExpS B wr u5 ks := exp_own (by rw [hkl]; exact own_mono hown hB)
            have HND := Lib.hid (tree_node hBw (HLL.out.below hI.out.below) hlr hsr H4.out hexp (by rw [hkl, hie]) hif)
            have HBX := Lib.hid hI.out.box
            have HFIN : Hid (∀ v W2, NodeAt B W2 v r ks → Below wr.heap.size wr W2 → BuiltPost B w0 w d (r :: x') y (.returned (.tuple #[v, .slice a6 n6 c6])) W2) := Lib.hid fun v W2 hn hb => by
              have hT := TreeAt.mk d v r ks segs hn fun j hj => ((htree j hj).tree).later hb
              have hm2 : ((List.range ks.length).flatMap segs).map (·.2) = x' := by rw [hkl, hmap, hxc, hrem, List.append_nil]
              have hA := hT.annot
              rw [List.map_cons, hm2] at hA
              rw [hA] at hT
              exact ⟨v, _, rfl, hT, by rw [hrem] at hrows; exact hrows, hI.out.below.trans (hb.mono hI.out.below.size)⟩
            obtain ⟨a8, m8, c8, hv8⟩ := own_sl hown
            subst hv8
            clear hkl hxc htr hmap hown htree hrows hif hexp hrem hie hle6
            go_wp2_with (first | (refine wpList_load_blk rfl 58 (.tmp 4) rfl w.heap.size rfl HBX.out Tryz.underlying58 info_row ?_) | (go_at_call 123; refine HND.out.mono ?_; rintro e W2 ⟨v, rfl, hn, hb⟩; have HF := Lib.hid (HFIN.out v W2 hn hb); obtain ⟨tv, gv, hvv⟩ := hn.iface; subst hvv; clear hn hb))
            go_ret2
            exact HF.out
theorem matchB_row (r : PR) : matchingB r = matchB r.given r.on r.mls r.card r.inc := rfl
theorem tree_sound {T : Nat → World → Prop} (hT : NumT (fun _ => True) T) : SoundC T := by
 intro w r m o i l h hr hTw
 obtain ⟨⟨am, cm, rfl, _⟩, ⟨ao, co, rfl, _⟩, ⟨ai, ci, rfl, _⟩, ⟨al, cl, rfl, _⟩⟩ := id h
 cases hk : kidsB r.kind r.kids with
 |false =>
  have e : soundRow r = false := by unfold soundRow; rw [hk]; rfl
  rw [e]
  exact sound_kids w r _ _ _ _ _ _ _ _ _ _ _ _ h hr.len hk
 |true =>
  have h9 := kidsB_kind hk
  have hu := unused_iff h9
  cases hu1 : unusedB r with
  |false =>
   have e : soundRow r = false := by unfold soundRow; rw [hk, hu1]; rfl
   rw [e]
   exact sound_unused w r _ _ _ _ _ _ _ _ _ _ _ _ h hr.len hk fun e2 => by rw [hu.2 e2] at hu1; cases hu1
  |true =>
   have hu2 := hu.1 hu1
   unfold soundRow
   rw [hk, hu1, Bool.true_and, Bool.true_and]
   unfold kind9 at h9
   rcases h9 with k | k | k | k | k | k | k | k | k
   ·rw [if_pos k]; exact sound_1 w r _ _ _ _ _ _ _ _ _ _ _ _ h hr.len hT hTw hr k hk hu2
   ·rw [if_neg (by omega), if_pos k]; exact sound_2 w r _ _ _ _ _ _ _ _ _ _ _ _ h hr.len hT hTw hr k hk hu2
   ·rw [if_neg (by omega), if_neg (by omega), if_pos k]; exact sound_3 w r _ _ _ _ _ _ _ _ _ _ _ _ h hr.len hT hTw hr k hk hu2
   ·rw [if_neg (by omega), if_neg (by omega), if_neg (by omega), if_pos k]; exact sound_4 w r _ _ _ _ _ _ _ _ _ _ _ _ h hr.len hT hTw hr k hk hu2
   ·rw [if_neg (by omega), if_neg (by omega), if_neg (by omega), if_neg (by omega), if_pos k]; exact sound_5 w r _ _ _ _ _ _ _ _ _ _ _ _ h hr.len hT hTw hr k hk hu2
   ·rw [if_neg (by omega), if_neg (by omega), if_neg (by omega), if_neg (by omega), if_neg (by omega), if_pos k]; exact sound_6 w r _ _ _ _ _ _ _ _ _ _ _ _ h hr.len hT hTw hr k hk hu2
   ·rw [if_neg (by omega), if_neg (by omega), if_neg (by omega), if_neg (by omega), if_neg (by omega), if_neg (by omega), if_pos k, matchB_row]; exact sound_7 w r _ _ _ _ _ _ _ _ _ _ _ _ h hr.len hT hTw hr k hk hu2
   ·rw [if_neg (by omega), if_neg (by omega), if_neg (by omega), if_neg (by omega), if_neg (by omega), if_neg (by omega), if_neg (by omega), if_pos k]; exact sound_8 w r _ _ _ _ _ _ _ _ _ _ _ _ h hr.len hT hTw hr k hk hu2
   ·rw [if_neg (by omega), if_neg (by omega), if_neg (by omega), if_neg (by omega), if_neg (by omega), if_neg (by omega), if_neg (by omega), if_neg (by omega)]; exact sound_9 w r _ _ _ _ _ _ _ _ _ _ _ _ h hr.len hT hTw hr k hk hu2
def treeOf (rs : List PR) : List (Nat × PR) := if buildErr rs = 0 then annot 1 rs else []
theorem agree_set (w : World) (p : Addr) (u : Value) : Agree (p.block + 1) w (w.setCell p u) := ⟨by simp, fun k hk _ => Below.heap_setCell w p u k (by omega)⟩
def BuildPost (w : World) (rs : List PR) (e : Ending) (w' : World) : Prop :=
 ∃ v, e = .returned (.tuple #[.agg #[v], .int .i64 (buildErr rs : Nat)]) ∧ RootAt w.heap.size w' v (treeOf rs) ∧ Below w.heap.size w w'
theorem BuildPost.none_ {w w' : World} {rs : List PR} {n : Nat} (h : buildErr rs = n) (hn : n ≠ 0) (hb : Below w.heap.size w w') : BuildPost w rs (.returned (.tuple #[.agg #[.nilIface], .int .i64 (n : Nat)])) w' :=
 ⟨.nilIface, by rw [h], .inl ⟨rfl, by unfold treeOf; rw [h, if_neg hn]⟩, hb⟩
theorem RootAt.lo {b b' : Nat} {w : World} {v : Value} {L : List (Nat × PR)} (h : RootAt b w v L) (hb : b' ≤ b) : RootAt b' w v L := h.elim .inl fun h => .inr (h.lo hb)
set_option maxRecDepth 100000 in
theorem tree_Build {T : Nat → World → Prop} (hT : NumT (fun _ => True) T) {w : World} {v : Value} {rs : List PR} (h : RowsC w v rs) (hlen : rs.length ≤ 1048576) (hsm : ∀ r ∈ rs, SmallR r) (hTw : T w.heap.size w) :
  Calls Tryz.prog 21 #[v] w (BuildPost w rs) := by
 have HS : Hid (∀ W, Below w.heap.size w W → Calls Tryz.prog 64 #[v] W (ShapedPost W rs)) := Lib.hid fun W hb => tree_shaped hT (tree_sound hT) (h.1.below hb) hlen hsm (hT.mono (hT.keep hTw hb) hb.size)
 have HB : Hid (∀ W, Below w.heap.size w W → w.heap.size + 1 ≤ W.heap.size → shapeB rs = true → Calls Tryz.prog 65 #[v] W (BuiltPost (w.heap.size + 1) w W 1 rs [])) := Lib.hid fun W hb hl hs => by
  obtain ⟨h1, h2, h3⟩ := shape_parts hs
  exact tree_built rs.length _ w rs [] W 1 v (Nat.le_refl _) hl hb (by rw [List.append_nil]; exact h) h1 (fun r hr => ⟨List.all_eq_true.1 h2 r hr, (hsm r hr).len⟩) (by rw [List.append_nil]; exact h3) (by rw [List.append_nil]; omega)
 have hb0 : Below w.heap.size w (w.alloc (.cells #[.nilIface] 26)) := (Below.refl _ w).alloc (Nat.le_refl _) _
 have HB0 := Lib.hid hb0
 have HZ0 := Lib.hid (Blk.new w 26 #[.nilIface])
 clear h hsm hTw hb0
 go_enter Tryz.func21, Tryz.ntmps21
 go_wp2_with fail
 refine (HS.out _ HB0.out).mono ?_
 rintro e w1 ⟨d, ok, rfl, hok, hd, hb1⟩
 have HB1 := Lib.hid (HB0.out.trans (hb1.mono HB0.out.size))
 have hz := HZ0.out.below hb1 HZ0.out.lt
 have HZ1 := Lib.hid hz
 have c0 := hz.cell 0
 have f0 := hz.frozen 0
 simp at c0
 have s0 := hz.lt
 clear hz hb1
 cases ok with
 |false =>
  have HP : Hid (∀ W, Below w.heap.size w W → BuildPost w rs (.returned (.tuple #[.agg #[.nilIface], .int .i64 (120 : Nat)])) W) := Lib.hid fun W hb => BuildPost.none_ (by unfold buildErr; rw [← hok]; rfl) (by decide) hb
  clear hok hd
  go_wp2_with fail
  refine bodyPost_ret (v := .tuple #[.agg #[.nilIface], .int .i64 (120 : Nat)]) ?_ rfl (HP.out _ ?_)
  ·simp [results, Tryz.results21, go_sem, c0]
  ·exact HB1.out.setCell (p := ⟨w.heap.size, 0, none⟩) (Nat.le_refl _) _
 |true =>
  have hsh := hok.symm
  obtain rfl := hd rfl
  have hdp := shape_parts hsh
  by_cases hdeep : 128 < deepOf rs
  ·have p1 : ((128 : Int) < (deepOf rs : Int)) = True := eq_true (by omega)
   have HP : Hid (∀ W, Below w.heap.size w W → BuildPost w rs (.returned (.tuple #[.agg #[.nilIface], .int .i64 (3 : Nat)])) W) := Lib.hid fun W hb => BuildPost.none_ (build_deep hsh hdeep) (by decide) hb
   clear hok hd hsh hdp hdeep
   go_wp2_with fail
   refine bodyPost_ret (v := .tuple #[.agg #[.nilIface], .int .i64 (3 : Nat)]) ?_ rfl (HP.out _ ?_)
   ·simp [results, Tryz.results21, go_sem, c0]
   ·exact HB1.out.setCell (p := ⟨w.heap.size, 0, none⟩) (Nat.le_refl _) _
  ·have p1 : ((128 : Int) < (deepOf rs : Int)) = False := eq_false (by omega)
   have HSH := Lib.hid hsh
   have he : buildErr rs = 0 := build_ok.2 ⟨hsh, by omega⟩
   have HE := Lib.hid he
   clear hok hd hsh hdp hdeep he
   go_wp2_with fail
   refine (HB.out _ HB1.out HZ1.out.lt HSH.out).mono ?_
   rintro e w2 ⟨nv, sv, rfl, htree, _, hb2⟩
   obtain ⟨tt, gg, rfl⟩ := htree.iface
   have hz := HZ1.out.below hb2 HZ1.out.lt
   have c1 := hz.cell 0
   have f1 := hz.frozen 0
   simp at c1
   have s1 := hz.lt
   have HB2 := Lib.hid (HB1.out.trans (hb2.mono HB1.out.size))
   have HTR := Lib.hid htree
   clear hz hb2 htree
   go_wp2_with fail
   have HF : Hid (BuildPost w rs (.returned (.tuple #[.agg #[.iface tt (.pointer (some ⟨gg, 0, none⟩))], .int .i64 (0 : Nat)])) (w2.setCell ⟨w.heap.size, 0, none⟩ (.iface tt (.pointer (some ⟨gg, 0, none⟩))))) := Lib.hid ⟨_, by rw [HE.out], .inr (by
    rw [treeOf, if_pos HE.out]
    exact (HTR.out.agree (agree_set w2 ⟨w.heap.size, 0, none⟩ (.iface tt (.pointer (some ⟨gg, 0, none⟩))))).lo (Nat.le_succ _)), HB2.out.setCell (p := ⟨w.heap.size, 0, none⟩) (Nat.le_refl _) _⟩
   refine bodyPost_ret (v := .tuple #[.agg #[.iface tt (.pointer (some ⟨gg, 0, none⟩))], .int .i64 (0 : Nat)]) ?_ rfl HF.out
   simp [results, Tryz.results21, go_sem, c1]
structure RV where
 r : PR
 m : Value
 o : Value
 i : Value
 l : Value
def rvC (x : RV) : List Value := rowCs x.r x.m x.o x.i x.l
theorem rvC_len (x : RV) : (rvC x).length = 17 := rfl
def RvLs (w : World) (xs : List RV) : Prop := ∀ x ∈ xs, RowLs 0 w x.r x.m x.o x.i x.l
theorem RvLs.below {w w' : World} {xs : List RV} (h : RvLs w xs) (hb : Below w.heap.size w w') : RvLs w' xs := fun x hx => (h x hx).below hb
theorem RvLs.app {w : World} {xs ys : List RV} (h : RvLs w xs) (k : RvLs w ys) : RvLs w (xs ++ ys) := fun x hx => (List.mem_append.1 hx).elim (h x) (k x)
theorem rv_one {xs : List RV} (h : ∀ x ∈ xs, ∀ u ∈ rvC x, u.oneCell' = true) : ∀ u ∈ xs.flatMap rvC, u.oneCell' = true := by
 intro u hu
 obtain ⟨x, hx, hu⟩ := List.mem_flatMap.1 hu
 exact h x hx u hu
theorem rowLs_one {b : Nat} {w : World} {r : PR} {m o i l : Value} (h : RowLs b w r m o i l) : ∀ u ∈ rowCs r m o i l, u.oneCell' = true := by
 obtain ⟨⟨_, _, rfl, _⟩, ⟨_, _, rfl, _⟩, ⟨_, _, rfl, _⟩, ⟨_, _, rfl, _⟩⟩ := h
 intro u hu
 simp only [rowCs, List.mem_cons, List.not_mem_nil, or_false] at hu
 rcases hu with rfl | rfl | rfl | rfl | rfl | rfl | rfl | rfl | rfl | rfl | rfl | rfl | rfl | rfl | rfl | rfl | rfl <;> rfl
theorem RowsC.rv {w : World} {v : Value} {rs : List PR} (h : RowsC w v rs) (hne : rs ≠ []) : ∃ (g o c : Nat) (xs : List RV), v = .slice (some ⟨g, o, none⟩) rs.length c ∧ rs.length ≤ c ∧ g < w.heap.size ∧ xs.map (·.r) = rs ∧ RvLs w xs ∧ ∀ j u, (xs.flatMap rvC)[j]? = some u → w.cell? ((⟨g, o, none⟩ : Addr).add j) = some u := by
 obtain ⟨⟨ao, c', hv, hc⟩, ao2, c, hv2, hle⟩ := h
 subst hv2
 injection hv with e1 e2 e3
 subst e1 e3
 have h0 : 0 < rs.length := List.length_pos_iff.2 hne
 obtain ⟨g, o, rfl, _, hg, _⟩ := hc 0 h0
 have hex : ∀ j : Fin rs.length, ∃ x : RV, x.r = rs[j] ∧ RowLs 0 w x.r x.m x.o x.i x.l ∧ ∀ k, k < 17 → w.cell? ⟨g, o + j.1 * 17 + k, none⟩ = (rvC x)[k]? := fun j => by
  obtain ⟨g', o', he, _, _, vm, vo, vi, vl, h1, h2⟩ := hc j.1 j.2
  cases he
  refine ⟨⟨rs[j], vm, vo, vi, vl⟩, rfl, h1, fun k hk => ?_⟩
  rw [h2 k hk]
  exact (List.getElem?_eq_getElem _).symm
 let f : Fin rs.length → RV := fun j => (hex j).choose
 have hf : ∀ j, _ := fun j => (hex j).choose_spec
 have hl : (List.ofFn f).length = rs.length := List.length_ofFn
 refine ⟨g, o, c, List.ofFn f, rfl, hle, hg, ?_, ?_, ?_⟩
 ·apply List.ext_getElem (by simp)
  intro n h1 h2
  simp only [List.getElem_map, List.getElem_ofFn]
  exact (hf ⟨n, h2⟩).1
 ·intro x hx
  obtain ⟨j, rfl⟩ := List.mem_ofFn.1 hx
  exact (hf j).2.1
 ·intro j u hu
  rw [Addr.add_lit]
  refine flat_cells rvC 17 rvC_len (by decide) (List.ofFn f) w g o (fun j hj i hi => ?_) j u hu
  have hj' : j < rs.length := by rw [hl] at hj; exact hj
  have := (hf ⟨j, hj'⟩).2.2 i hi
  simp only [List.getElem_ofFn]
  exact this
theorem RowsC.of_own {b : Nat} {w : World} {e : TypeId} {v : Value} {xs : List RV} (h : w.ownsRow b e 17 v xs.length (xs.flatMap rvC)) (hl : RvLs w xs) : RowsC w v (xs.map (·.r)) := by
 obtain ⟨ao, c, h1, h2⟩ := own_flat rvC 17 rvC_len xs h
 have hcap : ∃ c2, v = .slice ao xs.length c2 ∧ xs.length ≤ c2 := by
  rcases h.2 with ⟨hv, hn⟩ | ⟨g, cap, cur, hv, _, _, hc, _⟩
  ·rw [h1] at hv
   injection hv with e1 e2 e3
   exact ⟨0, by rw [h1, e3], by omega⟩
  ·rw [h1] at hv
   injection hv with e1 e2 e3
   exact ⟨c, h1, by omega⟩
 obtain ⟨c2, hv2, hle⟩ := hcap
 refine ⟨⟨ao, c2, by rw [hv2, List.length_map], fun j hj => ?_⟩, ao, c2, by rw [hv2, List.length_map], by rw [List.length_map]; exact hle⟩
 have hj' : j < xs.length := by simpa using hj
 obtain ⟨g, o, a, lb, u, x⟩ := h2 j hj'
 have e : (xs.map (·.r))[j] = xs[j].r := by simp
 rw [e]
 refine ⟨g, o, a, Nat.zero_le _, u, xs[j].m, xs[j].o, xs[j].i, xs[j].l, hl _ (List.getElem_mem hj'), fun k hk => ?_⟩
 rw [x k hk]
 exact List.getElem?_eq_getElem _
theorem treeOf_ok {rs : List PR} (h : buildErr rs = 0) : treeOf rs = annot 1 rs := by unfold treeOf; rw [if_pos h]
theorem deepL_tree {rs : List PR} (h : buildErr rs = 0) : deepL (treeOf rs) = deepOf rs := by
 rw [treeOf_ok h]
 unfold deepL deepOf
 rw [annot_depths (shape_parts (build_ok.1 h).1).1]
theorem rows_tree {rs : List PR} (h : buildErr rs = 0) : (treeOf rs).map (·.2) = rs := by
 rw [treeOf_ok h, annot_rows (shape_parts (build_ok.1 h).1).1]
theorem len_tree {rs : List PR} (h : buildErr rs = 0) : (treeOf rs).length = rs.length := by
 have := congrArg List.length (rows_tree h)
 rwa [List.length_map] at this
theorem mem_tree {rs : List PR} (h : buildErr rs = 0) {x : Nat × PR} (hx : x ∈ treeOf rs) : x.2 ∈ rs := by
 rw [← rows_tree h]
 exact List.mem_map.2 ⟨x, hx, rfl⟩
theorem smallR_bare {k n card : Int} {op text : ByteArray} {b1 b2 b3 b4 : Bool} (h1 : op.size ≤ 1048576) (h2 : text.size ≤ 1048576) : SmallR ⟨k, n, op, text, [], ⟨#[]⟩, ⟨#[]⟩, ⟨#[]⟩, ⟨#[]⟩, b1, b2, b3, [], card, [], b4, []⟩ := by
 have h0 : ByteArray.size ⟨#[]⟩ ≤ 1048576 := by decide
 exact ⟨h1, h2, h0, h0, h0, h0, by simp, by simp, by simp, by simp, by simp, by simp, by simp, by simp⟩
theorem small_small : ∀ r ∈ smallL, SmallR r := by
 intro r hr
 simp only [smallL, List.mem_cons, List.not_mem_nil, or_false] at hr
 rcases hr with rfl | rfl | rfl
 ·exact smallR_bare (by decide) (by decide)
 ·exact smallR_bare (by decide) (by decide)
 ·exact smallR_bare (by decide) (by decide)
def nilS : Value := .slice none 0 0
theorem rowLs_bare {b : Nat} {w : World} {r : PR} (h1 : r.ms = []) (h2 : r.mls = []) (h3 : r.inc = []) (h4 : r.labels = []) : RowLs b w r nilS nilS nilS nilS := by
 unfold RowLs
 rw [h1, h2, h3, h4]
 exact ⟨matS_none b w, strS_none b w, strS_none b w, strS_none b w⟩
def rvBare (r : PR) : RV := ⟨r, nilS, nilS, nilS, nilS⟩
def RowsPost12 (w : World) (e : Ending) (w' : World) : Prop := ∃ v, e = .returned v ∧ RowsC w' v smallL ∧ Below w.heap.size w w'
set_option maxRecDepth 100000 in
theorem law12_small (w : World) : Calls Tryz.prog 62 #[] w (RowsPost12 w) := by
 have HF : Hid (∀ cs : Array Value, cs = ([rvBare small0, rvBare small1, rvBare small2].flatMap rvC).toArray → RowsPost12 w (.returned (.slice (some ⟨w.heap.size, 0, none⟩) 3 3)) (w.alloc (.cells cs 58))) := Lib.hid fun cs hcs => by
  subst hcs
  have ho := World.ownsRow_lit (base := w.heap.size) (e := 58) (size := 17) w ([rvBare small0, rvBare small1, rvBare small2].flatMap rvC).toArray 3 (Nat.le_refl _) (by decide) (by rfl)
  refine ⟨_, rfl, RowsC.of_own (b := w.heap.size) (e := 58) (xs := [rvBare small0, rvBare small1, rvBare small2]) (by simpa using ho) ?_, (Below.refl _ w).alloc (Nat.le_refl _) _⟩
  intro x hx
  simp only [List.mem_cons, List.not_mem_nil, or_false] at hx
  rcases hx with rfl | rfl | rfl
  ·exact rowLs_bare rfl rfl rfl rfl
  ·exact rowLs_bare rfl rfl rfl rfl
  ·exact rowLs_bare rfl rfl rfl rfl
 go_enter Tryz.func62, Tryz.ntmps62
 go_wp2_with fail
 go_ret
 exact HF.out _ rfl
theorem box_tree {B : Nat} {w w1 : World} (hb : Below B w w1) (hB : B ≤ w1.heap.size) (v : Value) : Below B w (w1.alloc (.cells #[v] 26)) ∧ Blk (w1.alloc (.cells #[v] 26)) w1.heap.size 26 #[v] ∧ Below w1.heap.size w1 (w1.alloc (.cells #[v] 26)) :=
 ⟨hb.alloc hB _, Blk.new _ _ _, (Below.refl _ w1).alloc (Nat.le_refl _) _⟩
theorem RootAt.some_ {b : Nat} {w : World} {v : Value} {rs : List PR} (h : RootAt b w v (treeOf rs)) (he : buildErr rs = 0) : ∃ t g, v = .iface t (.pointer (some ⟨g, 0, none⟩)) := by
 rcases h with ⟨_, h⟩ | h
 ·have := len_tree he
  rw [h] at this
  obtain ⟨r, t, rfl, _⟩ := trees_pos (shape_parts (build_ok.1 he).1).1
  simp at this
 ·exact h.iface
theorem RootAt.nil_ {b : Nat} {w : World} {v : Value} {rs : List PR} (h : RootAt b w v (treeOf rs)) (he : buildErr rs ≠ 0) : v = .nilIface := by
 rcases h with ⟨h, _⟩ | h
 ·exact h
 ·unfold treeOf at h
  rw [if_neg he] at h
  cases h
set_option maxRecDepth 100000 in
set_option maxHeartbeats 1000000 in
theorem law12_awake {T : Nat → World → Prop} (hT : NumT (fun _ => True) T) (w : World) (hTw : T w.heap.size w) : Calls Tryz.prog 19 #[] w (BoolPost w true) := by
 have HBU : Hid (∀ W v, Below w.heap.size w W → RowsC W v smallL → Calls Tryz.prog 21 #[v] W (BuildPost W smallL)) := Lib.hid fun W v hb h => tree_Build hT h (by decide) small_small (hT.mono (hT.keep hTw hb) hb.size)
 clear hTw
 go_enter Tryz.func19, Tryz.ntmps19
 go_wp2_with fail
 refine (law12_small w).mono ?_
 rintro e w1 ⟨v, rfl, hr, hb1⟩
 have HR := Lib.hid hr
 have HB1 := Lib.hid hb1
 clear hr hb1
 go_wp2_with fail
 refine (HBU.out _ _ HB1.out HR.out).mono ?_
 rintro e w2 ⟨vx, rfl, hx, hb2⟩
 obtain ⟨t, g, rfl⟩ := hx.some_ small_build
 have hbb := HB1.out.trans (hb2.mono HB1.out.size)
 obtain ⟨k1, k2, k3⟩ := box_tree hbb hbb.size (.iface t (.pointer (some ⟨g, 0, none⟩)))
 have HX := Lib.hid ((hx.lo (Nat.zero_le _)).below k3)
 obtain ⟨W3, hW3⟩ : ∃ W3, W3 = w2.alloc (.cells #[.iface t (.pointer (some ⟨g, 0, none⟩))] 26) := ⟨_, rfl⟩
 rw [← hW3] at k1 k2 HX
 rw [small_build]
 have HW3 := Lib.hid hW3
 have HK1 := Lib.hid k1
 have HK2 := Lib.hid k2
 have c0 := k2.cell 0
 simp at c0
 have l0 := k2.lt
 have HD : Hid (∀ W, Below W3.heap.size W3 W → Calls Tryz.prog 26 #[.agg #[.iface t (.pointer (some ⟨g, 0, none⟩))]] W (IntPost W 2)) := Lib.hid fun W h => by
  have := tree_Depth (HX.out.below h) (by rw [len_tree small_build]; decide)
  rw [deepL_tree small_build, small_deep] at this
  exact this
 have HN : Hid (∀ W, Below W3.heap.size W3 W → Calls Tryz.prog 27 #[.agg #[.iface t (.pointer (some ⟨g, 0, none⟩))]] W (IntPost W 3)) := Lib.hid fun W h => by
  have := tree_Nodes (HX.out.below h) (by rw [len_tree small_build]; decide)
  rw [len_tree small_build] at this
  exact this
 clear hx hb2 hbb k1 k2 k3 hW3
 go_upto_region 2 with (fail)
 rw [← HW3.out]
 go_wp2_with (first | (go_at_call 26; (with_reducible refine (HD.out _ (Below.refl _ _)).mono ?_); rintro e W4 ⟨rfl, hb4⟩; have d0 : W4.cell? ⟨w2.heap.size, 0, none⟩ = some (.iface t (.pointer (some ⟨g, 0, none⟩))) := (hb4.cell (p := ⟨w2.heap.size, 0, none⟩) l0).trans (HK2.out.cell 0); have HB4 := Lib.hid hb4; clear hb4) | (go_at_call 27; (with_reducible refine (HN.out _ HB4.out).mono ?_); rintro e W5 ⟨rfl, hb5⟩; have HB5 := Lib.hid (HK1.out.trans ((HB4.out.trans (hb5.mono HB4.out.size)).mono HK1.out.size)); clear hb5))
 go_ret
 exact ⟨rfl, HB5.out⟩
theorem run_append_zero {P : Program} {w : World} (base : Nat) (t ty e : TypeId) (i : TypeInfo) (size : Nat) (ht : P.underlying t = some (.slice e)) (hi : P.info? e = some i)
  (v : Value) (n c : Nat) (ao : Option Addr) (xs : List Value) (hown : w.ownsRow base e size v n xs) :
  (Builtin.append_ #[t, t] ty #[v, .slice ao 0 c]).run P w = .ok v w := by
 rcases hown.2 with ⟨rfl, rfl⟩ | ⟨g, cap, cur, rfl, _, _, hnc, _⟩
 ·cases ao <;> simp [Builtin.append_, run_underlying ht, sizeOf, typeInfo, hi, Builtin.lenOf, Builtin.firstCells, loadCells, loadCellsFrom]
 ·cases ao <;> simp [Builtin.append_, run_underlying ht, sizeOf, typeInfo, hi, Builtin.lenOf, Builtin.firstCells, hnc, storeCells, loadCells, loadCellsFrom]
def GoneOn (w w' : World) (v v' : Value) : Prop := SameBlk v v' ∨ (v'.ownBlock = some w.heap.size ∧ w.grownBy w' none) ∨ (v' = v ∧ w' = w)
theorem run_append_src2 {P : Program} (w : World) (base : Nat) (t ty e : TypeId) (z : Value) (size bytes : Nat) (hinfo : (P.info? e).map (fun i => (i.zero, i.size, i.bytes)) = some (some z, size, bytes)) (ht : P.underlying t = some (.slice e))
  (hzs : z.cells.size = size) (hsz : 0 < size) (v : Value) (n : Nat) (xs : List Value) (hown : w.ownsRow base e size v n xs) (u : Value) (m : Nat) (news : List Value) (hsrc : SrcV size w u m news)
  (hmax : n + m ≤ maxLen) (hb : (n + m) * bytes ≤ 140737488355328) (hbase : base ≤ w.heap.size) :
  ∃ v' w', (Builtin.append_ #[t, t] ty #[v, u]).run P w = .ok v' w' ∧ w'.ownsRow base e size v' (n + m) (xs ++ news) ∧ w.grownBy w' v.ownBlock ∧ GoneOn w w' v v' := by
 obtain ⟨i, hi, hz, hsi, hby⟩ := info_parts hinfo
 obtain ⟨ao, c, rfl, hl, h1, h2⟩ := hsrc
 rcases Nat.eq_zero_or_pos m with rfl | hm
 ·have h0 : news = [] := List.length_eq_zero_iff.1 (by simpa using hl)
  subst h0
  exact ⟨v, w, run_append_zero base t ty e i size ht hi v n c ao xs hown, by simpa using hown, ⟨rfl, rfl, rfl, Nat.le_refl _, fun _ _ _ => rfl⟩, .inr (.inr ⟨rfl, rfl⟩)⟩
 ·rcases h2 with ⟨_, h0⟩ | ⟨ad, rfl, hc⟩
  ·omega
  ·obtain ⟨v', w', hr, ho, hg, ht2⟩ := run_append_two (P := P) w base t ty e i z size bytes ht hi hz hsi hby hzs hsz v n xs hown ad m c news hl hc h1 hmax hb hbase hm
   exact ⟨v', w', hr, ho, hg, ht2.elim .inl fun h => .inr (.inl h)⟩
theorem step_append_src2 {P : Program} {w : World} {ops : Array Oper} {o : Oper} {a : Act} {K : Act → World → Prop} {Q : Exit → Act → World → Prop} {E : Prop}
  (hg : o.guard = none) (s x : Operand) (t : TypeId) (hop : o.op = Op.call { callee := Callee.builtin Builtin.append, args := #[s, x], argTypes := #[t, t] })
  (base : Nat) (e : TypeId) (z : Value) (size bytes : Nat) (hinfo : (P.info? e).map (fun i => (i.zero, i.size, i.bytes)) = some (some z, size, bytes)) (h1 : P.underlying t = some (.slice e)) (hzs : z.cells.size = size) (hsz : 0 < size)
  (v : Value) (n : Nat) (xs : List Value) (hs : a.eval s = v) (hown : w.ownsRow base e size v n xs) (u : Value) (m : Nat) (news : List Value) (hx : a.eval x = u) (hsrc : SrcV size w u m news)
  (hmax : n + m ≤ maxLen) (hb : (n + m) * bytes ≤ 140737488355328) (hbase : base ≤ w.heap.size)
  (hK : ∀ v' w', w'.ownsRow base e size v' (n + m) (xs ++ news) → w.grownBy w' v.ownBlock → GoneOn w w' v v' → K (a.put o.dst v') w') :
  if Region.wanted o (yielded ops a.tmps) = true then Oper.wp P o a w K Q else E := by
 have hw : Region.wanted o (yielded ops a.tmps) = true := by simp [Region.wanted, hg]
 rw [if_pos hw]
 obtain ⟨v', w', hr, r1, r2, r3⟩ := run_append_src2 (P := P) w base t o.type e z size bytes hinfo h1 hzs hsz v n xs hown u m news hsrc hmax hb hbase
 unfold Oper.wp execOp
 simp only [hop, resolve, invoke, builtin, Sem.run_bind, Sem.run_pure, Result.andThen_ok, List.map_toArray, List.map_cons, List.map_nil, hs, hx, hr]
 exact hK v' w' r1 r2 r3
theorem MatK.to {B B' : Nat} {t5 t6 : Value} {W : World} {v : Value} {ms : List PM} (h : MatK B t5 W v ms) (hB : B' ≤ B) (h6 : ∀ q, t6.ownBlock = some q → q < B ∨ W.heap.size ≤ q) : MatK B' t6 W v ms := by
 obtain ⟨lo, w1, h1, h2, h3, _⟩ := h
 refine ⟨lo, w1, h1, Nat.le_trans hB h2, h3, fun q hq => ?_⟩
 have h4 := h3.1
 rcases h6 q hq with h | h <;> omega
theorem MatK.gone {B : Nat} {t5 t6 : Value} {W W' : World} {v : Value} {ms : List PM} (h : MatK B t5 W v ms) (hg : W.grownBy W' t5.ownBlock) (ht : GoneOn W W' t5 t6) : MatK B t6 W' v ms := by
 rcases ht with ht | ht | ⟨rfl, rfl⟩
 ·exact h.push hg (.inl ht)
 ·obtain ⟨lo, w1, h1, h2, h3, h4⟩ := h
  refine ⟨lo, w1, h1, h2, h3.grow hg h4, fun q hq => ?_⟩
  rw [ht.1] at hq
  injection hq with hq
  have := h3.1
  omega
 ·exact h
theorem sel_one {zs : List (SelR × Value)} (h : ∀ z ∈ zs, z.2.oneCell' = true) : ∀ u ∈ zs.flatMap selC, u.oneCell' = true := by
 intro u hu
 obtain ⟨z, hz, hu⟩ := List.mem_flatMap.1 hu
 simp only [selC, List.mem_cons, List.not_mem_nil, or_false] at hu
 rcases hu with rfl | rfl | rfl | rfl
 ·rfl
 ·exact h z hz
 ·rfl
 ·rfl
theorem MatS.one {b : Nat} {w : World} {v : Value} {ms : List PM} (h : MatS b w v ms) : v.oneCell' = true := by
 obtain ⟨_, _, rfl, _⟩ := h
 rfl
structure SelJ (B : Nat) (W : World) (v : Value) (zs : List (SelR × Value)) : Prop where
 own : W.ownsRow B 36 4 v zs.length (zs.flatMap selC)
 mats : ∀ z ∈ zs, MatK B v W z.2 z.1.ms
theorem SelJ.below {B : Nat} {W W' : World} {v : Value} {zs : List (SelR × Value)} (h : SelJ B W v zs) (hb : Below W.heap.size W W') : SelJ B W' v zs := ⟨own_belowE h.own hb, fun z hz => (h.mats z hz).below hb⟩
theorem SelJ.join {B : Nat} {W W' : World} {v v' : Value} {zs ys : List (SelR × Value)} (h : SelJ B W v zs) (hy : ∀ z ∈ ys, MatK B v W z.2 z.1.ms)
  (ho : W'.ownsRow B 36 4 v' (zs.length + ys.length) (zs.flatMap selC ++ ys.flatMap selC)) (hg : W.grownBy W' v.ownBlock) (ht : GoneOn W W' v v') : SelJ B W' v' (zs ++ ys) := by
 refine ⟨by rw [List.flatMap_append, List.length_append]; exact ho, fun z hz => ?_⟩
 rcases List.mem_append.1 hz with hz | hz
 ·exact (h.mats z hz).gone hg ht
 ·exact (hy z hz).gone hg ht
theorem selJ_made (w : World) (B : Nat) (hB : B ≤ w.heap.size) : SelJ B (w.alloc (.cells #[] 36)) (.slice (some ⟨w.heap.size, 0, none⟩) 0 0) [] := by
 have := World.ownsRow_made (size := 4) (base := B) (e := 36) w #[] 0 hB (Nat.zero_le _) (by simp)
 exact ⟨by simpa using this, fun z hz => by cases hz⟩
theorem sels_src {b : Nat} {w : World} {v : Value} {zs : List (SelR × Value)} {B : Nat} (h : w.ownsRow b 36 4 v zs.length (zs.flatMap selC)) (hm : ∀ z ∈ zs, MatK B v w z.2 z.1.ms) : SrcV 4 w v zs.length (zs.flatMap selC) :=
 own_srcV h (sel_one fun z hz => (hm z hz).mat.one)
theorem SelJ.sel {B : Nat} {W : World} {v : Value} {zs : List (SelR × Value)} (h : SelJ B W v zs) : SelS W v (zs.map (·.1)) := SelS.of_own h.own fun z hz => ((h.mats z hz).mat).lo (Nat.zero_le _)
end Go.Proofs.YtibcjfjacielbaaGreatDoor
