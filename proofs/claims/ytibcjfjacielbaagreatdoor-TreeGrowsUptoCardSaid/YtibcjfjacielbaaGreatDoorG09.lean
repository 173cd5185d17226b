import Derived.Test.YtibcjfjacielbaaGreatDoorG07
import Derived.RegionTactic
import Derived.ChangeAlike
import Derived.BigRegion
/- Part of the proof of YtibcjfjacielbaaGreatDoorCardG: TrHf TrHg. -/
set_option linter.unusedVariables false
set_option linter.unusedSimpArgs false
namespace Go.Proofs.YtibcjfjacielbaaGreatDoor
open Go.RowKit
set_option maxRecDepth 100000 in
set_option maxHeartbeats 1000000 in
theorem rowOf_subquery {b : Nat} {w : World} (g : Nat) (hb : b ≤ g) (hg : g < w.heap.size) (d s off tim : ByteArray) (t : TypeId) (x : Value) (c0 : w.cell? ⟨g, 0, none⟩ = some (.iface t x)) (c1 : w.cell? ⟨g, 1, none⟩ = some (.string d)) (c2 : w.cell? ⟨g, 2, none⟩ = some (.string s)) (c3 : w.cell? ⟨g, 3, none⟩ = some (.string off)) (c4 : w.cell? ⟨g, 4, none⟩ = some (.string tim)) :
  Calls Tryz.prog 60 #[.iface 173 (.pointer (some ⟨g, 0, none⟩))] w (RowPost w { zr 5 1 with dur := d, step := s, off := off, tim := tim }) := by
 have hm := methSubquery
 have a1 := asNumber
 have a2 := asText
 have a3 := asSelector
 have a4 := asRange
 have a5 := asSubquery
 have HN : Hid (∀ W, Below w.heap.size w W → Calls Tryz.prog 103 #[.iface 173 (.pointer (some ⟨g, 0, none⟩))] W (KidsPost w W [.iface t x])) := Lib.hid fun W hB => tree_kidsOf (NodeAt.subquery (b := b) g hb hg d s off tim t x c0 c1 c2 c3 c4) hB
 go_enter Tryz.func60, Tryz.ntmps60
 go_wp2_with fail
 refine (kindSubquery _ _).mono ?_
 rintro e w2 ⟨rfl, rfl⟩
 go_wp2_with fail
 obtain ⟨w1, hw1⟩ : ∃ w1, w1 = w.alloc (.cells zc 58) := ⟨_, rfl⟩
 have hb1 : Below w.heap.size w w1 := by rw [hw1]; exact (Below.refl w.heap.size w).alloc (Nat.le_refl _) _
 have hz1 : Blk w1 w.heap.size 58 zc := by rw [hw1]; exact Blk.new _ _ _
 simp only [zc] at hw1
 rw [← hw1]
 refine (HN.out _ hb1).mono ?_
 rintro e w2 ⟨s, rfl, hs, hb2, _⟩
 obtain ⟨ao, c, rfl, _⟩ := hs
 obtain ⟨cs, hcs⟩ : ∃ cs : Array Value, cs = rowA (zr 5 1) (.slice none 0 0) (.slice none 0 0) (.slice none 0 0) (.slice none 0 0) := ⟨_, rfl⟩
 obtain ⟨w3, hw3⟩ : ∃ w3, w3 = w2.alloc (.cells cs 58) := ⟨_, rfl⟩
 have hx : XI w w2.heap.size cs w3 := by
  have hb3 : Below w2.heap.size w2 w3 := by rw [hw3]; exact (Below.refl w2.heap.size w2).alloc (Nat.le_refl _) _
  have hz2 := hz1.below hb2 hz1.lt
  have hb12 := hb1.trans (hb2.mono hb1.size)
  exact ⟨hb12.trans (hb3.mono hb12.size), hz2.below hb3 hz2.lt, by rw [hw3]; exact Blk.new _ _ _, hz2.lt⟩
 rw [hcs] at hw3
 simp only [rowA, zr, eS] at hw3
 have HW3 := Lib.hid hw3
 have HCS := Lib.hid hcs
 have HX := Lib.hid hx
 have HXD : Hid (XI w w2.heap.size cs w3.drew) := Lib.hid hx.drew
 have hgx : ¬ g = w2.heap.size := by have := hx.2.2.2; omega
 have hgx2 : ¬ w2.heap.size = g := by have := hx.2.2.2; omega
 have z0 : w3.cell? ⟨g, 0, none⟩ = some (.iface t x) := (hx.1.cell (p := ⟨g, 0, none⟩) hg).trans c0
 have z1 : w3.cell? ⟨g, 1, none⟩ = some (.string d) := (hx.1.cell (p := ⟨g, 1, none⟩) hg).trans c1
 have z2 : w3.cell? ⟨g, 2, none⟩ = some (.string s) := (hx.1.cell (p := ⟨g, 2, none⟩) hg).trans c2
 have z3 : w3.cell? ⟨g, 3, none⟩ = some (.string off) := (hx.1.cell (p := ⟨g, 3, none⟩) hg).trans c3
 have z4 : w3.cell? ⟨g, 4, none⟩ = some (.string tim) := (hx.1.cell (p := ⟨g, 4, none⟩) hg).trans c4
 have d0 : w3.drew.cell? ⟨g, 0, none⟩ = some (.iface t x) := (hx.1.cell (p := ⟨g, 0, none⟩) hg).trans c0
 have d1 : w3.drew.cell? ⟨g, 1, none⟩ = some (.string d) := (hx.1.cell (p := ⟨g, 1, none⟩) hg).trans c1
 have d2 : w3.drew.cell? ⟨g, 2, none⟩ = some (.string s) := (hx.1.cell (p := ⟨g, 2, none⟩) hg).trans c2
 have d3 : w3.drew.cell? ⟨g, 3, none⟩ = some (.string off) := (hx.1.cell (p := ⟨g, 3, none⟩) hg).trans c3
 have d4 : w3.drew.cell? ⟨g, 4, none⟩ = some (.string tim) := (hx.1.cell (p := ⟨g, 4, none⟩) hg).trans c4
 have y5 : w3.cell? ⟨w2.heap.size, 5, none⟩ = some (.string ⟨#[]⟩) := (hx.2.2.1.cell 5).trans (by rw [hcs]; rfl)
 have e5 : w3.frozen? ⟨w2.heap.size, 5, none⟩ = false := hx.2.2.1.frozen 5
 have x5 : w3.drew.cell? ⟨w2.heap.size, 5, none⟩ = some (.string ⟨#[]⟩) := (hx.2.2.1.cell 5).trans (by rw [hcs]; rfl)
 have f5 : w3.drew.frozen? ⟨w2.heap.size, 5, none⟩ = false := hx.2.2.1.frozen 5
 have y6 : w3.cell? ⟨w2.heap.size, 6, none⟩ = some (.string ⟨#[]⟩) := (hx.2.2.1.cell 6).trans (by rw [hcs]; rfl)
 have e6 : w3.frozen? ⟨w2.heap.size, 6, none⟩ = false := hx.2.2.1.frozen 6
 have x6 : w3.drew.cell? ⟨w2.heap.size, 6, none⟩ = some (.string ⟨#[]⟩) := (hx.2.2.1.cell 6).trans (by rw [hcs]; rfl)
 have f6 : w3.drew.frozen? ⟨w2.heap.size, 6, none⟩ = false := hx.2.2.1.frozen 6
 have y7 : w3.cell? ⟨w2.heap.size, 7, none⟩ = some (.string ⟨#[]⟩) := (hx.2.2.1.cell 7).trans (by rw [hcs]; rfl)
 have e7 : w3.frozen? ⟨w2.heap.size, 7, none⟩ = false := hx.2.2.1.frozen 7
 have x7 : w3.drew.cell? ⟨w2.heap.size, 7, none⟩ = some (.string ⟨#[]⟩) := (hx.2.2.1.cell 7).trans (by rw [hcs]; rfl)
 have f7 : w3.drew.frozen? ⟨w2.heap.size, 7, none⟩ = false := hx.2.2.1.frozen 7
 have y8 : w3.cell? ⟨w2.heap.size, 8, none⟩ = some (.string ⟨#[]⟩) := (hx.2.2.1.cell 8).trans (by rw [hcs]; rfl)
 have e8 : w3.frozen? ⟨w2.heap.size, 8, none⟩ = false := hx.2.2.1.frozen 8
 have x8 : w3.drew.cell? ⟨w2.heap.size, 8, none⟩ = some (.string ⟨#[]⟩) := (hx.2.2.1.cell 8).trans (by rw [hcs]; rfl)
 have f8 : w3.drew.frozen? ⟨w2.heap.size, 8, none⟩ = false := hx.2.2.1.frozen 8
 clear hx hcs hw3 hb1 hb2 hz1 hw1 c0 c1 c2 c3 c4
 go_wp2_with fail
 rw [← HW3.out]
 go_region
 all_goals
  have hz := (((HXD.out.2.2.1.set_ 5 (.string d)).set_ 6 (.string s)).set_ 7 (.string off)).set_ 8 (.string tim)
  have hr := (((HXD.out.2.1.far (p := ⟨w2.heap.size, 5, none⟩) HXD.out.ne (.string d)).far (p := ⟨w2.heap.size, 6, none⟩) HXD.out.ne (.string s)).far (p := ⟨w2.heap.size, 7, none⟩) HXD.out.ne (.string off)).far (p := ⟨w2.heap.size, 8, none⟩) HXD.out.ne (.string tim)
  have hb' := (((HXD.out.1.setCell (p := ⟨w2.heap.size, 5, none⟩) HXD.out.le (.string d)).setCell (p := ⟨w2.heap.size, 6, none⟩) HXD.out.le (.string s)).setCell (p := ⟨w2.heap.size, 7, none⟩) HXD.out.le (.string off)).setCell (p := ⟨w2.heap.size, 8, none⟩) HXD.out.le (.string tim)
  rw [HCS.out] at hz
  have HZ := Lib.hid hz
  have HR := Lib.hid hr
  have HB := Lib.hid hb'
  clear hz hr hb' x5 x6 x7 x8 f5 f6 f7 f8 y5 y6 y7 y8 e5 e6 e7 e8 d0 d1 d2 d3 d4 z0 z1 z2 z3 z4
  go_wp2_with (first | (refine wpList_load_blk rfl 58 (.tmp 3) rfl w2.heap.size rfl HZ.out Tryz.underlying58 info_row ?_) | (refine wpList_store_blk rfl 58 (.tmp 2) (.tmp 142) rfl w.heap.size _ rfl rfl HR.out info_row rfl rfl ?_))
  intro W' hz hgr
  go_wp2_with fail
  exact bodyPost_ret (results_blk Tryz.results60 rfl hz Tryz.underlying58 info_row) rfl (none_post HR.out hgr HB.out rfl rfl rfl rfl rfl)
set_option maxRecDepth 100000 in
set_option maxHeartbeats 1000000 in
theorem rowOf_selector {b : Nat} {w : World} (g : Nat) (hb : b ≤ g) (hg : g < w.heap.size) (t off tim : ByteArray) (am : Option Addr) (nm cm : Nat) (ms : List PM) (hn : ms.length ≤ 1099511627776) (hm : MatS b w (.slice am nm cm) ms) (c0 : w.cell? ⟨g, 0, none⟩ = some (.string t)) (c1 : w.cell? ⟨g, 1, none⟩ = some (.slice am nm cm)) (c2 : w.cell? ⟨g, 2, none⟩ = some (.string off)) (c3 : w.cell? ⟨g, 3, none⟩ = some (.string tim)) :
  Calls Tryz.prog 60 #[.iface 93 (.pointer (some ⟨g, 0, none⟩))] w (RowPost w { zr 3 0 with text := t, ms := ms, off := off, tim := tim }) := by
 have hmm := methSelector
 have a1 := asNumber
 have a2 := asText
 have a3 := asSelector
 have HN : Hid (∀ W, Below w.heap.size w W → Calls Tryz.prog 103 #[.iface 93 (.pointer (some ⟨g, 0, none⟩))] W (KidsPost w W [])) := Lib.hid fun W hB => tree_kidsOf (NodeAt.selector (b := b) g hb hg t off tim _ ms hm c0 c1 c2 c3) hB
 have HCM : Hid (∀ gx cs W, XI w gx cs W → Calls Tryz.prog 104 #[.slice am nm cm] W (CloneXM w gx cs W ms)) := Lib.hid fun gx cs W hW => clone_xm hm hn hW
 clear hm
 go_enter Tryz.func60, Tryz.ntmps60
 go_wp2_with fail
 refine (kindSelector _ _).mono ?_
 rintro e w2 ⟨rfl, rfl⟩
 go_wp2_with fail
 obtain ⟨w1, hw1⟩ : ∃ w1, w1 = w.alloc (.cells zc 58) := ⟨_, rfl⟩
 have hb1 : Below w.heap.size w w1 := by rw [hw1]; exact (Below.refl w.heap.size w).alloc (Nat.le_refl _) _
 have hz1 : Blk w1 w.heap.size 58 zc := by rw [hw1]; exact Blk.new _ _ _
 simp only [zc] at hw1
 rw [← hw1]
 refine (HN.out _ hb1).mono ?_
 rintro e w2 ⟨s, rfl, hs, hb2, _⟩
 obtain ⟨ao, c, rfl, _⟩ := hs
 obtain ⟨cs, hcs⟩ : ∃ cs : Array Value, cs = rowA (zr 3 0) (.slice none 0 0) (.slice none 0 0) (.slice none 0 0) (.slice none 0 0) := ⟨_, rfl⟩
 obtain ⟨w3, hw3⟩ : ∃ w3, w3 = w2.alloc (.cells cs 58) := ⟨_, rfl⟩
 have hx : XI w w2.heap.size cs w3 := by
  have hb3 : Below w2.heap.size w2 w3 := by rw [hw3]; exact (Below.refl w2.heap.size w2).alloc (Nat.le_refl _) _
  have hz2 := hz1.below hb2 hz1.lt
  have hb12 := hb1.trans (hb2.mono hb1.size)
  exact ⟨hb12.trans (hb3.mono hb12.size), hz2.below hb3 hz2.lt, by rw [hw3]; exact Blk.new _ _ _, hz2.lt⟩
 rw [hcs] at hw3
 simp only [rowA, zr, eS] at hw3
 have HW3 := Lib.hid hw3
 have HCS := Lib.hid hcs
 have HX := Lib.hid hx
 have HXD : Hid (XI w w2.heap.size cs w3.drew) := Lib.hid hx.drew
 have hgx : ¬ g = w2.heap.size := by have := hx.2.2.2; omega
 have hgx2 : ¬ w2.heap.size = g := by have := hx.2.2.2; omega
 have z0 : w3.cell? ⟨g, 0, none⟩ = some (.string t) := (hx.1.cell (p := ⟨g, 0, none⟩) hg).trans c0
 have z1 : w3.cell? ⟨g, 1, none⟩ = some (.slice am nm cm) := (hx.1.cell (p := ⟨g, 1, none⟩) hg).trans c1
 have z2 : w3.cell? ⟨g, 2, none⟩ = some (.string off) := (hx.1.cell (p := ⟨g, 2, none⟩) hg).trans c2
 have z3 : w3.cell? ⟨g, 3, none⟩ = some (.string tim) := (hx.1.cell (p := ⟨g, 3, none⟩) hg).trans c3
 have d0 : w3.drew.cell? ⟨g, 0, none⟩ = some (.string t) := (hx.1.cell (p := ⟨g, 0, none⟩) hg).trans c0
 have d1 : w3.drew.cell? ⟨g, 1, none⟩ = some (.slice am nm cm) := (hx.1.cell (p := ⟨g, 1, none⟩) hg).trans c1
 have d2 : w3.drew.cell? ⟨g, 2, none⟩ = some (.string off) := (hx.1.cell (p := ⟨g, 2, none⟩) hg).trans c2
 have d3 : w3.drew.cell? ⟨g, 3, none⟩ = some (.string tim) := (hx.1.cell (p := ⟨g, 3, none⟩) hg).trans c3
 have y3 : w3.cell? ⟨w2.heap.size, 3, none⟩ = some (.string ⟨#[]⟩) := (hx.2.2.1.cell 3).trans (by rw [hcs]; rfl)
 have e3 : w3.frozen? ⟨w2.heap.size, 3, none⟩ = false := hx.2.2.1.frozen 3
 have x3 : w3.drew.cell? ⟨w2.heap.size, 3, none⟩ = some (.string ⟨#[]⟩) := (hx.2.2.1.cell 3).trans (by rw [hcs]; rfl)
 have f3 : w3.drew.frozen? ⟨w2.heap.size, 3, none⟩ = false := hx.2.2.1.frozen 3
 have y4 : w3.cell? ⟨w2.heap.size, 4, none⟩ = some (.slice none 0 0) := (hx.2.2.1.cell 4).trans (by rw [hcs]; rfl)
 have e4 : w3.frozen? ⟨w2.heap.size, 4, none⟩ = false := hx.2.2.1.frozen 4
 have x4 : w3.drew.cell? ⟨w2.heap.size, 4, none⟩ = some (.slice none 0 0) := (hx.2.2.1.cell 4).trans (by rw [hcs]; rfl)
 have f4 : w3.drew.frozen? ⟨w2.heap.size, 4, none⟩ = false := hx.2.2.1.frozen 4
 have y7 : w3.cell? ⟨w2.heap.size, 7, none⟩ = some (.string ⟨#[]⟩) := (hx.2.2.1.cell 7).trans (by rw [hcs]; rfl)
 have e7 : w3.frozen? ⟨w2.heap.size, 7, none⟩ = false := hx.2.2.1.frozen 7
 have x7 : w3.drew.cell? ⟨w2.heap.size, 7, none⟩ = some (.string ⟨#[]⟩) := (hx.2.2.1.cell 7).trans (by rw [hcs]; rfl)
 have f7 : w3.drew.frozen? ⟨w2.heap.size, 7, none⟩ = false := hx.2.2.1.frozen 7
 have y8 : w3.cell? ⟨w2.heap.size, 8, none⟩ = some (.string ⟨#[]⟩) := (hx.2.2.1.cell 8).trans (by rw [hcs]; rfl)
 have e8 : w3.frozen? ⟨w2.heap.size, 8, none⟩ = false := hx.2.2.1.frozen 8
 have x8 : w3.drew.cell? ⟨w2.heap.size, 8, none⟩ = some (.string ⟨#[]⟩) := (hx.2.2.1.cell 8).trans (by rw [hcs]; rfl)
 have f8 : w3.drew.frozen? ⟨w2.heap.size, 8, none⟩ = false := hx.2.2.1.frozen 8
 clear hx hcs hw3 hb1 hb2 hz1 hw1
 have C0 := Lib.hid c0
 have C1 := Lib.hid c1
 have C2 := Lib.hid c2
 have C3 := Lib.hid c3
 clear c0 c1 c2 c3
 go_wp2_with fail
 rw [← HW3.out]
 go_region_held3 (fun W => W.cell? ⟨g, 0, none⟩ = some (.string t) ∧ W.cell? ⟨g, 1, none⟩ = some (.slice am nm cm) ∧ W.cell? ⟨g, 2, none⟩ = some (.string off) ∧ W.cell? ⟨g, 3, none⟩ = some (.string tim)) (first | go_keep) (first | (go_at_call 104; (with_reducible refine (HCM.out _ _ _ HXD.out).mono ?_); rintro e wO ⟨ao, no, co, rfl, h1, hm, hb⟩; have p0 : wO.cell? ⟨g, 0, none⟩ = some (.string t) := (hm.1.cell (p := ⟨g, 0, none⟩) hg).trans C0.out; have p1 : wO.cell? ⟨g, 1, none⟩ = some (.slice am nm cm) := (hm.1.cell (p := ⟨g, 1, none⟩) hg).trans C1.out; have p2 : wO.cell? ⟨g, 2, none⟩ = some (.string off) := (hm.1.cell (p := ⟨g, 2, none⟩) hg).trans C2.out; have p3 : wO.cell? ⟨g, 3, none⟩ = some (.string tim) := (hm.1.cell (p := ⟨g, 3, none⟩) hg).trans C3.out; have q3 : wO.cell? ⟨w2.heap.size, 3, none⟩ = some (.string ⟨#[]⟩) := (hm.2.2.1.cell 3).trans (by rw [HCS.out]; rfl); have r3 : wO.frozen? ⟨w2.heap.size, 3, none⟩ = false := hm.2.2.1.frozen 3; have q4 : wO.cell? ⟨w2.heap.size, 4, none⟩ = some (.slice none 0 0) := (hm.2.2.1.cell 4).trans (by rw [HCS.out]; rfl); have r4 : wO.frozen? ⟨w2.heap.size, 4, none⟩ = false := hm.2.2.1.frozen 4; have q7 : wO.cell? ⟨w2.heap.size, 7, none⟩ = some (.string ⟨#[]⟩) := (hm.2.2.1.cell 7).trans (by rw [HCS.out]; rfl); have r7 : wO.frozen? ⟨w2.heap.size, 7, none⟩ = false := hm.2.2.1.frozen 7; have q8 : wO.cell? ⟨w2.heap.size, 8, none⟩ = some (.string ⟨#[]⟩) := (hm.2.2.1.cell 8).trans (by rw [HCS.out]; rfl); have r8 : wO.frozen? ⟨w2.heap.size, 8, none⟩ = false := hm.2.2.1.frozen 8; have HXO := Lib.hid hm; have HMO := Lib.hid h1; clear hm h1 hb))
 have HXZ := Lib.hid ((((HXO.out.set1 3 (.string t)).set1 4 (.slice ao no co)).set1 7 (.string off)).set1 8 (.string tim))
 have HOM := Lib.hid ((((HXO.out.set1 3 (.string t)).set1 4 (.slice ao no co)).set1 7 (.string off)).own (((HXO.out.set1 3 (.string t)).set1 4 (.slice ao no co)).own ((HXO.out.set1 3 (.string t)).own (HXO.out.own HMO.out (by decide) 3 (.string t)) (by decide) 4 (.slice ao no co)) (by decide) 7 (.string off)) (by decide) 8 (.string tim))
 rw [HCS.out] at HXZ
 go_wp2_with (first | (refine wpList_load_blk rfl 58 (.tmp 3) rfl w2.heap.size rfl HXZ.out.2.2.1 Tryz.underlying58 info_row ?_) | (refine wpList_store_blk rfl 58 (.tmp 2) (.tmp 142) rfl w.heap.size _ rfl rfl HXZ.out.2.1 info_row rfl rfl ?_))
 intro W' hz hgr
 go_wp2_with fail
 exact bodyPost_ret (results_blk Tryz.results60 rfl hz Tryz.underlying58 info_row) rfl (row_post (r := { zr 3 0 with text := t, ms := ms, off := off, tim := tim }) (m := .slice ao no co) (o := .slice none 0 0) (i := .slice none 0 0) (l := .slice none 0 0) ⟨HOM.out, strO_none _ _, strO_none _ _, strO_none _ _, apart_none _, apart_none _, apart_none _⟩ HXZ.out.2.1 hgr HXZ.out.1 (by decide) (by decide))
end Go.Proofs.YtibcjfjacielbaaGreatDoor
