import Derived.Test.YtibcjfjacielbaaGreatDoorG07
import Derived.RegionTactic
import Derived.ChangeAlike
import Derived.BigRegion
/- Part of the proof of YtibcjfjacielbaaGreatDoorCardG: TrHh TrHi TrHj. -/
set_option linter.unusedVariables false
set_option linter.unusedSimpArgs false
namespace Go.Proofs.YtibcjfjacielbaaGreatDoor
open Go.RowKit
set_option maxRecDepth 100000 in
set_option maxHeartbeats 4000000 in
theorem rowOf_binary {b : Nat} {w : World} (g : Nat) (hb : b ≤ g) (hg : g < w.heap.size) (o : ByteArray) (t u : TypeId) (x y : Value) (bo gi on : Bool) (al : Option Addr) (nl cl : Nat) (ai : Option Addr) (ni ci : Nat) (ls inc : List ByteArray) (card : Int) (hn : ls.length ≤ 1099511627776) (hn2 : inc.length ≤ 1099511627776) (hl : StrS b w (.slice al nl cl) ls) (hi : StrS b w (.slice ai ni ci) inc) (c0 : w.cell? ⟨g, 0, none⟩ = some (.string o)) (c1 : w.cell? ⟨g, 1, none⟩ = some (.iface t x)) (c2 : w.cell? ⟨g, 2, none⟩ = some (.iface u y)) (c3 : w.cell? ⟨g, 3, none⟩ = some (.bool bo)) (c4 : w.cell? ⟨g, 4, none⟩ = some (.bool gi)) (c5 : w.cell? ⟨g, 5, none⟩ = some (.bool on)) (c6 : w.cell? ⟨g, 6, none⟩ = some (.slice al nl cl)) (c7 : w.cell? ⟨g, 7, none⟩ = some (.int .i64 card)) (c8 : w.cell? ⟨g, 8, none⟩ = some (.slice ai ni ci)) :
  Calls Tryz.prog 60 #[.iface 179 (.pointer (some ⟨g, 0, none⟩))] w (RowPost w { zr 7 2 with op := o, bool := bo, given := gi, on := on, mls := ls, card := card, inc := inc }) := by
 have hmm := methBinary
 have a1 := asNumber
 have a2 := asText
 have a3 := asSelector
 have a4 := asRange
 have a5 := asSubquery
 have a6 := asUnary
 have a7 := asBinary
 have HN : Hid (∀ W, Below w.heap.size w W → Calls Tryz.prog 103 #[.iface 179 (.pointer (some ⟨g, 0, none⟩))] W (KidsPost w W [.iface t x, .iface u y])) := Lib.hid fun W hB => tree_kidsOf (NodeAt.binary (b := b) g hb hg o t u x y bo gi on _ _ ls inc card hl hi c0 c1 c2 c3 c4 c5 c6 c7 c8) hB
 have HCM : Hid (∀ gx cs W, XI w gx cs W → Calls Tryz.prog 105 #[.agg #[.bool gi, .bool on, .slice al nl cl, .int .i64 card, .slice ai ni ci]] W (MatchXP w gx cs W gi on card ls inc)) := Lib.hid fun gx cs W hW => matching_x gi on card hl hi hn hn2 hW
 clear hl hi
 go_enter Tryz.func60, Tryz.ntmps60
 go_wp2_with fail
 refine (kindBinary _ _).mono ?_
 rintro e w2 ⟨rfl, rfl⟩
 go_wp2_with fail
 obtain ⟨w1, hw1⟩ : ∃ w1, w1 = w.alloc (.cells zc 58) := ⟨_, rfl⟩
 have hb1 : Below w.heap.size w w1 := by rw [hw1]; exact (Below.refl w.heap.size w).alloc (Nat.le_refl _) _
 have hz1 : Blk w1 w.heap.size 58 zc := by rw [hw1]; exact Blk.new _ _ _
 simp only [zc] at hw1
 rw [← hw1]
 refine (HN.out _ hb1).mono ?_
 rintro e w2 ⟨s, rfl, hs, hb2, _⟩
 obtain ⟨ao, c, rfl, _⟩ := hs
 obtain ⟨cs, hcs⟩ : ∃ cs : Array Value, cs = rowA (zr 7 2) (.slice none 0 0) (.slice none 0 0) (.slice none 0 0) (.slice none 0 0) := ⟨_, rfl⟩
 obtain ⟨w3, hw3⟩ : ∃ w3, w3 = w2.alloc (.cells cs 58) := ⟨_, rfl⟩
 have hx : XI w w2.heap.size cs w3 := by
  have hb3 : Below w2.heap.size w2 w3 := by rw [hw3]; exact (Below.refl w2.heap.size w2).alloc (Nat.le_refl _) _
  have hz2 := hz1.below hb2 hz1.lt
  have hb12 := hb1.trans (hb2.mono hb1.size)
  exact ⟨hb12.trans (hb3.mono hb12.size), hz2.below hb3 hz2.lt, by rw [hw3]; exact Blk.new _ _ _, hz2.lt⟩
 rw [hcs] at hw3
 simp only [rowA, zr, eS] at hw3
 have HW3 := Lib.hid hw3
 have HCS := Lib.hid hcs
 have HX := Lib.hid hx
 have HXD : Hid (XI w w2.heap.size cs w3.drew) := Lib.hid hx.drew
 have hgx : ¬ g = w2.heap.size := by have := hx.2.2.2; omega
 have hgx2 : ¬ w2.heap.size = g := by have := hx.2.2.2; omega
 have z0 : w3.cell? ⟨g, 0, none⟩ = some (.string o) := (hx.1.cell (p := ⟨g, 0, none⟩) hg).trans c0
 have z1 : w3.cell? ⟨g, 1, none⟩ = some (.iface t x) := (hx.1.cell (p := ⟨g, 1, none⟩) hg).trans c1
 have z2 : w3.cell? ⟨g, 2, none⟩ = some (.iface u y) := (hx.1.cell (p := ⟨g, 2, none⟩) hg).trans c2
 have z3 : w3.cell? ⟨g, 3, none⟩ = some (.bool bo) := (hx.1.cell (p := ⟨g, 3, none⟩) hg).trans c3
 have z4 : w3.cell? ⟨g, 4, none⟩ = some (.bool gi) := (hx.1.cell (p := ⟨g, 4, none⟩) hg).trans c4
 have z5 : w3.cell? ⟨g, 5, none⟩ = some (.bool on) := (hx.1.cell (p := ⟨g, 5, none⟩) hg).trans c5
 have z6 : w3.cell? ⟨g, 6, none⟩ = some (.slice al nl cl) := (hx.1.cell (p := ⟨g, 6, none⟩) hg).trans c6
 have z7 : w3.cell? ⟨g, 7, none⟩ = some (.int .i64 card) := (hx.1.cell (p := ⟨g, 7, none⟩) hg).trans c7
 have z8 : w3.cell? ⟨g, 8, none⟩ = some (.slice ai ni ci) := (hx.1.cell (p := ⟨g, 8, none⟩) hg).trans c8
 have d0 : w3.drew.cell? ⟨g, 0, none⟩ = some (.string o) := (hx.1.cell (p := ⟨g, 0, none⟩) hg).trans c0
 have d1 : w3.drew.cell? ⟨g, 1, none⟩ = some (.iface t x) := (hx.1.cell (p := ⟨g, 1, none⟩) hg).trans c1
 have d2 : w3.drew.cell? ⟨g, 2, none⟩ = some (.iface u y) := (hx.1.cell (p := ⟨g, 2, none⟩) hg).trans c2
 have d3 : w3.drew.cell? ⟨g, 3, none⟩ = some (.bool bo) := (hx.1.cell (p := ⟨g, 3, none⟩) hg).trans c3
 have d4 : w3.drew.cell? ⟨g, 4, none⟩ = some (.bool gi) := (hx.1.cell (p := ⟨g, 4, none⟩) hg).trans c4
 have d5 : w3.drew.cell? ⟨g, 5, none⟩ = some (.bool on) := (hx.1.cell (p := ⟨g, 5, none⟩) hg).trans c5
 have d6 : w3.drew.cell? ⟨g, 6, none⟩ = some (.slice al nl cl) := (hx.1.cell (p := ⟨g, 6, none⟩) hg).trans c6
 have d7 : w3.drew.cell? ⟨g, 7, none⟩ = some (.int .i64 card) := (hx.1.cell (p := ⟨g, 7, none⟩) hg).trans c7
 have d8 : w3.drew.cell? ⟨g, 8, none⟩ = some (.slice ai ni ci) := (hx.1.cell (p := ⟨g, 8, none⟩) hg).trans c8
 have y2 : w3.cell? ⟨w2.heap.size, 2, none⟩ = some (.string ⟨#[]⟩) := (hx.2.2.1.cell 2).trans (by rw [hcs]; rfl)
 have e2 : w3.frozen? ⟨w2.heap.size, 2, none⟩ = false := hx.2.2.1.frozen 2
 have x2 : w3.drew.cell? ⟨w2.heap.size, 2, none⟩ = some (.string ⟨#[]⟩) := (hx.2.2.1.cell 2).trans (by rw [hcs]; rfl)
 have f2 : w3.drew.frozen? ⟨w2.heap.size, 2, none⟩ = false := hx.2.2.1.frozen 2
 have y9 : w3.cell? ⟨w2.heap.size, 9, none⟩ = some (.bool false) := (hx.2.2.1.cell 9).trans (by rw [hcs]; rfl)
 have e9 : w3.frozen? ⟨w2.heap.size, 9, none⟩ = false := hx.2.2.1.frozen 9
 have x9 : w3.drew.cell? ⟨w2.heap.size, 9, none⟩ = some (.bool false) := (hx.2.2.1.cell 9).trans (by rw [hcs]; rfl)
 have f9 : w3.drew.frozen? ⟨w2.heap.size, 9, none⟩ = false := hx.2.2.1.frozen 9
 have y10 : w3.cell? ⟨w2.heap.size, 10, none⟩ = some (.bool false) := (hx.2.2.1.cell 10).trans (by rw [hcs]; rfl)
 have e10 : w3.frozen? ⟨w2.heap.size, 10, none⟩ = false := hx.2.2.1.frozen 10
 have x10 : w3.drew.cell? ⟨w2.heap.size, 10, none⟩ = some (.bool false) := (hx.2.2.1.cell 10).trans (by rw [hcs]; rfl)
 have f10 : w3.drew.frozen? ⟨w2.heap.size, 10, none⟩ = false := hx.2.2.1.frozen 10
 have y11 : w3.cell? ⟨w2.heap.size, 11, none⟩ = some (.bool false) := (hx.2.2.1.cell 11).trans (by rw [hcs]; rfl)
 have e11 : w3.frozen? ⟨w2.heap.size, 11, none⟩ = false := hx.2.2.1.frozen 11
 have x11 : w3.drew.cell? ⟨w2.heap.size, 11, none⟩ = some (.bool false) := (hx.2.2.1.cell 11).trans (by rw [hcs]; rfl)
 have f11 : w3.drew.frozen? ⟨w2.heap.size, 11, none⟩ = false := hx.2.2.1.frozen 11
 have y12 : w3.cell? ⟨w2.heap.size, 12, none⟩ = some (.slice none 0 0) := (hx.2.2.1.cell 12).trans (by rw [hcs]; rfl)
 have e12 : w3.frozen? ⟨w2.heap.size, 12, none⟩ = false := hx.2.2.1.frozen 12
 have x12 : w3.drew.cell? ⟨w2.heap.size, 12, none⟩ = some (.slice none 0 0) := (hx.2.2.1.cell 12).trans (by rw [hcs]; rfl)
 have f12 : w3.drew.frozen? ⟨w2.heap.size, 12, none⟩ = false := hx.2.2.1.frozen 12
 have y13 : w3.cell? ⟨w2.heap.size, 13, none⟩ = some (.int .i64 0) := (hx.2.2.1.cell 13).trans (by rw [hcs]; rfl)
 have e13 : w3.frozen? ⟨w2.heap.size, 13, none⟩ = false := hx.2.2.1.frozen 13
 have x13 : w3.drew.cell? ⟨w2.heap.size, 13, none⟩ = some (.int .i64 0) := (hx.2.2.1.cell 13).trans (by rw [hcs]; rfl)
 have f13 : w3.drew.frozen? ⟨w2.heap.size, 13, none⟩ = false := hx.2.2.1.frozen 13
 have y14 : w3.cell? ⟨w2.heap.size, 14, none⟩ = some (.slice none 0 0) := (hx.2.2.1.cell 14).trans (by rw [hcs]; rfl)
 have e14 : w3.frozen? ⟨w2.heap.size, 14, none⟩ = false := hx.2.2.1.frozen 14
 have x14 : w3.drew.cell? ⟨w2.heap.size, 14, none⟩ = some (.slice none 0 0) := (hx.2.2.1.cell 14).trans (by rw [hcs]; rfl)
 have f14 : w3.drew.frozen? ⟨w2.heap.size, 14, none⟩ = false := hx.2.2.1.frozen 14
 clear hx hcs hw3 hb1 hb2 hz1 hw1
 have C0 := Lib.hid c0
 have C1 := Lib.hid c1
 have C2 := Lib.hid c2
 have C3 := Lib.hid c3
 have C4 := Lib.hid c4
 have C5 := Lib.hid c5
 have C6 := Lib.hid c6
 have C7 := Lib.hid c7
 have C8 := Lib.hid c8
 clear c0 c1 c2 c3 c4 c5 c6 c7 c8
 go_wp2_with fail
 rw [← HW3.out]
 go_region_held3 (fun W => W.cell? ⟨g, 0, none⟩ = some (.string o) ∧ W.cell? ⟨g, 1, none⟩ = some (.iface t x) ∧ W.cell? ⟨g, 2, none⟩ = some (.iface u y) ∧ W.cell? ⟨g, 3, none⟩ = some (.bool bo) ∧ W.cell? ⟨g, 4, none⟩ = some (.bool gi) ∧ W.cell? ⟨g, 5, none⟩ = some (.bool on) ∧ W.cell? ⟨g, 6, none⟩ = some (.slice al nl cl) ∧ W.cell? ⟨g, 7, none⟩ = some (.int .i64 card) ∧ W.cell? ⟨g, 8, none⟩ = some (.slice ai ni ci)) (first | go_keep) (first | (go_at_call 105; (with_reducible refine (HCM.out _ _ _ HXD.out).mono ?_); rintro e wO ⟨ao, no, co, aj, nj, cj, rfl, h1, h2, h3, hm, hb⟩; have p0 : wO.cell? ⟨g, 0, none⟩ = some (.string o) := (hm.1.cell (p := ⟨g, 0, none⟩) hg).trans C0.out; have p1 : wO.cell? ⟨g, 1, none⟩ = some (.iface t x) := (hm.1.cell (p := ⟨g, 1, none⟩) hg).trans C1.out; have p2 : wO.cell? ⟨g, 2, none⟩ = some (.iface u y) := (hm.1.cell (p := ⟨g, 2, none⟩) hg).trans C2.out; have p3 : wO.cell? ⟨g, 3, none⟩ = some (.bool bo) := (hm.1.cell (p := ⟨g, 3, none⟩) hg).trans C3.out; have p4 : wO.cell? ⟨g, 4, none⟩ = some (.bool gi) := (hm.1.cell (p := ⟨g, 4, none⟩) hg).trans C4.out; have p5 : wO.cell? ⟨g, 5, none⟩ = some (.bool on) := (hm.1.cell (p := ⟨g, 5, none⟩) hg).trans C5.out; have p6 : wO.cell? ⟨g, 6, none⟩ = some (.slice al nl cl) := (hm.1.cell (p := ⟨g, 6, none⟩) hg).trans C6.out; have p7 : wO.cell? ⟨g, 7, none⟩ = some (.int .i64 card) := (hm.1.cell (p := ⟨g, 7, none⟩) hg).trans C7.out; have p8 : wO.cell? ⟨g, 8, none⟩ = some (.slice ai ni ci) := (hm.1.cell (p := ⟨g, 8, none⟩) hg).trans C8.out; have q2 : wO.cell? ⟨w2.heap.size, 2, none⟩ = some (.string ⟨#[]⟩) := (hm.2.2.1.cell 2).trans (by rw [HCS.out]; rfl); have r2 : wO.frozen? ⟨w2.heap.size, 2, none⟩ = false := hm.2.2.1.frozen 2; have q9 : wO.cell? ⟨w2.heap.size, 9, none⟩ = some (.bool false) := (hm.2.2.1.cell 9).trans (by rw [HCS.out]; rfl); have r9 : wO.frozen? ⟨w2.heap.size, 9, none⟩ = false := hm.2.2.1.frozen 9; have q10 : wO.cell? ⟨w2.heap.size, 10, none⟩ = some (.bool false) := (hm.2.2.1.cell 10).trans (by rw [HCS.out]; rfl); have r10 : wO.frozen? ⟨w2.heap.size, 10, none⟩ = false := hm.2.2.1.frozen 10; have q11 : wO.cell? ⟨w2.heap.size, 11, none⟩ = some (.bool false) := (hm.2.2.1.cell 11).trans (by rw [HCS.out]; rfl); have r11 : wO.frozen? ⟨w2.heap.size, 11, none⟩ = false := hm.2.2.1.frozen 11; have q12 : wO.cell? ⟨w2.heap.size, 12, none⟩ = some (.slice none 0 0) := (hm.2.2.1.cell 12).trans (by rw [HCS.out]; rfl); have r12 : wO.frozen? ⟨w2.heap.size, 12, none⟩ = false := hm.2.2.1.frozen 12; have q13 : wO.cell? ⟨w2.heap.size, 13, none⟩ = some (.int .i64 0) := (hm.2.2.1.cell 13).trans (by rw [HCS.out]; rfl); have r13 : wO.frozen? ⟨w2.heap.size, 13, none⟩ = false := hm.2.2.1.frozen 13; have q14 : wO.cell? ⟨w2.heap.size, 14, none⟩ = some (.slice none 0 0) := (hm.2.2.1.cell 14).trans (by rw [HCS.out]; rfl); have r14 : wO.frozen? ⟨w2.heap.size, 14, none⟩ = false := hm.2.2.1.frozen 14; have HXO := Lib.hid hm; have HMO := Lib.hid h1; have HMI := Lib.hid h2; have HAP := Lib.hid h3; simp only [matchV]; clear hm h1 h2 h3 hb))
 have HXZ := Lib.hid (((((((HXO.out.set1 2 (.string o)).set1 9 (.bool bo)).set1 10 (.bool gi)).set1 11 (.bool on)).set1 12 (.slice ao no co)).set1 13 (.int .i64 card)).set1 14 (.slice aj nj cj))
 have HOM := Lib.hid (((((((HXO.out.set1 2 (.string o)).set1 9 (.bool bo)).set1 10 (.bool gi)).set1 11 (.bool on)).set1 12 (.slice ao no co)).set1 13 (.int .i64 card)).own ((((((HXO.out.set1 2 (.string o)).set1 9 (.bool bo)).set1 10 (.bool gi)).set1 11 (.bool on)).set1 12 (.slice ao no co)).own (((((HXO.out.set1 2 (.string o)).set1 9 (.bool bo)).set1 10 (.bool gi)).set1 11 (.bool on)).own ((((HXO.out.set1 2 (.string o)).set1 9 (.bool bo)).set1 10 (.bool gi)).own (((HXO.out.set1 2 (.string o)).set1 9 (.bool bo)).own ((HXO.out.set1 2 (.string o)).own (HXO.out.own HMO.out (by decide) 2 (.string o)) (by decide) 9 (.bool bo)) (by decide) 10 (.bool gi)) (by decide) 11 (.bool on)) (by decide) 12 (.slice ao no co)) (by decide) 13 (.int .i64 card)) (by decide) 14 (.slice aj nj cj))
 have HOI := Lib.hid (((((((HXO.out.set1 2 (.string o)).set1 9 (.bool bo)).set1 10 (.bool gi)).set1 11 (.bool on)).set1 12 (.slice ao no co)).set1 13 (.int .i64 card)).own ((((((HXO.out.set1 2 (.string o)).set1 9 (.bool bo)).set1 10 (.bool gi)).set1 11 (.bool on)).set1 12 (.slice ao no co)).own (((((HXO.out.set1 2 (.string o)).set1 9 (.bool bo)).set1 10 (.bool gi)).set1 11 (.bool on)).own ((((HXO.out.set1 2 (.string o)).set1 9 (.bool bo)).set1 10 (.bool gi)).own (((HXO.out.set1 2 (.string o)).set1 9 (.bool bo)).own ((HXO.out.set1 2 (.string o)).own (HXO.out.own HMI.out (by decide) 2 (.string o)) (by decide) 9 (.bool bo)) (by decide) 10 (.bool gi)) (by decide) 11 (.bool on)) (by decide) 12 (.slice ao no co)) (by decide) 13 (.int .i64 card)) (by decide) 14 (.slice aj nj cj))
 rw [HCS.out] at HXZ
 go_wp2_with (first | (refine wpList_load_blk rfl 58 (.tmp 3) rfl w2.heap.size rfl HXZ.out.2.2.1 Tryz.underlying58 info_row ?_) | (refine wpList_store_blk rfl 58 (.tmp 2) (.tmp 142) rfl w.heap.size _ rfl rfl HXZ.out.2.1 info_row rfl rfl ?_))
 intro W' hz hgr
 go_wp2_with fail
 exact bodyPost_ret (results_blk Tryz.results60 rfl hz Tryz.underlying58 info_row) rfl (row_post (r := { zr 7 2 with op := o, bool := bo, given := gi, on := on, mls := ls, card := card, inc := inc }) (m := .slice none 0 0) (o := .slice ao no co) (i := .slice aj nj cj) (l := .slice none 0 0) ⟨matO_none _ _, HOM.out, HOI.out, strO_none _ _, HAP.out, (apart_none _).symm, (apart_none _).symm⟩ HXZ.out.2.1 hgr HXZ.out.1 (by decide) (by decide))
set_option maxRecDepth 100000 in
set_option maxHeartbeats 1000000 in
theorem rowOf_aggr {b : Nat} {w : World} (g : Nat) (hb : b ≤ g) (hg : g < w.heap.size) (o : ByteArray) (t : TypeId) (x : Value) (wo : Bool) (am : Option Addr) (nm cm : Nat) (ls : List ByteArray) (hn : ls.length ≤ 1099511627776) (hl : StrS b w (.slice am nm cm) ls) (c0 : w.cell? ⟨g, 0, none⟩ = some (.string o)) (c1 : w.cell? ⟨g, 1, none⟩ = some (.nilIface)) (c2 : w.cell? ⟨g, 2, none⟩ = some (.iface t x)) (c3 : w.cell? ⟨g, 3, none⟩ = some (.bool wo)) (c4 : w.cell? ⟨g, 4, none⟩ = some (.slice am nm cm)) :
  Calls Tryz.prog 60 #[.iface 186 (.pointer (some ⟨g, 0, none⟩))] w (RowPost w { zr 9 1 with op := o, without := wo, labels := ls }) := by
 have hmm := methAggregate
 have a1 := asNumber
 have a2 := asText
 have a3 := asSelector
 have a4 := asRange
 have a5 := asSubquery
 have a6 := asUnary
 have a7 := asBinary
 have a8 := asCall
 have a9 := asAggregate
 have HN : Hid (∀ W, Below w.heap.size w W → Calls Tryz.prog 103 #[.iface 186 (.pointer (some ⟨g, 0, none⟩))] W (KidsPost w W [.iface t x])) := Lib.hid fun W hB => tree_kidsOf (NodeAt.aggr (b := b) g hb hg o t x wo _ ls hl c0 c1 c2 c3 c4) hB
 have HCM : Hid (∀ gx cs W, XI w gx cs W → Calls Tryz.prog 106 #[.slice am nm cm] W (CloneXS w gx cs W ls)) := Lib.hid fun gx cs W hW => clone_xs hl hn hW
 clear hl
 go_enter Tryz.func60, Tryz.ntmps60
 go_wp2_with fail
 refine (kindAggregate _ _).mono ?_
 rintro e w2 ⟨rfl, rfl⟩
 go_wp2_with fail
 obtain ⟨w1, hw1⟩ : ∃ w1, w1 = w.alloc (.cells zc 58) := ⟨_, rfl⟩
 have hb1 : Below w.heap.size w w1 := by rw [hw1]; exact (Below.refl w.heap.size w).alloc (Nat.le_refl _) _
 have hz1 : Blk w1 w.heap.size 58 zc := by rw [hw1]; exact Blk.new _ _ _
 simp only [zc] at hw1
 rw [← hw1]
 refine (HN.out _ hb1).mono ?_
 rintro e w2 ⟨s, rfl, hs, hb2, _⟩
 obtain ⟨ao, c, rfl, _⟩ := hs
 obtain ⟨cs, hcs⟩ : ∃ cs : Array Value, cs = rowA (zr 9 1) (.slice none 0 0) (.slice none 0 0) (.slice none 0 0) (.slice none 0 0) := ⟨_, rfl⟩
 obtain ⟨w3, hw3⟩ : ∃ w3, w3 = w2.alloc (.cells cs 58) := ⟨_, rfl⟩
 have hx : XI w w2.heap.size cs w3 := by
  have hb3 : Below w2.heap.size w2 w3 := by rw [hw3]; exact (Below.refl w2.heap.size w2).alloc (Nat.le_refl _) _
  have hz2 := hz1.below hb2 hz1.lt
  have hb12 := hb1.trans (hb2.mono hb1.size)
  exact ⟨hb12.trans (hb3.mono hb12.size), hz2.below hb3 hz2.lt, by rw [hw3]; exact Blk.new _ _ _, hz2.lt⟩
 rw [hcs] at hw3
 simp only [rowA, zr, eS] at hw3
 have HW3 := Lib.hid hw3
 have HCS := Lib.hid hcs
 have HX := Lib.hid hx
 have HXD : Hid (XI w w2.heap.size cs w3.drew) := Lib.hid hx.drew
 have hgx : ¬ g = w2.heap.size := by have := hx.2.2.2; omega
 have hgx2 : ¬ w2.heap.size = g := by have := hx.2.2.2; omega
 have z0 : w3.cell? ⟨g, 0, none⟩ = some (.string o) := (hx.1.cell (p := ⟨g, 0, none⟩) hg).trans c0
 have z1 : w3.cell? ⟨g, 1, none⟩ = some (.nilIface) := (hx.1.cell (p := ⟨g, 1, none⟩) hg).trans c1
 have z2 : w3.cell? ⟨g, 2, none⟩ = some (.iface t x) := (hx.1.cell (p := ⟨g, 2, none⟩) hg).trans c2
 have z3 : w3.cell? ⟨g, 3, none⟩ = some (.bool wo) := (hx.1.cell (p := ⟨g, 3, none⟩) hg).trans c3
 have z4 : w3.cell? ⟨g, 4, none⟩ = some (.slice am nm cm) := (hx.1.cell (p := ⟨g, 4, none⟩) hg).trans c4
 have d0 : w3.drew.cell? ⟨g, 0, none⟩ = some (.string o) := (hx.1.cell (p := ⟨g, 0, none⟩) hg).trans c0
 have d1 : w3.drew.cell? ⟨g, 1, none⟩ = some (.nilIface) := (hx.1.cell (p := ⟨g, 1, none⟩) hg).trans c1
 have d2 : w3.drew.cell? ⟨g, 2, none⟩ = some (.iface t x) := (hx.1.cell (p := ⟨g, 2, none⟩) hg).trans c2
 have d3 : w3.drew.cell? ⟨g, 3, none⟩ = some (.bool wo) := (hx.1.cell (p := ⟨g, 3, none⟩) hg).trans c3
 have d4 : w3.drew.cell? ⟨g, 4, none⟩ = some (.slice am nm cm) := (hx.1.cell (p := ⟨g, 4, none⟩) hg).trans c4
 have y2 : w3.cell? ⟨w2.heap.size, 2, none⟩ = some (.string ⟨#[]⟩) := (hx.2.2.1.cell 2).trans (by rw [hcs]; rfl)
 have e2 : w3.frozen? ⟨w2.heap.size, 2, none⟩ = false := hx.2.2.1.frozen 2
 have x2 : w3.drew.cell? ⟨w2.heap.size, 2, none⟩ = some (.string ⟨#[]⟩) := (hx.2.2.1.cell 2).trans (by rw [hcs]; rfl)
 have f2 : w3.drew.frozen? ⟨w2.heap.size, 2, none⟩ = false := hx.2.2.1.frozen 2
 have y15 : w3.cell? ⟨w2.heap.size, 15, none⟩ = some (.bool false) := (hx.2.2.1.cell 15).trans (by rw [hcs]; rfl)
 have e15 : w3.frozen? ⟨w2.heap.size, 15, none⟩ = false := hx.2.2.1.frozen 15
 have x15 : w3.drew.cell? ⟨w2.heap.size, 15, none⟩ = some (.bool false) := (hx.2.2.1.cell 15).trans (by rw [hcs]; rfl)
 have f15 : w3.drew.frozen? ⟨w2.heap.size, 15, none⟩ = false := hx.2.2.1.frozen 15
 have y16 : w3.cell? ⟨w2.heap.size, 16, none⟩ = some (.slice none 0 0) := (hx.2.2.1.cell 16).trans (by rw [hcs]; rfl)
 have e16 : w3.frozen? ⟨w2.heap.size, 16, none⟩ = false := hx.2.2.1.frozen 16
 have x16 : w3.drew.cell? ⟨w2.heap.size, 16, none⟩ = some (.slice none 0 0) := (hx.2.2.1.cell 16).trans (by rw [hcs]; rfl)
 have f16 : w3.drew.frozen? ⟨w2.heap.size, 16, none⟩ = false := hx.2.2.1.frozen 16
 clear hx hcs hw3 hb1 hb2 hz1 hw1
 have C0 := Lib.hid c0
 have C1 := Lib.hid c1
 have C2 := Lib.hid c2
 have C3 := Lib.hid c3
 have C4 := Lib.hid c4
 clear c0 c1 c2 c3 c4
 go_wp2_with fail
 rw [← HW3.out]
 go_region_held3 (fun W => W.cell? ⟨g, 0, none⟩ = some (.string o) ∧ W.cell? ⟨g, 1, none⟩ = some (.nilIface) ∧ W.cell? ⟨g, 2, none⟩ = some (.iface t x) ∧ W.cell? ⟨g, 3, none⟩ = some (.bool wo) ∧ W.cell? ⟨g, 4, none⟩ = some (.slice am nm cm)) (first | go_keep) (first | (go_at_call 106; (with_reducible refine (HCM.out _ _ _ HXD.out).mono ?_); rintro e wO ⟨al, nl, cl, rfl, h1, hm, hb⟩; have p0 : wO.cell? ⟨g, 0, none⟩ = some (.string o) := (hm.1.cell (p := ⟨g, 0, none⟩) hg).trans C0.out; have p1 : wO.cell? ⟨g, 1, none⟩ = some (.nilIface) := (hm.1.cell (p := ⟨g, 1, none⟩) hg).trans C1.out; have p2 : wO.cell? ⟨g, 2, none⟩ = some (.iface t x) := (hm.1.cell (p := ⟨g, 2, none⟩) hg).trans C2.out; have p3 : wO.cell? ⟨g, 3, none⟩ = some (.bool wo) := (hm.1.cell (p := ⟨g, 3, none⟩) hg).trans C3.out; have p4 : wO.cell? ⟨g, 4, none⟩ = some (.slice am nm cm) := (hm.1.cell (p := ⟨g, 4, none⟩) hg).trans C4.out; have q2 : wO.cell? ⟨w2.heap.size, 2, none⟩ = some (.string ⟨#[]⟩) := (hm.2.2.1.cell 2).trans (by rw [HCS.out]; rfl); have r2 : wO.frozen? ⟨w2.heap.size, 2, none⟩ = false := hm.2.2.1.frozen 2; have q15 : wO.cell? ⟨w2.heap.size, 15, none⟩ = some (.bool false) := (hm.2.2.1.cell 15).trans (by rw [HCS.out]; rfl); have r15 : wO.frozen? ⟨w2.heap.size, 15, none⟩ = false := hm.2.2.1.frozen 15; have q16 : wO.cell? ⟨w2.heap.size, 16, none⟩ = some (.slice none 0 0) := (hm.2.2.1.cell 16).trans (by rw [HCS.out]; rfl); have r16 : wO.frozen? ⟨w2.heap.size, 16, none⟩ = false := hm.2.2.1.frozen 16; have HXO := Lib.hid hm; have HMO := Lib.hid h1; clear hm h1 hb))
 have HXZ := Lib.hid (((HXO.out.set1 2 (.string o)).set1 15 (.bool wo)).set1 16 (.slice al nl cl))
 have HOM := Lib.hid (((HXO.out.set1 2 (.string o)).set1 15 (.bool wo)).own ((HXO.out.set1 2 (.string o)).own (HXO.out.own HMO.out (by decide) 2 (.string o)) (by decide) 15 (.bool wo)) (by decide) 16 (.slice al nl cl))
 rw [HCS.out] at HXZ
 go_wp2_with (first | (refine wpList_load_blk rfl 58 (.tmp 3) rfl w2.heap.size rfl HXZ.out.2.2.1 Tryz.underlying58 info_row ?_) | (refine wpList_store_blk rfl 58 (.tmp 2) (.tmp 142) rfl w.heap.size _ rfl rfl HXZ.out.2.1 info_row rfl rfl ?_))
 intro W' hz hgr
 go_wp2_with fail
 exact bodyPost_ret (results_blk Tryz.results60 rfl hz Tryz.underlying58 info_row) rfl (row_post (r := { zr 9 1 with op := o, without := wo, labels := ls }) (m := .slice none 0 0) (o := .slice none 0 0) (i := .slice none 0 0) (l := .slice al nl cl) ⟨matO_none _ _, strO_none _ _, strO_none _ _, HOM.out, apart_none _, apart_none _, apart_none _⟩ HXZ.out.2.1 hgr HXZ.out.1 (by decide) (by decide))
set_option maxRecDepth 100000 in
set_option maxHeartbeats 1000000 in
theorem rowOf_aggr2 {b : Nat} {w : World} (g : Nat) (hb : b ≤ g) (hg : g < w.heap.size) (o : ByteArray) (t u : TypeId) (x y : Value) (wo : Bool) (am : Option Addr) (nm cm : Nat) (ls : List ByteArray) (hn : ls.length ≤ 1099511627776) (hl : StrS b w (.slice am nm cm) ls) (c0 : w.cell? ⟨g, 0, none⟩ = some (.string o)) (c1 : w.cell? ⟨g, 1, none⟩ = some (.iface u y)) (c2 : w.cell? ⟨g, 2, none⟩ = some (.iface t x)) (c3 : w.cell? ⟨g, 3, none⟩ = some (.bool wo)) (c4 : w.cell? ⟨g, 4, none⟩ = some (.slice am nm cm)) :
  Calls Tryz.prog 60 #[.iface 186 (.pointer (some ⟨g, 0, none⟩))] w (RowPost w { zr 9 2 with op := o, without := wo, labels := ls }) := by
 have hmm := methAggregate
 have a1 := asNumber
 have a2 := asText
 have a3 := asSelector
 have a4 := asRange
 have a5 := asSubquery
 have a6 := asUnary
 have a7 := asBinary
 have a8 := asCall
 have a9 := asAggregate
 have HN : Hid (∀ W, Below w.heap.size w W → Calls Tryz.prog 103 #[.iface 186 (.pointer (some ⟨g, 0, none⟩))] W (KidsPost w W [.iface u y, .iface t x])) := Lib.hid fun W hB => tree_kidsOf (NodeAt.aggr2 (b := b) g hb hg o t u x y wo _ ls hl c0 c1 c2 c3 c4) hB
 have HCM : Hid (∀ gx cs W, XI w gx cs W → Calls Tryz.prog 106 #[.slice am nm cm] W (CloneXS w gx cs W ls)) := Lib.hid fun gx cs W hW => clone_xs hl hn hW
 clear hl
 go_enter Tryz.func60, Tryz.ntmps60
 go_wp2_with fail
 refine (kindAggregate _ _).mono ?_
 rintro e w2 ⟨rfl, rfl⟩
 go_wp2_with fail
 obtain ⟨w1, hw1⟩ : ∃ w1, w1 = w.alloc (.cells zc 58) := ⟨_, rfl⟩
 have hb1 : Below w.heap.size w w1 := by rw [hw1]; exact (Below.refl w.heap.size w).alloc (Nat.le_refl _) _
 have hz1 : Blk w1 w.heap.size 58 zc := by rw [hw1]; exact Blk.new _ _ _
 simp only [zc] at hw1
 rw [← hw1]
 refine (HN.out _ hb1).mono ?_
 rintro e w2 ⟨s, rfl, hs, hb2, _⟩
 obtain ⟨ao, c, rfl, _⟩ := hs
 obtain ⟨cs, hcs⟩ : ∃ cs : Array Value, cs = rowA (zr 9 2) (.slice none 0 0) (.slice none 0 0) (.slice none 0 0) (.slice none 0 0) := ⟨_, rfl⟩
 obtain ⟨w3, hw3⟩ : ∃ w3, w3 = w2.alloc (.cells cs 58) := ⟨_, rfl⟩
 have hx : XI w w2.heap.size cs w3 := by
  have hb3 : Below w2.heap.size w2 w3 := by rw [hw3]; exact (Below.refl w2.heap.size w2).alloc (Nat.le_refl _) _
  have hz2 := hz1.below hb2 hz1.lt
  have hb12 := hb1.trans (hb2.mono hb1.size)
  exact ⟨hb12.trans (hb3.mono hb12.size), hz2.below hb3 hz2.lt, by rw [hw3]; exact Blk.new _ _ _, hz2.lt⟩
 rw [hcs] at hw3
 simp only [rowA, zr, eS] at hw3
 have HW3 := Lib.hid hw3
 have HCS := Lib.hid hcs
 have HX := Lib.hid hx
 have HXD : Hid (XI w w2.heap.size cs w3.drew) := Lib.hid hx.drew
 have hgx : ¬ g = w2.heap.size := by have := hx.2.2.2; omega
 have hgx2 : ¬ w2.heap.size = g := by have := hx.2.2.2; omega
 have z0 : w3.cell? ⟨g, 0, none⟩ = some (.string o) := (hx.1.cell (p := ⟨g, 0, none⟩) hg).trans c0
 have z1 : w3.cell? ⟨g, 1, none⟩ = some (.iface u y) := (hx.1.cell (p := ⟨g, 1, none⟩) hg).trans c1
 have z2 : w3.cell? ⟨g, 2, none⟩ = some (.iface t x) := (hx.1.cell (p := ⟨g, 2, none⟩) hg).trans c2
 have z3 : w3.cell? ⟨g, 3, none⟩ = some (.bool wo) := (hx.1.cell (p := ⟨g, 3, none⟩) hg).trans c3
 have z4 : w3.cell? ⟨g, 4, none⟩ = some (.slice am nm cm) := (hx.1.cell (p := ⟨g, 4, none⟩) hg).trans c4
 have d0 : w3.drew.cell? ⟨g, 0, none⟩ = some (.string o) := (hx.1.cell (p := ⟨g, 0, none⟩) hg).trans c0
 have d1 : w3.drew.cell? ⟨g, 1, none⟩ = some (.iface u y) := (hx.1.cell (p := ⟨g, 1, none⟩) hg).trans c1
 have d2 : w3.drew.cell? ⟨g, 2, none⟩ = some (.iface t x) := (hx.1.cell (p := ⟨g, 2, none⟩) hg).trans c2
 have d3 : w3.drew.cell? ⟨g, 3, none⟩ = some (.bool wo) := (hx.1.cell (p := ⟨g, 3, none⟩) hg).trans c3
 have d4 : w3.drew.cell? ⟨g, 4, none⟩ = some (.slice am nm cm) := (hx.1.cell (p := ⟨g, 4, none⟩) hg).trans c4
 have y2 : w3.cell? ⟨w2.heap.size, 2, none⟩ = some (.string ⟨#[]⟩) := (hx.2.2.1.cell 2).trans (by rw [hcs]; rfl)
 have e2 : w3.frozen? ⟨w2.heap.size, 2, none⟩ = false := hx.2.2.1.frozen 2
 have x2 : w3.drew.cell? ⟨w2.heap.size, 2, none⟩ = some (.string ⟨#[]⟩) := (hx.2.2.1.cell 2).trans (by rw [hcs]; rfl)
 have f2 : w3.drew.frozen? ⟨w2.heap.size, 2, none⟩ = false := hx.2.2.1.frozen 2
 have y15 : w3.cell? ⟨w2.heap.size, 15, none⟩ = some (.bool false) := (hx.2.2.1.cell 15).trans (by rw [hcs]; rfl)
 have e15 : w3.frozen? ⟨w2.heap.size, 15, none⟩ = false := hx.2.2.1.frozen 15
 have x15 : w3.drew.cell? ⟨w2.heap.size, 15, none⟩ = some (.bool false) := (hx.2.2.1.cell 15).trans (by rw [hcs]; rfl)
 have f15 : w3.drew.frozen? ⟨w2.heap.size, 15, none⟩ = false := hx.2.2.1.frozen 15
 have y16 : w3.cell? ⟨w2.heap.size, 16, none⟩ = some (.slice none 0 0) := (hx.2.2.1.cell 16).trans (by rw [hcs]; rfl)
 have e16 : w3.frozen? ⟨w2.heap.size, 16, none⟩ = false := hx.2.2.1.frozen 16
 have x16 : w3.drew.cell? ⟨w2.heap.size, 16, none⟩ = some (.slice none 0 0) := (hx.2.2.1.cell 16).trans (by rw [hcs]; rfl)
 have f16 : w3.drew.frozen? ⟨w2.heap.size, 16, none⟩ = false := hx.2.2.1.frozen 16
 clear hx hcs hw3 hb1 hb2 hz1 hw1
 have C0 := Lib.hid c0
 have C1 := Lib.hid c1
 have C2 := Lib.hid c2
 have C3 := Lib.hid c3
 have C4 := Lib.hid c4
 clear c0 c1 c2 c3 c4
 go_wp2_with fail
 rw [← HW3.out]
 go_region_held3 (fun W => W.cell? ⟨g, 0, none⟩ = some (.string o) ∧ W.cell? ⟨g, 1, none⟩ = some (.iface u y) ∧ W.cell? ⟨g, 2, none⟩ = some (.iface t x) ∧ W.cell? ⟨g, 3, none⟩ = some (.bool wo) ∧ W.cell? ⟨g, 4, none⟩ = some (.slice am nm cm)) (first | go_keep) (first | (go_at_call 106; (with_reducible refine (HCM.out _ _ _ HXD.out).mono ?_); rintro e wO ⟨al, nl, cl, rfl, h1, hm, hb⟩; have p0 : wO.cell? ⟨g, 0, none⟩ = some (.string o) := (hm.1.cell (p := ⟨g, 0, none⟩) hg).trans C0.out; have p1 : wO.cell? ⟨g, 1, none⟩ = some (.iface u y) := (hm.1.cell (p := ⟨g, 1, none⟩) hg).trans C1.out; have p2 : wO.cell? ⟨g, 2, none⟩ = some (.iface t x) := (hm.1.cell (p := ⟨g, 2, none⟩) hg).trans C2.out; have p3 : wO.cell? ⟨g, 3, none⟩ = some (.bool wo) := (hm.1.cell (p := ⟨g, 3, none⟩) hg).trans C3.out; have p4 : wO.cell? ⟨g, 4, none⟩ = some (.slice am nm cm) := (hm.1.cell (p := ⟨g, 4, none⟩) hg).trans C4.out; have q2 : wO.cell? ⟨w2.heap.size, 2, none⟩ = some (.string ⟨#[]⟩) := (hm.2.2.1.cell 2).trans (by rw [HCS.out]; rfl); have r2 : wO.frozen? ⟨w2.heap.size, 2, none⟩ = false := hm.2.2.1.frozen 2; have q15 : wO.cell? ⟨w2.heap.size, 15, none⟩ = some (.bool false) := (hm.2.2.1.cell 15).trans (by rw [HCS.out]; rfl); have r15 : wO.frozen? ⟨w2.heap.size, 15, none⟩ = false := hm.2.2.1.frozen 15; have q16 : wO.cell? ⟨w2.heap.size, 16, none⟩ = some (.slice none 0 0) := (hm.2.2.1.cell 16).trans (by rw [HCS.out]; rfl); have r16 : wO.frozen? ⟨w2.heap.size, 16, none⟩ = false := hm.2.2.1.frozen 16; have HXO := Lib.hid hm; have HMO := Lib.hid h1; clear hm h1 hb))
 have HXZ := Lib.hid (((HXO.out.set1 2 (.string o)).set1 15 (.bool wo)).set1 16 (.slice al nl cl))
 have HOM := Lib.hid (((HXO.out.set1 2 (.string o)).set1 15 (.bool wo)).own ((HXO.out.set1 2 (.string o)).own (HXO.out.own HMO.out (by decide) 2 (.string o)) (by decide) 15 (.bool wo)) (by decide) 16 (.slice al nl cl))
 rw [HCS.out] at HXZ
 go_wp2_with (first | (refine wpList_load_blk rfl 58 (.tmp 3) rfl w2.heap.size rfl HXZ.out.2.2.1 Tryz.underlying58 info_row ?_) | (refine wpList_store_blk rfl 58 (.tmp 2) (.tmp 142) rfl w.heap.size _ rfl rfl HXZ.out.2.1 info_row rfl rfl ?_))
 intro W' hz hgr
 go_wp2_with fail
 exact bodyPost_ret (results_blk Tryz.results60 rfl hz Tryz.underlying58 info_row) rfl (row_post (r := { zr 9 2 with op := o, without := wo, labels := ls }) (m := .slice none 0 0) (o := .slice none 0 0) (i := .slice none 0 0) (l := .slice al nl cl) ⟨matO_none _ _, strO_none _ _, strO_none _ _, HOM.out, apart_none _, apart_none _, apart_none _⟩ HXZ.out.2.1 hgr HXZ.out.1 (by decide) (by decide))
end Go.Proofs.YtibcjfjacielbaaGreatDoor
