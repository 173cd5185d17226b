import Derived.Test.YtibcjfjacielbaaGreatDoorG27
import Derived.Test.YtibcjfjacielbaaGreatDoorG31
/- Part of the proof of YtibcjfjacielbaaGreatDoorCardG: TrZk TrZr TsE TsF. -/
set_option linter.unusedVariables false
set_option linter.unusedSimpArgs false
namespace Go.Proofs.YtibcjfjacielbaaGreatDoor
open Go.RowKit
def RowsC (w : World) (v : Value) (rs : List PR) : Prop := RowsS 0 w v rs ∧ ∃ ao c, v = .slice ao rs.length c ∧ rs.length ≤ c
theorem RowsC.below {w w' : World} {v : Value} {rs : List PR} (h : RowsC w v rs) (hb : Below w.heap.size w w') : RowsC w' v rs := ⟨h.1.below hb, h.2⟩
theorem RowsC.tail {w : World} {g o n c : Nat} {r : PR} {l : List PR} (h : RowsC w (.slice (some ⟨g, o, none⟩) n c) (r :: l)) : RowsC w (.slice (some ⟨g, o + 17, none⟩) l.length (c - 1)) l := by
 obtain ⟨⟨ao, c', hv, hc⟩, ao2, c2, hv2, hle⟩ := h
 injection hv2 with e1 e2 e3
 subst e3
 refine ⟨⟨_, _, rfl, fun j hj => ?_⟩, _, _, rfl, by simp only [List.length_cons] at hle; omega⟩
 obtain ⟨g', o', he, hb, hg, vm, vo, vi, vl, h1, h2⟩ := hc (j + 1) (by simp; omega)
 injection hv with e4 _ _
 rw [← e4] at he
 cases he
 refine ⟨g, o + 17, rfl, hb, hg, vm, vo, vi, vl, h1, fun k hk => ?_⟩
 have := h2 k hk
 rw [show o + 17 + j * 17 + k = o + (j + 1) * 17 + k by omega]
 exact this
theorem RowsC.none_ {w : World} {a : Option Addr} {c : Nat} : RowsC w (.slice a 0 c) [] := ⟨⟨a, c, rfl, fun j h => absurd h (by simp)⟩, a, c, rfl, Nat.zero_le _⟩
def BuiltPost (B : Nat) (w0 w : World) (d : Nat) (x y : List PR) (e : Ending) (w' : World) : Prop :=
 ∃ nv s, e = .returned (.tuple #[nv, s]) ∧ TreeAt B w' d nv (annot d x) ∧ RowsC w0 s y ∧ Below w.heap.size w w'
theorem rangesB_suffix : ∀ (x y : List PR), rangesB (x ++ y) = true → rangesB y = true
 | [], _, h => h
 |r :: x, y, h => by
  rw [List.cons_append, rangesB, Bool.and_eq_true] at h
  exact rangesB_suffix x y h.2
theorem range_row {r : PR} (h : soundRow r = true) (h4 : r.kind = 4) : r = { zr 4 1 with dur := r.dur } := by
 obtain ⟨hkb, _, hu⟩ := sound_parts h
 obtain ⟨kind, kids, op, text, ms, dur, step, off, tim, bool, given, on, mls, card, inc, without, labels⟩ := r
 simp only at *
 subst h4
 simp [unP, zr] at hu
 simp [kidsB] at hkb
 simp [zr, hu, hkb]
theorem sel_row {r : PR} (h : soundRow r = true) (h3 : r.kind = 3) : r = { zr 3 0 with text := r.text, ms := r.ms, off := r.off, tim := r.tim } := by
 obtain ⟨hkb, _, hu⟩ := sound_parts h
 obtain ⟨kind, kids, op, text, ms, dur, step, off, tim, bool, given, on, mls, card, inc, without, labels⟩ := r
 simp only at *
 subst h3
 simp [unP, zr] at hu
 simp [kidsB] at hkb
 simp [zr, hu, hkb]
theorem range_post {B gs d : Nat} {w0 w wc WM : World} {r q : PR} {y : List PR} {SV : Value} (hB : B ≤ w.heap.size) (hsr : soundRow r = true) (h4 : r.kind = 4) (hqs : soundRow q = true) (hq3 : q.kind = 3) (hrow : RowsC w0 SV y) (hb1 : Below w.heap.size w wc)
  (hnd : NodeAt wc.drew.heap.size WM (.iface 93 (.pointer (some ⟨gs, 0, none⟩))) { zr 3 0 with text := q.text, ms := q.ms, off := q.off, tim := q.tim } []) (hb : Below wc.drew.heap.size wc.drew WM) :
  BuiltPost B w0 w d [r, q] y (.returned (.tuple #[.iface 170 (.pointer (some ⟨WM.heap.size, 0, none⟩)), SV])) (WM.alloc (.cells #[.pointer (some ⟨gs, 0, none⟩), .string r.dur] 172)) := by
 have hl1 := hb1.size
 have hl2 : wc.heap.size ≤ WM.heap.size := hb.size
 have hba : Below WM.heap.size WM (WM.alloc (.cells #[.pointer (some ⟨gs, 0, none⟩), .string r.dur] 172)) := (Below.refl _ _).alloc (Nat.le_refl _) _
 have hz := Blk.new WM 172 #[.pointer (some ⟨gs, 0, none⟩), .string r.dur]
 rw [← sel_row hqs hq3] at hnd
 have hk := TreeAt.mk (d + 1) _ q [] (fun _ => []) ((hnd.below hba).lo (b' := B) (by show B ≤ wc.heap.size; omega)) (fun i h => absurd h (by simp))
 have hn := NodeAt.range (b := B) (w := WM.alloc (.cells #[.pointer (some ⟨gs, 0, none⟩), .string r.dur] 172)) WM.heap.size (by omega) hz.lt r.dur gs (hz.cell 0) (hz.cell 1)
 rw [← range_row hsr h4] at hn
 have hT := TreeAt.mk d _ r _ (fun _ => [(d + 1, q)]) hn (fun i h => by
  have h0 : i = 0 := by simpa using h
  subst h0
  exact hk)
 have hA := hT.annot
 have e : (((d, r) :: (List.range [Value.iface 93 (.pointer (some ⟨gs, 0, none⟩))].length).flatMap fun _ => [(d + 1, q)]).map (·.2) : List PR) = [r, q] := rfl
 rw [e] at hA
 rw [hA] at hT
 exact ⟨_, SV, rfl, hT, hrow, (hb1.drew.trans (hb.mono hl1)).trans (hba.mono (by omega))⟩
theorem slice_rows (a : Addr) (n k : Nat) (h : n + 1 ≤ k) (W : World) : (Instr.slice 39 (.slice (some a) (n + 1) k) (some (.int .i64 1)) none none).run Tryz.prog W = .ok (.slice (if k = 1 then some a else some (a.add 17)) n (k - 1)) W := by
 have h1 : (1 : Int) ≤ (n : Int) + 1 := by omega
 have h2 : (n : Int) + 1 ≤ (k : Int) := by omega
 have hu := Tryz.underlying39
 have hs : ∀ W, (sizeOf 58).run Tryz.prog W = .ok 17 W := fun W => by kernel_rfl
 unfold Instr.slice
 simp [go_sem, run_underlying hu, h, h1, h2, hs]
set_option maxRecDepth 100000 in
set_option maxHeartbeats 4000000 in
theorem built_range {B : Nat} {w0 w : World} {r q : PR} {y : List PR} {d : Nat} {v : Value} (hB : B ≤ w.heap.size) (hw0 : Below w0.heap.size w0 w) (hrows : RowsC w0 v (r :: q :: y)) (hsr : soundRow r = true) (h4 : r.kind = 4) (hq3 : q.kind = 3) (hqs : soundRow q = true) (hql : LenOK q) (hlen : y.length ≤ 1099511627776) :
  Calls Tryz.prog 65 #[v] w (BuiltPost B w0 w d [r, q] y) := by
 obtain ⟨ao, c, rfl, hle⟩ := hrows.2
 have hrc := hrows
 obtain ⟨_, _, hv, hc⟩ := (hrows.below hw0).1
 injection hv with e1 e2 e3
 subst e1 e3
 obtain ⟨g, o, rfl, _, hg, vm, vo, vi, vl, hls, hcs⟩ := hc 0 (by simp)
 obtain ⟨g', o', he, _, _, um, uo, ui, ul, hlq, hcq⟩ := hc 1 (by simp)
 cases he
 simp only [List.getElem_cons_zero, List.getElem_cons_succ, Nat.zero_mul, Nat.add_zero, Nat.one_mul] at hls hcs hlq hcq
 obtain ⟨⟨am1, cm1, rfl, _⟩, ⟨ao1, co1, rfl, _⟩, ⟨ai1, ci1, rfl, _⟩, ⟨al1, cl1, rfl, _⟩⟩ := id hls
 obtain ⟨⟨am2, cm2, rfl, _⟩, ⟨ao2, co2, rfl, _⟩, ⟨ai2, ci2, rfl, _⟩, ⟨al2, cl2, rfl, _⟩⟩ := id hlq
 obtain ⟨nm1, hnm1⟩ : ∃ n, n = r.ms.length := ⟨_, rfl⟩
 obtain ⟨no1, hno1⟩ : ∃ n, n = r.mls.length := ⟨_, rfl⟩
 obtain ⟨ni1, hni1⟩ : ∃ n, n = r.inc.length := ⟨_, rfl⟩
 obtain ⟨nl1, hnl1⟩ : ∃ n, n = r.labels.length := ⟨_, rfl⟩
 obtain ⟨nm2, hnm2⟩ : ∃ n, n = q.ms.length := ⟨_, rfl⟩
 obtain ⟨no2, hno2⟩ : ∃ n, n = q.mls.length := ⟨_, rfl⟩
 obtain ⟨ni2, hni2⟩ : ∃ n, n = q.inc.length := ⟨_, rfl⟩
 obtain ⟨nl2, hnl2⟩ : ∃ n, n = q.labels.length := ⟨_, rfl⟩
 rw [← hnm1, ← hno1, ← hni1, ← hnl1] at hls hcs
 rw [← hnm2, ← hno2, ← hni2, ← hnl2] at hlq hcq
 have HR2 : Hid (RowsC w0 (.slice (some ⟨g, o + 17, none⟩) (q :: y).length (c - 1)) (q :: y)) := Lib.hid hrc.tail
 simp only [List.length_cons] at hle
 obtain ⟨n, hn⟩ : ∃ n, n = y.length := ⟨_, rfl⟩
 have hLn : (r :: q :: y).length = n + 1 + 1 := by rw [hn]; simp
 rw [hLn]
 rw [← hn] at hle hlen
 obtain ⟨k, rfl⟩ : ∃ k, c = k + 1 := ⟨c - 1, by omega⟩
 have hkn : nk r = 1 := by
  have h1 := (sound_parts hsr).1
  rw [h4] at h1
  simp [kidsB] at h1
  unfold nk; omega
 have HMM : Hid (∀ W, Below w.heap.size w W → Calls Tryz.prog 59 #[.agg #[.int .i64 q.kind, .int .i64 q.kids, .string q.op, .string q.text, .slice am2 nm2 cm2, .string q.dur, .string q.step, .string q.off, .string q.tim, .bool q.bool, .bool q.given, .bool q.on, .slice ao2 no2 co2, .int .i64 q.card, .slice ai2 ni2 ci2, .bool q.without, .slice al2 nl2 cl2]] W (SelPost W q)) := Lib.hid fun W hb => tree_selector (r := q) (hlq.1.below hb) hql.1
 have c0 : w.cell? ⟨g, o, none⟩ = some (.int .i64 r.kind) := hcs 0 (by omega)
 have c1 : w.cell? ⟨g, o + 1, none⟩ = some (.int .i64 r.kids) := hcs 1 (by omega)
 have c2 : w.cell? ⟨g, o + 2, none⟩ = some (.string r.op) := hcs 2 (by omega)
 have c3 : w.cell? ⟨g, o + 3, none⟩ = some (.string r.text) := hcs 3 (by omega)
 have c4 : w.cell? ⟨g, o + 4, none⟩ = some (.slice am1 nm1 cm1) := hcs 4 (by omega)
 have c5 : w.cell? ⟨g, o + 5, none⟩ = some (.string r.dur) := hcs 5 (by omega)
 have c6 : w.cell? ⟨g, o + 6, none⟩ = some (.string r.step) := hcs 6 (by omega)
 have c7 : w.cell? ⟨g, o + 7, none⟩ = some (.string r.off) := hcs 7 (by omega)
 have c8 : w.cell? ⟨g, o + 8, none⟩ = some (.string r.tim) := hcs 8 (by omega)
 have c9 : w.cell? ⟨g, o + 9, none⟩ = some (.bool r.bool) := hcs 9 (by omega)
 have c10 : w.cell? ⟨g, o + 10, none⟩ = some (.bool r.given) := hcs 10 (by omega)
 have c11 : w.cell? ⟨g, o + 11, none⟩ = some (.bool r.on) := hcs 11 (by omega)
 have c12 : w.cell? ⟨g, o + 12, none⟩ = some (.slice ao1 no1 co1) := hcs 12 (by omega)
 have c13 : w.cell? ⟨g, o + 13, none⟩ = some (.int .i64 r.card) := hcs 13 (by omega)
 have c14 : w.cell? ⟨g, o + 14, none⟩ = some (.slice ai1 ni1 ci1) := hcs 14 (by omega)
 have c15 : w.cell? ⟨g, o + 15, none⟩ = some (.bool r.without) := hcs 15 (by omega)
 have c16 : w.cell? ⟨g, o + 16, none⟩ = some (.slice al1 nl1 cl1) := hcs 16 (by omega)
 have M0 : Hid (w.cell? ⟨g, o + 17, none⟩ = some (.int .i64 q.kind)) := Lib.hid (hcq 0 (by omega))
 have M1 : Hid (w.cell? ⟨g, o + 17 + 1, none⟩ = some (.int .i64 q.kids)) := Lib.hid (hcq 1 (by omega))
 have M2 : Hid (w.cell? ⟨g, o + 17 + 2, none⟩ = some (.string q.op)) := Lib.hid (hcq 2 (by omega))
 have M3 : Hid (w.cell? ⟨g, o + 17 + 3, none⟩ = some (.string q.text)) := Lib.hid (hcq 3 (by omega))
 have M4 : Hid (w.cell? ⟨g, o + 17 + 4, none⟩ = some (.slice am2 nm2 cm2)) := Lib.hid (hcq 4 (by omega))
 have M5 : Hid (w.cell? ⟨g, o + 17 + 5, none⟩ = some (.string q.dur)) := Lib.hid (hcq 5 (by omega))
 have M6 : Hid (w.cell? ⟨g, o + 17 + 6, none⟩ = some (.string q.step)) := Lib.hid (hcq 6 (by omega))
 have M7 : Hid (w.cell? ⟨g, o + 17 + 7, none⟩ = some (.string q.off)) := Lib.hid (hcq 7 (by omega))
 have M8 : Hid (w.cell? ⟨g, o + 17 + 8, none⟩ = some (.string q.tim)) := Lib.hid (hcq 8 (by omega))
 have M9 : Hid (w.cell? ⟨g, o + 17 + 9, none⟩ = some (.bool q.bool)) := Lib.hid (hcq 9 (by omega))
 have M10 : Hid (w.cell? ⟨g, o + 17 + 10, none⟩ = some (.bool q.given)) := Lib.hid (hcq 10 (by omega))
 have M11 : Hid (w.cell? ⟨g, o + 17 + 11, none⟩ = some (.bool q.on)) := Lib.hid (hcq 11 (by omega))
 have M12 : Hid (w.cell? ⟨g, o + 17 + 12, none⟩ = some (.slice ao2 no2 co2)) := Lib.hid (hcq 12 (by omega))
 have M13 : Hid (w.cell? ⟨g, o + 17 + 13, none⟩ = some (.int .i64 q.card)) := Lib.hid (hcq 13 (by omega))
 have M14 : Hid (w.cell? ⟨g, o + 17 + 14, none⟩ = some (.slice ai2 ni2 ci2)) := Lib.hid (hcq 14 (by omega))
 have M15 : Hid (w.cell? ⟨g, o + 17 + 15, none⟩ = some (.bool q.without)) := Lib.hid (hcq 15 (by omega))
 have M16 : Hid (w.cell? ⟨g, o + 17 + 16, none⟩ = some (.slice al2 nl2 cl2)) := Lib.hid (hcq 16 (by omega))
 have HN := Lib.hid hn
 have HKN := Lib.hid hkn
 have HH := Lib.hid (And.intro hsr (And.intro hqs (And.intro hq3 (And.intro hw0 (And.intro hB hls)))))
 have p4 : (r.kind == 4) = true := by simp [h4]
 have H4 := Lib.hid h4
 have q0 : ((k : Int) + 1 = 1) = False := eq_false (by omega)
 have q00 : (k + 1 = 1) = False := eq_false (by omega)
 have q000 : (k = 0) = False := eq_false (by omega)
 clear hcs hc hrows hrc hsr hkn hnm1 hno1 hni1 hnl1 hnm2 hno2 hni2 hnl2 hlq hcq hls h4 hq3 hqs hql hLn hn hB hw0
 go_enter Tryz.func65, Tryz.ntmps65
 go_upto_region 2 with (refine wpList_store_blk rfl 58 (.tmp 4) (.tmp 9) rfl w.heap.size _ rfl rfl (Blk.new _ _ _) info_row rfl rfl ?_)
 intro W' hz hgr
 go_upto_region 2 with (fail)
 have hb1 : Below w.heap.size w W' := below_grow ((Below.refl w.heap.size w).alloc (Nat.le_refl _) _) hgr (by simp) (Nat.le_refl _)
 have HZ := Lib.hid hz
 have HB1 := Lib.hid hb1
 clear hz hgr hb1 c0 c1 c2 c3 c4 c5 c6 c7 c8 c9 c10 c11 c12 c13 c14 c15 c16
 go_cut [0] from 10 to 11 (fun t0 wx => ∃ oq, t0 = .slice (some ⟨g, oq, none⟩) (n + 1) k ∧ wx = W' ∧ Hid (oq = o + 17))
 case first =>
  go_wp2_with fail
  go_meet
  exact ⟨_, rfl, rfl, Lib.hid rfl⟩
 case rest =>
  obtain ⟨oq, rfl, rfl, hoq⟩ := hcut
  have z0 : wc.cell? ⟨w.heap.size, 0, none⟩ = some (.int .i64 r.kind) := HZ.out.cell 0
  have s1 := HZ.out.lt
  have hgl : g < wc.heap.size := Nat.lt_of_lt_of_le hg HB1.out.size
  have z5 : wc.cell? ⟨w.heap.size, 5, none⟩ = some (.string r.dur) := HZ.out.cell 5
  have d5 : wc.drew.cell? ⟨w.heap.size, 5, none⟩ = some (.string r.dur) := z5
  have Z5 := Lib.hid z5
  have n0 : wc.cell? ⟨g, oq, none⟩ = some (.int .i64 q.kind) := by rw [hoq.out]; exact (HB1.out.cell (p := ⟨g, _, none⟩) hg).trans M0.out
  have m0 : wc.drew.cell? ⟨g, oq, none⟩ = some (.int .i64 q.kind) := n0
  have N0 := Lib.hid n0
  have n1 : wc.cell? ⟨g, oq + 1, none⟩ = some (.int .i64 q.kids) := by rw [hoq.out]; exact (HB1.out.cell (p := ⟨g, _, none⟩) hg).trans M1.out
  have m1 : wc.drew.cell? ⟨g, oq + 1, none⟩ = some (.int .i64 q.kids) := n1
  have N1 := Lib.hid n1
  have n2 : wc.cell? ⟨g, oq + 2, none⟩ = some (.string q.op) := by rw [hoq.out]; exact (HB1.out.cell (p := ⟨g, _, none⟩) hg).trans M2.out
  have m2 : wc.drew.cell? ⟨g, oq + 2, none⟩ = some (.string q.op) := n2
  have N2 := Lib.hid n2
  have n3 : wc.cell? ⟨g, oq + 3, none⟩ = some (.string q.text) := by rw [hoq.out]; exact (HB1.out.cell (p := ⟨g, _, none⟩) hg).trans M3.out
  have m3 : wc.drew.cell? ⟨g, oq + 3, none⟩ = some (.string q.text) := n3
  have N3 := Lib.hid n3
  have n4 : wc.cell? ⟨g, oq + 4, none⟩ = some (.slice am2 nm2 cm2) := by rw [hoq.out]; exact (HB1.out.cell (p := ⟨g, _, none⟩) hg).trans M4.out
  have m4 : wc.drew.cell? ⟨g, oq + 4, none⟩ = some (.slice am2 nm2 cm2) := n4
  have N4 := Lib.hid n4
  have n5 : wc.cell? ⟨g, oq + 5, none⟩ = some (.string q.dur) := by rw [hoq.out]; exact (HB1.out.cell (p := ⟨g, _, none⟩) hg).trans M5.out
  have m5 : wc.drew.cell? ⟨g, oq + 5, none⟩ = some (.string q.dur) := n5
  have N5 := Lib.hid n5
  have n6 : wc.cell? ⟨g, oq + 6, none⟩ = some (.string q.step) := by rw [hoq.out]; exact (HB1.out.cell (p := ⟨g, _, none⟩) hg).trans M6.out
  have m6 : wc.drew.cell? ⟨g, oq + 6, none⟩ = some (.string q.step) := n6
  have N6 := Lib.hid n6
  have n7 : wc.cell? ⟨g, oq + 7, none⟩ = some (.string q.off) := by rw [hoq.out]; exact (HB1.out.cell (p := ⟨g, _, none⟩) hg).trans M7.out
  have m7 : wc.drew.cell? ⟨g, oq + 7, none⟩ = some (.string q.off) := n7
  have N7 := Lib.hid n7
  have n8 : wc.cell? ⟨g, oq + 8, none⟩ = some (.string q.tim) := by rw [hoq.out]; exact (HB1.out.cell (p := ⟨g, _, none⟩) hg).trans M8.out
  have m8 : wc.drew.cell? ⟨g, oq + 8, none⟩ = some (.string q.tim) := n8
  have N8 := Lib.hid n8
  have n9 : wc.cell? ⟨g, oq + 9, none⟩ = some (.bool q.bool) := by rw [hoq.out]; exact (HB1.out.cell (p := ⟨g, _, none⟩) hg).trans M9.out
  have m9 : wc.drew.cell? ⟨g, oq + 9, none⟩ = some (.bool q.bool) := n9
  have N9 := Lib.hid n9
  have n10 : wc.cell? ⟨g, oq + 10, none⟩ = some (.bool q.given) := by rw [hoq.out]; exact (HB1.out.cell (p := ⟨g, _, none⟩) hg).trans M10.out
  have m10 : wc.drew.cell? ⟨g, oq + 10, none⟩ = some (.bool q.given) := n10
  have N10 := Lib.hid n10
  have n11 : wc.cell? ⟨g, oq + 11, none⟩ = some (.bool q.on) := by rw [hoq.out]; exact (HB1.out.cell (p := ⟨g, _, none⟩) hg).trans M11.out
  have m11 : wc.drew.cell? ⟨g, oq + 11, none⟩ = some (.bool q.on) := n11
  have N11 := Lib.hid n11
  have n12 : wc.cell? ⟨g, oq + 12, none⟩ = some (.slice ao2 no2 co2) := by rw [hoq.out]; exact (HB1.out.cell (p := ⟨g, _, none⟩) hg).trans M12.out
  have m12 : wc.drew.cell? ⟨g, oq + 12, none⟩ = some (.slice ao2 no2 co2) := n12
  have N12 := Lib.hid n12
  have n13 : wc.cell? ⟨g, oq + 13, none⟩ = some (.int .i64 q.card) := by rw [hoq.out]; exact (HB1.out.cell (p := ⟨g, _, none⟩) hg).trans M13.out
  have m13 : wc.drew.cell? ⟨g, oq + 13, none⟩ = some (.int .i64 q.card) := n13
  have N13 := Lib.hid n13
  have n14 : wc.cell? ⟨g, oq + 14, none⟩ = some (.slice ai2 ni2 ci2) := by rw [hoq.out]; exact (HB1.out.cell (p := ⟨g, _, none⟩) hg).trans M14.out
  have m14 : wc.drew.cell? ⟨g, oq + 14, none⟩ = some (.slice ai2 ni2 ci2) := n14
  have N14 := Lib.hid n14
  have n15 : wc.cell? ⟨g, oq + 15, none⟩ = some (.bool q.without) := by rw [hoq.out]; exact (HB1.out.cell (p := ⟨g, _, none⟩) hg).trans M15.out
  have m15 : wc.drew.cell? ⟨g, oq + 15, none⟩ = some (.bool q.without) := n15
  have N15 := Lib.hid n15
  have n16 : wc.cell? ⟨g, oq + 16, none⟩ = some (.slice al2 nl2 cl2) := by rw [hoq.out]; exact (HB1.out.cell (p := ⟨g, _, none⟩) hg).trans M16.out
  have m16 : wc.drew.cell? ⟨g, oq + 16, none⟩ = some (.slice al2 nl2 cl2) := n16
  have N16 := Lib.hid n16
  go_upto_region 4 with (fail)
  obtain ⟨SV, hSV⟩ : ∃ SV, SV = Value.slice (if k = 1 then some ⟨g, oq, none⟩ else some ((⟨g, oq, none⟩ : Addr).add 17)) n (k - 1) := ⟨_, rfl⟩
  have sl : ∀ W, (Instr.slice 39 (.slice (some ⟨g, oq, none⟩) (n + 1) k) (some (.int .i64 1)) none none).run Tryz.prog W = .ok SV W := fun W => by rw [hSV]; exact slice_rows _ n k (by omega) W
  have HSV : Hid (RowsC w0 SV y) := Lib.hid (by
   rw [hSV]
   by_cases e : k = 1
   ·have h0 : y = [] := List.length_eq_zero_iff.1 (by rw [← HN.out]; omega)
    subst h0
    have : n = 0 := by omega
    subst this
    exact RowsC.none_
   ·rw [if_neg e, HN.out, hoq.out]
    have h1 := HR2.out
    rw [Nat.add_sub_cancel] at h1
    exact h1.tail)
  clear hSV
  go_region_held3 (fun W => W.cell? ⟨g, oq, none⟩ = some (.int .i64 q.kind) ∧ W.cell? ⟨g, oq + 1, none⟩ = some (.int .i64 q.kids) ∧ W.cell? ⟨g, oq + 2, none⟩ = some (.string q.op) ∧ W.cell? ⟨g, oq + 3, none⟩ = some (.string q.text) ∧ W.cell? ⟨g, oq + 4, none⟩ = some (.slice am2 nm2 cm2) ∧ W.cell? ⟨g, oq + 5, none⟩ = some (.string q.dur) ∧ W.cell? ⟨g, oq + 6, none⟩ = some (.string q.step) ∧ W.cell? ⟨g, oq + 7, none⟩ = some (.string q.off) ∧ W.cell? ⟨g, oq + 8, none⟩ = some (.string q.tim) ∧ W.cell? ⟨g, oq + 9, none⟩ = some (.bool q.bool) ∧ W.cell? ⟨g, oq + 10, none⟩ = some (.bool q.given) ∧ W.cell? ⟨g, oq + 11, none⟩ = some (.bool q.on) ∧ W.cell? ⟨g, oq + 12, none⟩ = some (.slice ao2 no2 co2) ∧ W.cell? ⟨g, oq + 13, none⟩ = some (.int .i64 q.card) ∧ W.cell? ⟨g, oq + 14, none⟩ = some (.slice ai2 ni2 ci2) ∧ W.cell? ⟨g, oq + 15, none⟩ = some (.bool q.without) ∧ W.cell? ⟨g, oq + 16, none⟩ = some (.slice al2 nl2 cl2) ∧ W.cell? ⟨w.heap.size, 5, none⟩ = some (.string r.dur)) (first | go_keep) (first | (go_at_call 59; (with_reducible refine (HMM.out _ HB1.out.drew).mono ?_); rintro e WM ⟨gs, rfl, hnd, hb⟩; have p0 : WM.cell? ⟨g, oq, none⟩ = some (.int .i64 q.kind) := (hb.cell (p := ⟨g, _, none⟩) hgl).trans N0.out; have p1 : WM.cell? ⟨g, oq + 1, none⟩ = some (.int .i64 q.kids) := (hb.cell (p := ⟨g, _, none⟩) hgl).trans N1.out; have p2 : WM.cell? ⟨g, oq + 2, none⟩ = some (.string q.op) := (hb.cell (p := ⟨g, _, none⟩) hgl).trans N2.out; have p3 : WM.cell? ⟨g, oq + 3, none⟩ = some (.string q.text) := (hb.cell (p := ⟨g, _, none⟩) hgl).trans N3.out; have p4 : WM.cell? ⟨g, oq + 4, none⟩ = some (.slice am2 nm2 cm2) := (hb.cell (p := ⟨g, _, none⟩) hgl).trans N4.out; have p5 : WM.cell? ⟨g, oq + 5, none⟩ = some (.string q.dur) := (hb.cell (p := ⟨g, _, none⟩) hgl).trans N5.out; have p6 : WM.cell? ⟨g, oq + 6, none⟩ = some (.string q.step) := (hb.cell (p := ⟨g, _, none⟩) hgl).trans N6.out; have p7 : WM.cell? ⟨g, oq + 7, none⟩ = some (.string q.off) := (hb.cell (p := ⟨g, _, none⟩) hgl).trans N7.out; have p8 : WM.cell? ⟨g, oq + 8, none⟩ = some (.string q.tim) := (hb.cell (p := ⟨g, _, none⟩) hgl).trans N8.out; have p9 : WM.cell? ⟨g, oq + 9, none⟩ = some (.bool q.bool) := (hb.cell (p := ⟨g, _, none⟩) hgl).trans N9.out; have p10 : WM.cell? ⟨g, oq + 10, none⟩ = some (.bool q.given) := (hb.cell (p := ⟨g, _, none⟩) hgl).trans N10.out; have p11 : WM.cell? ⟨g, oq + 11, none⟩ = some (.bool q.on) := (hb.cell (p := ⟨g, _, none⟩) hgl).trans N11.out; have p12 : WM.cell? ⟨g, oq + 12, none⟩ = some (.slice ao2 no2 co2) := (hb.cell (p := ⟨g, _, none⟩) hgl).trans N12.out; have p13 : WM.cell? ⟨g, oq + 13, none⟩ = some (.int .i64 q.card) := (hb.cell (p := ⟨g, _, none⟩) hgl).trans N13.out; have p14 : WM.cell? ⟨g, oq + 14, none⟩ = some (.slice ai2 ni2 ci2) := (hb.cell (p := ⟨g, _, none⟩) hgl).trans N14.out; have p15 : WM.cell? ⟨g, oq + 15, none⟩ = some (.bool q.without) := (hb.cell (p := ⟨g, _, none⟩) hgl).trans N15.out; have p16 : WM.cell? ⟨g, oq + 16, none⟩ = some (.slice al2 nl2 cl2) := (hb.cell (p := ⟨g, _, none⟩) hgl).trans N16.out; have p5b : WM.cell? ⟨w.heap.size, 5, none⟩ = some (.string r.dur) := (hb.cell (p := ⟨w.heap.size, 5, none⟩) s1).trans Z5.out; have t1 : w.heap.size < WM.heap.size := Nat.lt_of_lt_of_le s1 hb.size; have t2 : g < WM.heap.size := Nat.lt_of_lt_of_le hgl hb.size; have HND := Lib.hid hnd; have HBM := Lib.hid hb; clear hnd hb))
  have HF : Hid (BuiltPost B w0 w d [r, q] y (.returned (.tuple #[.iface 170 (.pointer (some ⟨WM.heap.size, 0, none⟩)), SV])) (WM.alloc (.cells #[.pointer (some ⟨gs, 0, none⟩), .string r.dur] 172))) := Lib.hid (range_post HH.out.2.2.2.2.1 HH.out.1 H4.out HH.out.2.1 HH.out.2.2.1 HSV.out HB1.out HND.out HBM.out)
  go_wp2_with fail
  go_ret2
  exact HF.out
def rowSel (s : SelR) : PR := ⟨3, 0, ⟨#[]⟩, s.name, s.ms, ⟨#[]⟩, ⟨#[]⟩, s.off, s.tim, false, false, false, [], 0, [], false, []⟩
theorem grown_cell (w : World) (g i : Nat) (u : Value) : w.grownBy (w.setCell ⟨g, i, none⟩ u) (some g) :=
 ⟨rfl, by first | rfl | simp, rfl, by simp, fun k _ hne => Below.heap_setCell w ⟨g, i, none⟩ u k (by rintro rfl; exact hne rfl)⟩
theorem set17 {W : World} {g : Nat} {t : TypeId} {z0 z1 z2 z3 z4 z5 z6 z7 z8 z9 z10 z11 z12 z13 z14 z15 z16 : Value} (h : Blk W g t #[z0, z1, z2, z3, z4, z5, z6, z7, z8, z9, z10, z11, z12, z13, z14, z15, z16]) (v0 v1 v2 v3 v4 v5 v6 v7 v8 v9 v10 v11 v12 v13 v14 v15 v16 : Value) :
  Blk (((((((((((((((((W.setCell ⟨g, 0, none⟩ v0).setCell ⟨g, 1, none⟩ v1).setCell ⟨g, 2, none⟩ v2).setCell ⟨g, 3, none⟩ v3).setCell ⟨g, 4, none⟩ v4).setCell ⟨g, 5, none⟩ v5).setCell ⟨g, 6, none⟩ v6).setCell ⟨g, 7, none⟩ v7).setCell ⟨g, 8, none⟩ v8).setCell ⟨g, 9, none⟩ v9).setCell ⟨g, 10, none⟩ v10).setCell ⟨g, 11, none⟩ v11).setCell ⟨g, 12, none⟩ v12).setCell ⟨g, 13, none⟩ v13).setCell ⟨g, 14, none⟩ v14).setCell ⟨g, 15, none⟩ v15).setCell ⟨g, 16, none⟩ v16) g t #[v0, v1, v2, v3, v4, v5, v6, v7, v8, v9, v10, v11, v12, v13, v14, v15, v16] ∧ W.grownBy (((((((((((((((((W.setCell ⟨g, 0, none⟩ v0).setCell ⟨g, 1, none⟩ v1).setCell ⟨g, 2, none⟩ v2).setCell ⟨g, 3, none⟩ v3).setCell ⟨g, 4, none⟩ v4).setCell ⟨g, 5, none⟩ v5).setCell ⟨g, 6, none⟩ v6).setCell ⟨g, 7, none⟩ v7).setCell ⟨g, 8, none⟩ v8).setCell ⟨g, 9, none⟩ v9).setCell ⟨g, 10, none⟩ v10).setCell ⟨g, 11, none⟩ v11).setCell ⟨g, 12, none⟩ v12).setCell ⟨g, 13, none⟩ v13).setCell ⟨g, 14, none⟩ v14).setCell ⟨g, 15, none⟩ v15).setCell ⟨g, 16, none⟩ v16) (some g) := by
 refine ⟨?_, (grow_trans (grow_trans (grow_trans (grow_trans (grow_trans (grow_trans (grow_trans (grow_trans (grow_trans (grow_trans (grow_trans (grow_trans (grow_trans (grow_trans (grow_trans (grow_trans (grown_cell W g 0 v0) (grown_cell _ g 1 v1)) (grown_cell _ g 2 v2)) (grown_cell _ g 3 v3)) (grown_cell _ g 4 v4)) (grown_cell _ g 5 v5)) (grown_cell _ g 6 v6)) (grown_cell _ g 7 v7)) (grown_cell _ g 8 v8)) (grown_cell _ g 9 v9)) (grown_cell _ g 10 v10)) (grown_cell _ g 11 v11)) (grown_cell _ g 12 v12)) (grown_cell _ g 13 v13)) (grown_cell _ g 14 v14)) (grown_cell _ g 15 v15)) (grown_cell _ g 16 v16))⟩
 have := (((((((((((((((((h.set_ 0 v0).set_ 1 v1).set_ 2 v2).set_ 3 v3).set_ 4 v4).set_ 5 v5).set_ 6 v6).set_ 7 v7).set_ 8 v8).set_ 9 v9).set_ 10 v10).set_ 11 v11).set_ 12 v12).set_ 13 v13).set_ 14 v14).set_ 15 v15).set_ 16 v16)
 simpa using this
def RefRow (w : World) (s : SelR) (e : Ending) (w' : World) : Prop := ∃ vm, e = .returned (rowV (rowSel s) vm (.slice none 0 0) (.slice none 0 0) (.slice none 0 0)) ∧ RowLs 0 w' (rowSel s) vm (.slice none 0 0) (.slice none 0 0) (.slice none 0 0) ∧ Below w.heap.size w w'
set_option maxRecDepth 100000 in
set_option maxHeartbeats 2000000 in
theorem ref_Row {w : World} {s : SelR} {am : Option Addr} {nm cm : Nat} (h : MatS 0 w (.slice am nm cm) s.ms) (hl : s.ms.length ≤ 1099511627776) :
  Calls Tryz.prog 38 #[.agg #[.string s.name, .slice am nm cm, .string s.off, .string s.tim]] w (RefRow w s) := by
 obtain ⟨W0, hW0⟩ : ∃ W0, W0 = (w.alloc (.cells #[.string s.name, .slice am nm cm, .string s.off, .string s.tim] 36)).alloc (.cells zc 58) := ⟨_, rfl⟩
 have hb0 : Below w.heap.size w W0 := by rw [hW0]; exact ((Below.refl _ w).alloc (Nat.le_refl _) _).alloc (by simp) _
 have hz0 : Blk W0 w.heap.size 36 #[.string s.name, .slice am nm cm, .string s.off, .string s.tim] := by rw [hW0]; exact (Blk.new _ _ _).alloc _
 have hz1 : Blk W0 (w.heap.size + 1) 58 zc := by
  rw [hW0]
  have := Blk.new (w.alloc (.cells #[.string s.name, .slice am nm cm, .string s.off, .string s.tim] 36)) 58 zc
  simpa using this
 simp only [zc] at hW0
 have HW0 := Lib.hid hW0
 have HZ1 := Lib.hid hz1
 have HZ0 := Lib.hid hz0
 have HB0 := Lib.hid hb0
 have c0 : W0.drew.cell? ⟨w.heap.size, 0, none⟩ = some (.string s.name) := hz0.cell 0
 have c1 : W0.drew.cell? ⟨w.heap.size, 1, none⟩ = some (.slice am nm cm) := hz0.cell 1
 have c2 : W0.drew.cell? ⟨w.heap.size, 2, none⟩ = some (.string s.off) := hz0.cell 2
 have c3 : W0.drew.cell? ⟨w.heap.size, 3, none⟩ = some (.string s.tim) := hz0.cell 3
 have e0 : (W0.alloc (.cells #[] 38)).drew.cell? ⟨w.heap.size, 0, none⟩ = some (.string s.name) := (hz0.alloc _).cell 0
 have e1 : (W0.alloc (.cells #[] 38)).drew.cell? ⟨w.heap.size, 1, none⟩ = some (.slice am nm cm) := (hz0.alloc _).cell 1
 have e2 : (W0.alloc (.cells #[] 38)).drew.cell? ⟨w.heap.size, 2, none⟩ = some (.string s.off) := (hz0.alloc _).cell 2
 have e3 : (W0.alloc (.cells #[] 38)).drew.cell? ⟨w.heap.size, 3, none⟩ = some (.string s.tim) := (hz0.alloc _).cell 3
 have l0 := hz0.lt
 have l1 := hz1.lt
 have hnm : nm = s.ms.length := by obtain ⟨_, _, hv, _⟩ := h; injection hv
 have hnl : nm ≤ 1099511627776 := by omega
 have HSRC : Hid (SrcV 3 (W0.alloc (.cells #[] 38)).drew (.slice am nm cm) nm (s.ms.flatMap matC)) := Lib.hid (by
  have := (h.src.below hb0).below (((Below.refl W0.heap.size W0).alloc (Nat.le_refl _) (.cells #[] 38)).drew)
  rw [← hnm] at this
  exact this)
 have HOWN : Hid ((W0.alloc (.cells #[] 38)).drew.ownsRow W0.heap.size 38 3 (.slice (some ⟨W0.heap.size, 0, none⟩) 0 0) 0 []) := Lib.hid (by
  have := World.ownsRow_made (size := 3) (base := W0.heap.size) (e := 38) W0 #[] 0 (Nat.le_refl _) (Nat.zero_le _) (by simp)
  exact own_belowE this (Below.refl _ _).drew)
 have HNM := Lib.hid hnm
 clear h hl hW0 hb0 hz0 hz1 hnm
 go_enter Tryz.func38, Tryz.ntmps38
 go_wp2_with fail
 rw [← HW0.out]
 go_region_held3 (fun W => W.cell? ⟨w.heap.size, 0, none⟩ = some (.string s.name) ∧ W.cell? ⟨w.heap.size, 1, none⟩ = some (.slice am nm cm) ∧ W.cell? ⟨w.heap.size, 2, none⟩ = some (.string s.off) ∧ W.cell? ⟨w.heap.size, 3, none⟩ = some (.string s.tim)) (first | go_keep) (first | (refine step_append_srcV (by rfl) (.tmp 5) (.tmp 7) 32 (by rfl) W0.heap.size 38 _ 3 40 info_mat Tryz.underlying32 rfl (by decide) _ 0 [] (by rfl) HOWN.out _ nm (s.ms.flatMap matC) (by rfl) HSRC.out (by unfold maxLen; omega) (by omega) (by simp) ?_; intro v3 W3 ho3 hg3; obtain ⟨a3, n3, c3, hv3⟩ := own_sl ho3; subst hv3; have HO3 := Lib.hid ho3; have hz3 : Blk W3 w.heap.size 36 #[.string s.name, .slice am nm cm, .string s.off, .string s.tim] := (HZ0.out.alloc _).drew.grown hg3 (by simp [Value.ownBlock]; omega); have hz4 : Blk W3 (w.heap.size + 1) 58 zc := (HZ1.out.alloc _).drew.grown hg3 (by simp [Value.ownBlock]; omega); have d0 : W3.cell? ⟨w.heap.size, 0, none⟩ = some (.string s.name) := hz3.cell 0; have d1 : W3.cell? ⟨w.heap.size, 1, none⟩ = some (.slice am nm cm) := hz3.cell 1; have d2 : W3.cell? ⟨w.heap.size, 2, none⟩ = some (.string s.off) := hz3.cell 2; have d3 : W3.cell? ⟨w.heap.size, 3, none⟩ = some (.string s.tim) := hz3.cell 3; have q0 : W3.cell? ⟨w.heap.size + 1, 0, none⟩ = some (.int .i64 0) := hz4.cell 0; have f0 := hz4.frozen 0; have q1 : W3.cell? ⟨w.heap.size + 1, 1, none⟩ = some (.int .i64 0) := hz4.cell 1; have f1 := hz4.frozen 1; have q2 : W3.cell? ⟨w.heap.size + 1, 2, none⟩ = some (.string ⟨#[]⟩) := hz4.cell 2; have f2 := hz4.frozen 2; have q3 : W3.cell? ⟨w.heap.size + 1, 3, none⟩ = some (.string ⟨#[]⟩) := hz4.cell 3; have f3 := hz4.frozen 3; have q4 : W3.cell? ⟨w.heap.size + 1, 4, none⟩ = some (.slice none 0 0) := hz4.cell 4; have f4 := hz4.frozen 4; have q5 : W3.cell? ⟨w.heap.size + 1, 5, none⟩ = some (.string ⟨#[]⟩) := hz4.cell 5; have f5 := hz4.frozen 5; have q6 : W3.cell? ⟨w.heap.size + 1, 6, none⟩ = some (.string ⟨#[]⟩) := hz4.cell 6; have f6 := hz4.frozen 6; have q7 : W3.cell? ⟨w.heap.size + 1, 7, none⟩ = some (.string ⟨#[]⟩) := hz4.cell 7; have f7 := hz4.frozen 7; have q8 : W3.cell? ⟨w.heap.size + 1, 8, none⟩ = some (.string ⟨#[]⟩) := hz4.cell 8; have f8 := hz4.frozen 8; have q9 : W3.cell? ⟨w.heap.size + 1, 9, none⟩ = some (.bool false) := hz4.cell 9; have f9 := hz4.frozen 9; have q10 : W3.cell? ⟨w.heap.size + 1, 10, none⟩ = some (.bool false) := hz4.cell 10; have f10 := hz4.frozen 10; have q11 : W3.cell? ⟨w.heap.size + 1, 11, none⟩ = some (.bool false) := hz4.cell 11; have f11 := hz4.frozen 11; have q12 : W3.cell? ⟨w.heap.size + 1, 12, none⟩ = some (.slice none 0 0) := hz4.cell 12; have f12 := hz4.frozen 12; have q13 : W3.cell? ⟨w.heap.size + 1, 13, none⟩ = some (.int .i64 0) := hz4.cell 13; have f13 := hz4.frozen 13; have q14 : W3.cell? ⟨w.heap.size + 1, 14, none⟩ = some (.slice none 0 0) := hz4.cell 14; have f14 := hz4.frozen 14; have q15 : W3.cell? ⟨w.heap.size + 1, 15, none⟩ = some (.bool false) := hz4.cell 15; have f15 := hz4.frozen 15; have q16 : W3.cell? ⟨w.heap.size + 1, 16, none⟩ = some (.slice none 0 0) := hz4.cell 16; have f16 := hz4.frozen 16; have HZ4 := Lib.hid hz4; have HG3 := Lib.hid hg3; clear ho3 hg3 hz3 hz4))
 have hs := set17 HZ4.out (.int .i64 3) (.int .i64 0) (.string ⟨#[]⟩) (.string s.name) (.slice a3 n3 c3) (.string ⟨#[]⟩) (.string ⟨#[]⟩) (.string s.off) (.string s.tim) (.bool false) (.bool false) (.bool false) (.slice none 0 0) (.int .i64 0) (.slice none 0 0) (.bool false) (.slice none 0 0)
 have HS := Lib.hid hs
 have hms : MatO W0.heap.size W3 (.slice a3 n3 c3) s.ms := by
  have := HO3.out
  rw [Nat.zero_add, List.nil_append, HNM.out] at this
  exact this
 have hb3 : Below w.heap.size w W3 := HB0.out.trans (((((Below.refl W0.heap.size W0).alloc (Nat.le_refl _) (.cells #[] 38)).drew).grown HG3.out (by simp) (fun k hk => by simp [Value.ownBlock] at hk; omega)).mono HB0.out.size)
 have HF : Hid (∀ W, W3.grownBy W (some (w.heap.size + 1)) → RefRow w s (.returned (.agg (rowA (rowSel s) (.slice a3 n3 c3) (.slice none 0 0) (.slice none 0 0) (.slice none 0 0)))) W) := Lib.hid fun W hg =>
  ⟨.slice a3 n3 c3, rfl, ⟨(MatS.of_own (own_grow hms hg HZ4.out (by decide))).lo (Nat.zero_le _), strS_none 0 W, strS_none 0 W, strS_none 0 W⟩, below_grow hb3 hg (by have := hb3.size; omega) (by omega)⟩
 clear hs hms hb3 q0 q1 q2 q3 q4 q5 q6 q7 q8 q9 q10 q11 q12 q13 q14 q15 q16 f0 f1 f2 f3 f4 f5 f6 f7 f8 f9 f10 f11 f12 f13 f14 f15 f16
 go_wp2_with fail
 exact bodyPost_ret (results_blk Tryz.results38 rfl HS.out.1 Tryz.underlying58 info_row) rfl (HF.out _ HS.out.2)
set_option maxRecDepth 100000 in
set_option maxHeartbeats 4000000 in
theorem ref_SameSelector_eq {w : World} {a : SelR} {am bm : Option Addr} {an ac bn bc : Nat} (ha : MatS 0 w (.slice am an ac) a.ms) (hb : MatS 0 w (.slice bm bn bc) a.ms) (la : a.ms.length ≤ 1099511627776) :
  Calls Tryz.prog 74 #[.agg #[.string a.name, .slice am an ac, .string a.off, .string a.tim], .agg #[.string a.name, .slice bm bn bc, .string a.off, .string a.tim]] w (BoolPost w true) := by
 obtain ⟨W0, hW0⟩ : ∃ W0, W0 = (w.alloc (.cells #[.string a.name, .slice am an ac, .string a.off, .string a.tim] 36)).alloc (.cells #[.string a.name, .slice bm bn bc, .string a.off, .string a.tim] 36) := ⟨_, rfl⟩
 have hb0 : Below w.heap.size w W0 := by rw [hW0]; exact ((Below.refl _ w).alloc (Nat.le_refl _) _).alloc (by simp) _
 have hz0 : Blk W0 w.heap.size 36 #[.string a.name, .slice am an ac, .string a.off, .string a.tim] := by rw [hW0]; exact (Blk.new _ _ _).alloc _
 have hz1 : Blk W0 (w.heap.size + 1) 36 #[.string a.name, .slice bm bn bc, .string a.off, .string a.tim] := by
  rw [hW0]
  have := Blk.new (w.alloc (.cells #[.string a.name, .slice am an ac, .string a.off, .string a.tim] 36)) 36 #[.string a.name, .slice bm bn bc, .string a.off, .string a.tim]
  simpa using this
 have HW0 := Lib.hid hW0
 have HZ0 := Lib.hid hz0
 have HZ1 := Lib.hid hz1
 have HB0 : Hid (Below w.heap.size w W0.drew) := Lib.hid hb0.drew
 have HR1 : Hid (∀ W, Below w.heap.size w W → Calls Tryz.prog 38 #[.agg #[.string a.name, .slice am an ac, .string a.off, .string a.tim]] W (RefRow W a)) := Lib.hid fun W h => ref_Row (ha.below h) la
 have HR2 : Hid (∀ W, Below w.heap.size w W → Calls Tryz.prog 38 #[.agg #[.string a.name, .slice bm bn bc, .string a.off, .string a.tim]] W (RefRow W a)) := Lib.hid fun W h => ref_Row (hb.below h) la
 have HSR : Hid (∀ W m1 o1 i1 l1 m2 o2 i2 l2, RowLs 0 W (rowSel a) m1 o1 i1 l1 → RowLs 0 W (rowSel a) m2 o2 i2 l2 → Calls Tryz.prog 24 #[rowV (rowSel a) m1 o1 i1 l1, rowV (rowSel a) m2 o2 i2 l2] W (BoolPost W true)) := Lib.hid fun W m1 o1 i1 l1 m2 o2 i2 l2 h1 h2 =>
  ref_sameRow_eq h1 h2 ⟨la, by simp [rowSel], by simp [rowSel], by simp [rowSel]⟩
 have c0 : W0.drew.cell? ⟨w.heap.size, 0, none⟩ = some (.string a.name) := hz0.cell 0
 have c1 : W0.drew.cell? ⟨w.heap.size, 1, none⟩ = some (.slice am an ac) := hz0.cell 1
 have c2 : W0.drew.cell? ⟨w.heap.size, 2, none⟩ = some (.string a.off) := hz0.cell 2
 have c3 : W0.drew.cell? ⟨w.heap.size, 3, none⟩ = some (.string a.tim) := hz0.cell 3
 have c4 : W0.drew.cell? ⟨w.heap.size + 1, 0, none⟩ = some (.string a.name) := hz1.cell 0
 have c5 : W0.drew.cell? ⟨w.heap.size + 1, 1, none⟩ = some (.slice bm bn bc) := hz1.cell 1
 have c6 : W0.drew.cell? ⟨w.heap.size + 1, 2, none⟩ = some (.string a.off) := hz1.cell 2
 have c7 : W0.drew.cell? ⟨w.heap.size + 1, 3, none⟩ = some (.string a.tim) := hz1.cell 3
 have l0 := hz0.lt
 have l1 := hz1.lt
 clear ha hb la hW0 hb0 hz0 hz1
 go_enter Tryz.func74, Tryz.ntmps74
 go_wp2_with fail
 rw [← HW0.out]
 go_region_held3 (fun W => W.cell? ⟨w.heap.size, 0, none⟩ = some (.string a.name) ∧ W.cell? ⟨w.heap.size, 1, none⟩ = some (.slice am an ac) ∧ W.cell? ⟨w.heap.size, 2, none⟩ = some (.string a.off) ∧ W.cell? ⟨w.heap.size, 3, none⟩ = some (.string a.tim) ∧ W.cell? ⟨w.heap.size + 1, 0, none⟩ = some (.string a.name) ∧ W.cell? ⟨w.heap.size + 1, 1, none⟩ = some (.slice bm bn bc) ∧ W.cell? ⟨w.heap.size + 1, 2, none⟩ = some (.string a.off) ∧ W.cell? ⟨w.heap.size + 1, 3, none⟩ = some (.string a.tim)) (first | go_keep) (first | (go_at_call 38; (with_reducible refine (HR1.out _ HB0.out).mono ?_); rintro e W1 ⟨vm1, rfl, hl1, hb1⟩; have HL1 := Lib.hid hl1; have HB1 := Lib.hid (HB0.out.trans (hb1.mono HB0.out.size)); have hbz : Below W0.heap.size W0 W1 := (Below.refl _ _).drew.trans hb1; have HBZ := Lib.hid hbz; have d0 : W1.cell? ⟨w.heap.size, 0, none⟩ = some (.string a.name) := (hbz.cell (p := ⟨w.heap.size, 0, none⟩) l0).trans (HZ0.out.cell 0); have d1 : W1.cell? ⟨w.heap.size, 1, none⟩ = some (.slice am an ac) := (hbz.cell (p := ⟨w.heap.size, 1, none⟩) l0).trans (HZ0.out.cell 1); have d2 : W1.cell? ⟨w.heap.size, 2, none⟩ = some (.string a.off) := (hbz.cell (p := ⟨w.heap.size, 2, none⟩) l0).trans (HZ0.out.cell 2); have d3 : W1.cell? ⟨w.heap.size, 3, none⟩ = some (.string a.tim) := (hbz.cell (p := ⟨w.heap.size, 3, none⟩) l0).trans (HZ0.out.cell 3); have d4 : W1.cell? ⟨w.heap.size + 1, 0, none⟩ = some (.string a.name) := (hbz.cell (p := ⟨w.heap.size + 1, 0, none⟩) l1).trans (HZ1.out.cell 0); have d5 : W1.cell? ⟨w.heap.size + 1, 1, none⟩ = some (.slice bm bn bc) := (hbz.cell (p := ⟨w.heap.size + 1, 1, none⟩) l1).trans (HZ1.out.cell 1); have d6 : W1.cell? ⟨w.heap.size + 1, 2, none⟩ = some (.string a.off) := (hbz.cell (p := ⟨w.heap.size + 1, 2, none⟩) l1).trans (HZ1.out.cell 2); have d7 : W1.cell? ⟨w.heap.size + 1, 3, none⟩ = some (.string a.tim) := (hbz.cell (p := ⟨w.heap.size + 1, 3, none⟩) l1).trans (HZ1.out.cell 3); clear hl1 hb1 hbz) | (go_at_call 38; (with_reducible refine (HR2.out _ HB1.out).mono ?_); rintro e W2 ⟨vm2, rfl, hl2, hb2⟩; have HL2 := Lib.hid hl2; have HL3 := Lib.hid (HL1.out.below hb2); have HB2 := Lib.hid (HB1.out.trans (hb2.mono HB1.out.size)); have hbz : Below W0.heap.size W0 W2 := HBZ.out.trans (hb2.mono HBZ.out.size); have HBZ2 := Lib.hid hbz; have f0 : W2.cell? ⟨w.heap.size, 0, none⟩ = some (.string a.name) := (hbz.cell (p := ⟨w.heap.size, 0, none⟩) l0).trans (HZ0.out.cell 0); have f1 : W2.cell? ⟨w.heap.size, 1, none⟩ = some (.slice am an ac) := (hbz.cell (p := ⟨w.heap.size, 1, none⟩) l0).trans (HZ0.out.cell 1); have f2 : W2.cell? ⟨w.heap.size, 2, none⟩ = some (.string a.off) := (hbz.cell (p := ⟨w.heap.size, 2, none⟩) l0).trans (HZ0.out.cell 2); have f3 : W2.cell? ⟨w.heap.size, 3, none⟩ = some (.string a.tim) := (hbz.cell (p := ⟨w.heap.size, 3, none⟩) l0).trans (HZ0.out.cell 3); have f4 : W2.cell? ⟨w.heap.size + 1, 0, none⟩ = some (.string a.name) := (hbz.cell (p := ⟨w.heap.size + 1, 0, none⟩) l1).trans (HZ1.out.cell 0); have f5 : W2.cell? ⟨w.heap.size + 1, 1, none⟩ = some (.slice bm bn bc) := (hbz.cell (p := ⟨w.heap.size + 1, 1, none⟩) l1).trans (HZ1.out.cell 1); have f6 : W2.cell? ⟨w.heap.size + 1, 2, none⟩ = some (.string a.off) := (hbz.cell (p := ⟨w.heap.size + 1, 2, none⟩) l1).trans (HZ1.out.cell 2); have f7 : W2.cell? ⟨w.heap.size + 1, 3, none⟩ = some (.string a.tim) := (hbz.cell (p := ⟨w.heap.size + 1, 3, none⟩) l1).trans (HZ1.out.cell 3); clear hl2 hb2 hbz) | (go_at_call 24; (with_reducible refine (HSR.out _ _ _ _ _ _ _ _ _ HL3.out HL2.out).mono ?_); rintro e W3 ⟨rfl, hb3⟩; have HB3 := Lib.hid (HB2.out.trans (hb3.mono HB2.out.size)); have hbz : Below W0.heap.size W0 W3 := HBZ2.out.trans (hb3.mono HBZ2.out.size); have g0 : W3.cell? ⟨w.heap.size, 0, none⟩ = some (.string a.name) := (hbz.cell (p := ⟨w.heap.size, 0, none⟩) l0).trans (HZ0.out.cell 0); have g1 : W3.cell? ⟨w.heap.size, 1, none⟩ = some (.slice am an ac) := (hbz.cell (p := ⟨w.heap.size, 1, none⟩) l0).trans (HZ0.out.cell 1); have g2 : W3.cell? ⟨w.heap.size, 2, none⟩ = some (.string a.off) := (hbz.cell (p := ⟨w.heap.size, 2, none⟩) l0).trans (HZ0.out.cell 2); have g3 : W3.cell? ⟨w.heap.size, 3, none⟩ = some (.string a.tim) := (hbz.cell (p := ⟨w.heap.size, 3, none⟩) l0).trans (HZ0.out.cell 3); have g4 : W3.cell? ⟨w.heap.size + 1, 0, none⟩ = some (.string a.name) := (hbz.cell (p := ⟨w.heap.size + 1, 0, none⟩) l1).trans (HZ1.out.cell 0); have g5 : W3.cell? ⟨w.heap.size + 1, 1, none⟩ = some (.slice bm bn bc) := (hbz.cell (p := ⟨w.heap.size + 1, 1, none⟩) l1).trans (HZ1.out.cell 1); have g6 : W3.cell? ⟨w.heap.size + 1, 2, none⟩ = some (.string a.off) := (hbz.cell (p := ⟨w.heap.size + 1, 2, none⟩) l1).trans (HZ1.out.cell 2); have g7 : W3.cell? ⟨w.heap.size + 1, 3, none⟩ = some (.string a.tim) := (hbz.cell (p := ⟨w.heap.size + 1, 3, none⟩) l1).trans (HZ1.out.cell 3); clear hb3 hbz))
 go_wp2_with fail
 go_ret
 exact ⟨rfl, HB3.out⟩
set_option maxRecDepth 100000 in
set_option maxHeartbeats 4000000 in
theorem law12_sameSelectors_eq {w : World} {v1 v2 : Value} {xs : List SelR} (h1 : SelS w v1 xs) (h2 : SelS w v2 xs) (hn : xs.length ≤ 1099511627776) (l1 : ∀ s ∈ xs, s.ms.length ≤ 1099511627776) :
  Calls Tryz.prog 28 #[v1, v2] w (BoolPost w true) := by
 obtain ⟨a1, c1, rfl, hc1⟩ := h1
 obtain ⟨a2, c2, rfl, hc2⟩ := h2
 have H1 := Lib.hid hc1
 have H2 := Lib.hid hc2
 have L1 := Lib.hid l1
 clear hc1 hc2 l1
 go_enter Tryz.func28, Tryz.ntmps28
 go_wp2_with fail
 go_loopw [5] (fun t5 wr => ∃ j : Nat, Hid (j ≤ xs.length) ∧ t5 = .int .i64 (j : Int) ∧ Hid (Below w.heap.size w wr)) (fun t5 _ => xs.length - (intOf t5).toNat)
 case atStart => exact ⟨0, Lib.hid (Nat.zero_le _), rfl, Lib.hid (Below.refl _ _)⟩
 case round =>
  obtain ⟨j, hj, rfl, hB⟩ := hrel
  by_cases hlt : j < xs.length
  ·have p1 : ((j : Int) < (xs.length : Int)) = True := eq_true (by omega)
   obtain ⟨g1, o1, u1, rfl, hg1, hm1, e0, e1, e2, e3⟩ := H1.out j hlt
   obtain ⟨g2, o2, u2, rfl, hg2, hm2, f0, f1, f2, f3⟩ := H2.out j hlt
   have lx := L1.out _ (List.getElem_mem hlt)
   generalize hX : xs[j] = x at hm1 e0 e1 e2 e3 lx hm2 f0 f1 f2 f3
   obtain ⟨am, ac, rfl, _⟩ := id hm1
   obtain ⟨bm, bc, rfl, _⟩ := id hm2
   obtain ⟨an, han⟩ : ∃ n, n = x.ms.length := ⟨_, rfl⟩
   obtain ⟨bn, hbn⟩ : ∃ n, n = x.ms.length := ⟨_, rfl⟩
   rw [← han] at hm1 e1
   rw [← hbn] at hm2 f1
   have HC : Hid (∀ W, Below w.heap.size w W → Calls Tryz.prog 74 #[.agg #[.string x.name, .slice am an ac, .string x.off, .string x.tim], .agg #[.string x.name, .slice bm bn bc, .string x.off, .string x.tim]] W (BoolPost W true)) := Lib.hid fun W h => ref_SameSelector_eq (hm1.below h) (hm2.below h) lx
   have hw1 : g1 < wr.drew.heap.size := Nat.lt_of_lt_of_le hg1 hB.out.size
   have hw2 : g2 < wr.drew.heap.size := Nat.lt_of_lt_of_le hg2 hB.out.size
   have c0 : wr.drew.cell? ⟨g1, o1 + j * 4, none⟩ = some (.string x.name) := (hB.out.cell (p := ⟨g1, o1 + j * 4, none⟩) hg1).trans e0
   have C0 := Lib.hid c0
   have c1 : wr.drew.cell? ⟨g1, o1 + j * 4 + 1, none⟩ = some (.slice am an ac) := (hB.out.cell (p := ⟨g1, o1 + j * 4 + 1, none⟩) hg1).trans e1
   have C1 := Lib.hid c1
   have c2 : wr.drew.cell? ⟨g1, o1 + j * 4 + 2, none⟩ = some (.string x.off) := (hB.out.cell (p := ⟨g1, o1 + j * 4 + 2, none⟩) hg1).trans e2
   have C2 := Lib.hid c2
   have c3 : wr.drew.cell? ⟨g1, o1 + j * 4 + 3, none⟩ = some (.string x.tim) := (hB.out.cell (p := ⟨g1, o1 + j * 4 + 3, none⟩) hg1).trans e3
   have C3 := Lib.hid c3
   have c4 : wr.drew.cell? ⟨g2, o2 + j * 4, none⟩ = some (.string x.name) := (hB.out.cell (p := ⟨g2, o2 + j * 4, none⟩) hg2).trans f0
   have C4 := Lib.hid c4
   have c5 : wr.drew.cell? ⟨g2, o2 + j * 4 + 1, none⟩ = some (.slice bm bn bc) := (hB.out.cell (p := ⟨g2, o2 + j * 4 + 1, none⟩) hg2).trans f1
   have C5 := Lib.hid c5
   have c6 : wr.drew.cell? ⟨g2, o2 + j * 4 + 2, none⟩ = some (.string x.off) := (hB.out.cell (p := ⟨g2, o2 + j * 4 + 2, none⟩) hg2).trans f2
   have C6 := Lib.hid c6
   have c7 : wr.drew.cell? ⟨g2, o2 + j * 4 + 3, none⟩ = some (.string x.tim) := (hB.out.cell (p := ⟨g2, o2 + j * 4 + 3, none⟩) hg2).trans f3
   have C7 := Lib.hid c7
   have hj0 : (0 : Int) ≤ (j : Int) := Int.natCast_nonneg j
   clear hX hm1 hm2 han hbn lx e0 e1 e2 e3 f0 f1 f2 f3
   go_wp2_with fail
   go_region_held3 (fun W => W.cell? ⟨g1, o1 + j * 4, none⟩ = some (.string x.name) ∧ W.cell? ⟨g1, o1 + j * 4 + 1, none⟩ = some (.slice am an ac) ∧ W.cell? ⟨g1, o1 + j * 4 + 2, none⟩ = some (.string x.off) ∧ W.cell? ⟨g1, o1 + j * 4 + 3, none⟩ = some (.string x.tim) ∧ W.cell? ⟨g2, o2 + j * 4, none⟩ = some (.string x.name) ∧ W.cell? ⟨g2, o2 + j * 4 + 1, none⟩ = some (.slice bm bn bc) ∧ W.cell? ⟨g2, o2 + j * 4 + 2, none⟩ = some (.string x.off) ∧ W.cell? ⟨g2, o2 + j * 4 + 3, none⟩ = some (.string x.tim)) (first | go_keep) (first | (go_at_call 74; (with_reducible refine (HC.out _ hB.out.drew).mono ?_); rintro e W2 ⟨rfl, hb2⟩; have d0 : W2.cell? ⟨g1, o1 + j * 4, none⟩ = some (.string x.name) := (hb2.cell (p := ⟨g1, o1 + j * 4, none⟩) hw1).trans C0.out; have d1 : W2.cell? ⟨g1, o1 + j * 4 + 1, none⟩ = some (.slice am an ac) := (hb2.cell (p := ⟨g1, o1 + j * 4 + 1, none⟩) hw1).trans C1.out; have d2 : W2.cell? ⟨g1, o1 + j * 4 + 2, none⟩ = some (.string x.off) := (hb2.cell (p := ⟨g1, o1 + j * 4 + 2, none⟩) hw1).trans C2.out; have d3 : W2.cell? ⟨g1, o1 + j * 4 + 3, none⟩ = some (.string x.tim) := (hb2.cell (p := ⟨g1, o1 + j * 4 + 3, none⟩) hw1).trans C3.out; have d4 : W2.cell? ⟨g2, o2 + j * 4, none⟩ = some (.string x.name) := (hb2.cell (p := ⟨g2, o2 + j * 4, none⟩) hw2).trans C4.out; have d5 : W2.cell? ⟨g2, o2 + j * 4 + 1, none⟩ = some (.slice bm bn bc) := (hb2.cell (p := ⟨g2, o2 + j * 4 + 1, none⟩) hw2).trans C5.out; have d6 : W2.cell? ⟨g2, o2 + j * 4 + 2, none⟩ = some (.string x.off) := (hb2.cell (p := ⟨g2, o2 + j * 4 + 2, none⟩) hw2).trans C6.out; have d7 : W2.cell? ⟨g2, o2 + j * 4 + 3, none⟩ = some (.string x.tim) := (hb2.cell (p := ⟨g2, o2 + j * 4 + 3, none⟩) hw2).trans C7.out; have HB2 := Lib.hid (hB.out.drew.trans (hb2.mono hB.out.size)); clear hb2))
   go_wp2_with fail
   exact ⟨⟨j + 1, Lib.hid hlt, by go_num, HB2⟩, by simp [intOf]; omega⟩
  ·have p1 : ((j : Int) < (xs.length : Int)) = False := eq_false (by omega)
   go_wp2_with fail
   go_ret
   exact ⟨rfl, hB.out⟩
end Go.Proofs.YtibcjfjacielbaaGreatDoor
