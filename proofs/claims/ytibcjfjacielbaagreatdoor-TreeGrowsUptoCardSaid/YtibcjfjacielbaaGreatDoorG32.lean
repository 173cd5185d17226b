import Derived.Test.YtibcjfjacielbaaGreatDoorG27
/- Part of the proof of YtibcjfjacielbaaGreatDoorCardG: TrWu TrXc. -/
set_option linter.unusedVariables false
set_option linter.unusedSimpArgs false
namespace Go.Proofs.YtibcjfjacielbaaGreatDoor
open Go.RowKit
set_option maxRecDepth 100000 in
set_option maxHeartbeats 1000000 in
theorem sound_unused (w : World) (r : PR) (am ao ai al : Option Addr) (nm cm no co ni ci nl cl : Nat) (h : RowLs 0 w r (.slice am nm cm) (.slice ao no co) (.slice ai ni ci) (.slice al nl cl)) (hl : LenOK r) (hk : kidsB r.kind r.kids = true) (hu : ¬ unP r = zr r.kind 0) :
  Calls Tryz.prog 122 #[.agg #[.int .i64 r.kind, .int .i64 r.kids, .string r.op, .string r.text, .slice am nm cm, .string r.dur, .string r.step, .string r.off, .string r.tim, .bool r.bool, .bool r.given, .bool r.on, .slice ao no co, .int .i64 r.card, .slice ai ni ci, .bool r.without, .slice al nl cl]] w (BoolPost w false) := by
 obtain ⟨A, hA⟩ : ∃ A, A = rowA r (.slice am nm cm) (.slice ao no co) (.slice ai ni ci) (.slice al nl cl) := ⟨_, rfl⟩
 obtain ⟨W1, hW1⟩ : ∃ W1, W1 = w.alloc (.cells A 58) := ⟨_, rfl⟩
 have hs0 : OB w A W1 := by rw [hW1]; exact ob_new w A
 have HS0 : Hid (OB w A W1.drew) := Lib.hid hs0.drew
 have HU : Hid (∀ W, OB w A W → Calls Tryz.prog 170 #[.agg #[.int .i64 r.kind, .int .i64 r.kids, .string r.op, .string r.text, .slice am nm cm, .string r.dur, .string r.step, .string r.off, .string r.tim, .bool r.bool, .bool r.given, .bool r.on, .slice ao no co, .int .i64 r.card, .slice ai ni ci, .bool r.without, .slice al nl cl]] W (UnX w A r)) := Lib.hid fun W hs => un_x h hs
 have HA := Lib.hid hA
 have HH := Lib.hid h
 have c0 : W1.drew.cell? ⟨w.heap.size, 0, none⟩ = some (.int .i64 r.kind) := (hs0.2.cell 0).trans (by rw [hA]; rfl)
 have c1 : W1.drew.cell? ⟨w.heap.size, 1, none⟩ = some (.int .i64 r.kids) := (hs0.2.cell 1).trans (by rw [hA]; rfl)
 have c2 : W1.drew.cell? ⟨w.heap.size, 2, none⟩ = some (.string r.op) := (hs0.2.cell 2).trans (by rw [hA]; rfl)
 have c3 : W1.drew.cell? ⟨w.heap.size, 3, none⟩ = some (.string r.text) := (hs0.2.cell 3).trans (by rw [hA]; rfl)
 have c4 : W1.drew.cell? ⟨w.heap.size, 4, none⟩ = some (.slice am nm cm) := (hs0.2.cell 4).trans (by rw [hA]; rfl)
 have c5 : W1.drew.cell? ⟨w.heap.size, 5, none⟩ = some (.string r.dur) := (hs0.2.cell 5).trans (by rw [hA]; rfl)
 have c6 : W1.drew.cell? ⟨w.heap.size, 6, none⟩ = some (.string r.step) := (hs0.2.cell 6).trans (by rw [hA]; rfl)
 have c7 : W1.drew.cell? ⟨w.heap.size, 7, none⟩ = some (.string r.off) := (hs0.2.cell 7).trans (by rw [hA]; rfl)
 have c8 : W1.drew.cell? ⟨w.heap.size, 8, none⟩ = some (.string r.tim) := (hs0.2.cell 8).trans (by rw [hA]; rfl)
 have c9 : W1.drew.cell? ⟨w.heap.size, 9, none⟩ = some (.bool r.bool) := (hs0.2.cell 9).trans (by rw [hA]; rfl)
 have c10 : W1.drew.cell? ⟨w.heap.size, 10, none⟩ = some (.bool r.given) := (hs0.2.cell 10).trans (by rw [hA]; rfl)
 have c11 : W1.drew.cell? ⟨w.heap.size, 11, none⟩ = some (.bool r.on) := (hs0.2.cell 11).trans (by rw [hA]; rfl)
 have c12 : W1.drew.cell? ⟨w.heap.size, 12, none⟩ = some (.slice ao no co) := (hs0.2.cell 12).trans (by rw [hA]; rfl)
 have c13 : W1.drew.cell? ⟨w.heap.size, 13, none⟩ = some (.int .i64 r.card) := (hs0.2.cell 13).trans (by rw [hA]; rfl)
 have c14 : W1.drew.cell? ⟨w.heap.size, 14, none⟩ = some (.slice ai ni ci) := (hs0.2.cell 14).trans (by rw [hA]; rfl)
 have c15 : W1.drew.cell? ⟨w.heap.size, 15, none⟩ = some (.bool r.without) := (hs0.2.cell 15).trans (by rw [hA]; rfl)
 have c16 : W1.drew.cell? ⟨w.heap.size, 16, none⟩ = some (.slice al nl cl) := (hs0.2.cell 16).trans (by rw [hA]; rfl)
 rw [hA] at hW1
 simp only [rowA] at hW1
 have HW1 := Lib.hid hW1
 have HL := Lib.hid hl.un
 have HK := Lib.hid hk
 clear h hl hs0 hA hW1 hk
 go_enter Tryz.func122, Tryz.ntmps122
 go_upto_region 1 with (fail)
 rw [← HW1.out]
 go_region_with (first | (go_at_call 169; refine (tree_kidsFit _ _ _).mono ?_; rintro e w' ⟨rfl, rfl⟩; rw [HK.out]) | (go_at_call 170; refine (HU.out _ HS0.out).mono ?_; rintro e WU ⟨um, uo, ui, ul, rfl, hls, hs⟩; have u0 : WU.cell? ⟨w.heap.size, 0, none⟩ = some (.int .i64 r.kind) := (hs.2.cell 0).trans (by rw [HA.out]; rfl); have HSU := Lib.hid hs; have HLS := Lib.hid hls; clear hs hls) | (go_at_call 76; refine (sa_x (k := r.kind) HLS.out HL.out HSU.out).mono ?_; rintro e WS ⟨bs, rfl, hbs, hs⟩; have HSS := Lib.hid hs; have HBS := Lib.hid hbs; clear hs hbs))
 all_goals
  have hb : bs = false := by
   cases bs with
   |false => rfl
   |true => exact absurd (HBS.out.1 rfl) hu
  subst hb
  go_wp2_with fail
  go_ret
  exact ⟨rfl, HSS.out.1⟩
set_option maxRecDepth 100000 in
set_option maxHeartbeats 2000000 in
theorem sound_2 (w : World) (r : PR) (am ao ai al : Option Addr) (nm cm no co ni ci nl cl : Nat) (h : RowLs 0 w r (.slice am nm cm) (.slice ao no co) (.slice ai ni ci) (.slice al nl cl)) (hl : LenOK r) {T : Nat → World → Prop} (hT : NumT (fun _ => True) T) (hTw : T w.heap.size w) (hr : SmallR r) (hkind : r.kind = 2) (hk : kidsB r.kind r.kids = true) (hu : unP r = zr r.kind 0) :
  Calls Tryz.prog 122 #[.agg #[.int .i64 r.kind, .int .i64 r.kids, .string r.op, .string r.text, .slice am nm cm, .string r.dur, .string r.step, .string r.off, .string r.tim, .bool r.bool, .bool r.given, .bool r.on, .slice ao no co, .int .i64 r.card, .slice ai ni ci, .bool r.without, .slice al nl cl]] w (BoolPost w (valid r.text.data.toList)) := by
 have hTT : ∀ W, Below w.heap.size w W → T W.heap.size W := fun W hb => hT.mono (hT.keep hTw hb) hb.size
 obtain ⟨A, hA⟩ : ∃ A, A = rowA r (.slice am nm cm) (.slice ao no co) (.slice ai ni ci) (.slice al nl cl) := ⟨_, rfl⟩
 obtain ⟨W1, hW1⟩ : ∃ W1, W1 = w.alloc (.cells A 58) := ⟨_, rfl⟩
 have hs0 : OB w A W1 := by rw [hW1]; exact ob_new w A
 have HS0 : Hid (OB w A W1.drew) := Lib.hid hs0.drew
 have HU : Hid (∀ W, OB w A W → Calls Tryz.prog 170 #[.agg #[.int .i64 r.kind, .int .i64 r.kids, .string r.op, .string r.text, .slice am nm cm, .string r.dur, .string r.step, .string r.off, .string r.tim, .bool r.bool, .bool r.given, .bool r.on, .slice ao no co, .int .i64 r.card, .slice ai ni ci, .bool r.without, .slice al nl cl]] W (UnX w A r)) := Lib.hid fun W hs => un_x h hs
 have HA := Lib.hid hA
 have HH := Lib.hid h
 have c0 : W1.drew.cell? ⟨w.heap.size, 0, none⟩ = some (.int .i64 r.kind) := (hs0.2.cell 0).trans (by rw [hA]; rfl)
 have c1 : W1.drew.cell? ⟨w.heap.size, 1, none⟩ = some (.int .i64 r.kids) := (hs0.2.cell 1).trans (by rw [hA]; rfl)
 have c2 : W1.drew.cell? ⟨w.heap.size, 2, none⟩ = some (.string r.op) := (hs0.2.cell 2).trans (by rw [hA]; rfl)
 have c3 : W1.drew.cell? ⟨w.heap.size, 3, none⟩ = some (.string r.text) := (hs0.2.cell 3).trans (by rw [hA]; rfl)
 have c4 : W1.drew.cell? ⟨w.heap.size, 4, none⟩ = some (.slice am nm cm) := (hs0.2.cell 4).trans (by rw [hA]; rfl)
 have c5 : W1.drew.cell? ⟨w.heap.size, 5, none⟩ = some (.string r.dur) := (hs0.2.cell 5).trans (by rw [hA]; rfl)
 have c6 : W1.drew.cell? ⟨w.heap.size, 6, none⟩ = some (.string r.step) := (hs0.2.cell 6).trans (by rw [hA]; rfl)
 have c7 : W1.drew.cell? ⟨w.heap.size, 7, none⟩ = some (.string r.off) := (hs0.2.cell 7).trans (by rw [hA]; rfl)
 have c8 : W1.drew.cell? ⟨w.heap.size, 8, none⟩ = some (.string r.tim) := (hs0.2.cell 8).trans (by rw [hA]; rfl)
 have c9 : W1.drew.cell? ⟨w.heap.size, 9, none⟩ = some (.bool r.bool) := (hs0.2.cell 9).trans (by rw [hA]; rfl)
 have c10 : W1.drew.cell? ⟨w.heap.size, 10, none⟩ = some (.bool r.given) := (hs0.2.cell 10).trans (by rw [hA]; rfl)
 have c11 : W1.drew.cell? ⟨w.heap.size, 11, none⟩ = some (.bool r.on) := (hs0.2.cell 11).trans (by rw [hA]; rfl)
 have c12 : W1.drew.cell? ⟨w.heap.size, 12, none⟩ = some (.slice ao no co) := (hs0.2.cell 12).trans (by rw [hA]; rfl)
 have c13 : W1.drew.cell? ⟨w.heap.size, 13, none⟩ = some (.int .i64 r.card) := (hs0.2.cell 13).trans (by rw [hA]; rfl)
 have c14 : W1.drew.cell? ⟨w.heap.size, 14, none⟩ = some (.slice ai ni ci) := (hs0.2.cell 14).trans (by rw [hA]; rfl)
 have c15 : W1.drew.cell? ⟨w.heap.size, 15, none⟩ = some (.bool r.without) := (hs0.2.cell 15).trans (by rw [hA]; rfl)
 have c16 : W1.drew.cell? ⟨w.heap.size, 16, none⟩ = some (.slice al nl cl) := (hs0.2.cell 16).trans (by rw [hA]; rfl)
 rw [hA] at hW1
 simp only [rowA] at hW1
 have HW1 := Lib.hid hW1
 have HL := Lib.hid hl.un
 have HK := Lib.hid hk
 have HC : Hid (∀ W, OB w A W → Calls Tryz.prog 172 #[.string r.text] W (BoX w A (valid r.text.data.toList))) := Lib.hid fun W hs => bo_x ((utf_valid r.text W (by have := hr.text; omega)).mono fun _ _ h => ⟨h.1, h.2⟩) hs
 have HUU := Lib.hid hu
 have HKI := Lib.hid hkind
 clear h hl hs0 hA hW1 hk hTT hTw hu hkind
 obtain ⟨g0, hg0⟩ : ∃ g, g = valid r.text.data.toList := ⟨_, rfl⟩
 (try rw [← hg0] at HC)
 (try rw [← hg0])
 clear hg0
 go_enter Tryz.func122, Tryz.ntmps122
 go_upto_region 1 with (fail)
 rw [← HW1.out]
 go_cut [18] from 4 to 19 (fun t18 wx => t18 = .bool false ∧ Hid (OB w A wx))
 case first =>
  go_region_with (first | (go_at_call 169; refine (tree_kidsFit _ _ _).mono ?_; rintro e w' ⟨rfl, rfl⟩; rw [HK.out]) | (go_at_call 170; refine (HU.out _ HS0.out).mono ?_; rintro e WU ⟨um, uo, ui, ul, rfl, hls, hs⟩; have u0 : WU.cell? ⟨w.heap.size, 0, none⟩ = some (.int .i64 r.kind) := (hs.2.cell 0).trans (by rw [HA.out]; rfl); have HSU := Lib.hid hs; have HLS := Lib.hid hls; clear hs hls) | (go_at_call 76; refine (sa_x (k := r.kind) HLS.out HL.out HSU.out).mono ?_; rintro e WS ⟨bs, rfl, hbs, hs⟩; have HSS := Lib.hid hs; have HBS := Lib.hid hbs; clear hs hbs))
  all_goals
   have hb : bs = true := HBS.out.2 HUU.out
   subst hb
   go_wp2_with fail
   go_meet
   exact ⟨rfl, HSS⟩
 case rest =>
  obtain ⟨rfl, hob⟩ := hcut
  have d0 : wc.cell? ⟨w.heap.size, 0, none⟩ = some (.int .i64 2) := (hob.out.2.cell 0).trans (by rw [HA.out, ← HKI.out]; rfl)
  have d3 : wc.cell? ⟨w.heap.size, 3, none⟩ = some (.string r.text) := (hob.out.2.cell 3).trans (by rw [HA.out]; rfl)
  have HOB := Lib.hid hob.out
  clear hob c0 c1 c2 c3 c4 c5 c6 c7 c8 c9 c10 c11 c12 c13 c14 c15 c16
  all_goals
   go_wp2_with (first | (go_at_call 172; (with_reducible refine (HC.out _ (by first | exact HOB.out)).mono ?_); rintro e W5 ⟨rfl, hs⟩; have k0_3 : W5.cell? ⟨w.heap.size, 3, none⟩ = some (.string r.text) := (hs.2.cell 3).trans (by rw [HA.out]; rfl); have HO0 := Lib.hid hs; clear hs))
   all_goals
    go_ret
    exact ⟨ret_bool (by first | rfl | (simp)), by first | exact HO0.out.1 | exact HOB.out.1⟩
end Go.Proofs.YtibcjfjacielbaaGreatDoor
