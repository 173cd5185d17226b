import Derived.Test.YtibcjfjacielbaaGreatDoorG20
/- Part of the proof of YtibcjfjacielbaaGreatDoorCardG: TrRb. -/
set_option linter.unusedVariables false
set_option linter.unusedSimpArgs false
namespace Go.Proofs.YtibcjfjacielbaaGreatDoor
open Go.RowKit
set_option maxRecDepth 100000 in
set_option maxHeartbeats 1000000 in
theorem unused_4 (w : World) (kids : Int) (op text dur step off tim : ByteArray) (bool given on without : Bool) (card : Int) (ms : List PM) (mls inc labels : List ByteArray) (am ao ai al : Option Addr) (nm cm no co ni ci nl cl : Nat)
  (h : RowLs 0 w ⟨4, kids, op, text, ms, dur, step, off, tim, bool, given, on, mls, card, inc, without, labels⟩ (.slice am nm cm) (.slice ao no co) (.slice ai ni ci) (.slice al nl cl)) :
  Calls Tryz.prog 170 #[.agg #[.int .i64 4, .int .i64 kids, .string op, .string text, .slice am nm cm, .string dur, .string step, .string off, .string tim, .bool bool, .bool given, .bool on, .slice ao no co, .int .i64 card, .slice ai ni ci, .bool without, .slice al nl cl]] w (RowAt w (unP ⟨4, kids, op, text, ms, dur, step, off, tim, bool, given, on, mls, card, inc, without, labels⟩)) := by
 have HL := Lib.hid h
 clear h
 go_enter Tryz.func170, Tryz.ntmps170
 go_wp2_with (refine wpList_store_blk rfl 58 (.tmp 2) (.tmp 40) rfl (w.heap.size + 1) _ rfl rfl (blk_new2 _ _ _ _) info_row rfl rfl ?_)
 intro W' hz hgr
 go_wp2_with fail
 exact bodyPost_ret (results_blk Tryz.results170 rfl hz Tryz.underlying58 info_row) rfl (row_at (r := unP ⟨4, kids, op, text, ms, dur, step, off, tim, bool, given, on, mls, card, inc, without, labels⟩) (m := (.slice am nm cm)) (o := (.slice ao no co)) (i := (.slice ai ni ci)) (l := (.slice al nl cl)) (by simp only [unP, RowLs]; simp; exact ⟨HL.out.1, HL.out.2.1, HL.out.2.2.1, HL.out.2.2.2⟩) hgr (by simp [unP, rowA, eS]))
set_option maxRecDepth 100000 in
set_option maxHeartbeats 1000000 in
theorem unused_5 (w : World) (kids : Int) (op text dur step off tim : ByteArray) (bool given on without : Bool) (card : Int) (ms : List PM) (mls inc labels : List ByteArray) (am ao ai al : Option Addr) (nm cm no co ni ci nl cl : Nat)
  (h : RowLs 0 w ⟨5, kids, op, text, ms, dur, step, off, tim, bool, given, on, mls, card, inc, without, labels⟩ (.slice am nm cm) (.slice ao no co) (.slice ai ni ci) (.slice al nl cl)) :
  Calls Tryz.prog 170 #[.agg #[.int .i64 5, .int .i64 kids, .string op, .string text, .slice am nm cm, .string dur, .string step, .string off, .string tim, .bool bool, .bool given, .bool on, .slice ao no co, .int .i64 card, .slice ai ni ci, .bool without, .slice al nl cl]] w (RowAt w (unP ⟨5, kids, op, text, ms, dur, step, off, tim, bool, given, on, mls, card, inc, without, labels⟩)) := by
 have HL := Lib.hid h
 clear h
 go_enter Tryz.func170, Tryz.ntmps170
 go_wp2_with (refine wpList_store_blk rfl 58 (.tmp 2) (.tmp 40) rfl (w.heap.size + 1) _ rfl rfl (blk_new2 _ _ _ _) info_row rfl rfl ?_)
 intro W' hz hgr
 go_wp2_with fail
 exact bodyPost_ret (results_blk Tryz.results170 rfl hz Tryz.underlying58 info_row) rfl (row_at (r := unP ⟨5, kids, op, text, ms, dur, step, off, tim, bool, given, on, mls, card, inc, without, labels⟩) (m := (.slice am nm cm)) (o := (.slice ao no co)) (i := (.slice ai ni ci)) (l := (.slice al nl cl)) (by simp only [unP, RowLs]; simp; exact ⟨HL.out.1, HL.out.2.1, HL.out.2.2.1, HL.out.2.2.2⟩) hgr (by simp [unP, rowA, eS]))
set_option maxRecDepth 100000 in
set_option maxHeartbeats 1000000 in
theorem unused_6 (w : World) (kids : Int) (op text dur step off tim : ByteArray) (bool given on without : Bool) (card : Int) (ms : List PM) (mls inc labels : List ByteArray) (am ao ai al : Option Addr) (nm cm no co ni ci nl cl : Nat)
  (h : RowLs 0 w ⟨6, kids, op, text, ms, dur, step, off, tim, bool, given, on, mls, card, inc, without, labels⟩ (.slice am nm cm) (.slice ao no co) (.slice ai ni ci) (.slice al nl cl)) :
  Calls Tryz.prog 170 #[.agg #[.int .i64 6, .int .i64 kids, .string op, .string text, .slice am nm cm, .string dur, .string step, .string off, .string tim, .bool bool, .bool given, .bool on, .slice ao no co, .int .i64 card, .slice ai ni ci, .bool without, .slice al nl cl]] w (RowAt w (unP ⟨6, kids, op, text, ms, dur, step, off, tim, bool, given, on, mls, card, inc, without, labels⟩)) := by
 have HL := Lib.hid h
 clear h
 go_enter Tryz.func170, Tryz.ntmps170
 go_wp2_with (refine wpList_store_blk rfl 58 (.tmp 2) (.tmp 40) rfl (w.heap.size + 1) _ rfl rfl (blk_new2 _ _ _ _) info_row rfl rfl ?_)
 intro W' hz hgr
 go_wp2_with fail
 exact bodyPost_ret (results_blk Tryz.results170 rfl hz Tryz.underlying58 info_row) rfl (row_at (r := unP ⟨6, kids, op, text, ms, dur, step, off, tim, bool, given, on, mls, card, inc, without, labels⟩) (m := (.slice am nm cm)) (o := (.slice ao no co)) (i := (.slice ai ni ci)) (l := (.slice al nl cl)) (by simp only [unP, RowLs]; simp; exact ⟨HL.out.1, HL.out.2.1, HL.out.2.2.1, HL.out.2.2.2⟩) hgr (by simp [unP, rowA, eS]))
end Go.Proofs.YtibcjfjacielbaaGreatDoor
