import Derived.Test.YtibcjfjacielbaaGreatDoorG07
import Derived.Test.YtibcjfjacielbaaGreatDoorG19
/- Part of the proof of YtibcjfjacielbaaGreatDoorCardG: TrR. -/
set_option linter.unusedVariables false
set_option linter.unusedSimpArgs false
namespace Go.Proofs.YtibcjfjacielbaaGreatDoor
open Go.RowKit
def unP (r : PR) : PR :=
 let r := { r with kids := 0 }
 if r.kind = 1 ∨ r.kind = 2 then { r with text := eS }
 else if r.kind = 3 then { r with text := eS, ms := [], off := eS, tim := eS }
 else if r.kind = 4 then { r with dur := eS }
 else if r.kind = 5 then { r with dur := eS, step := eS, off := eS, tim := eS }
 else if r.kind = 6 ∨ r.kind = 8 then { r with op := eS }
 else if r.kind = 7 then { r with op := eS, bool := false, given := false, on := false, mls := [], card := 0, inc := [] }
 else if r.kind = 9 then { r with op := eS, without := false, labels := [] }
 else r
def RowAt (w : World) (r : PR) (e : Ending) (w' : World) : Prop :=
 ∃ m o i l, e = .returned (rowV r m o i l) ∧ RowLs 0 w' r m o i l ∧ Below w.heap.size w w'
theorem strS_none (b : Nat) (w : World) : StrS b w (.slice none 0 0) [] := ⟨none, 0, rfl, fun j h => absurd h (by simp)⟩
theorem matS_none (b : Nat) (w : World) : MatS b w (.slice none 0 0) [] := ⟨none, 0, rfl, fun j h => absurd h (by simp)⟩
theorem blk_new2 (w : World) (A : Obj) (Z : Array Value) (t : TypeId) : Blk ((w.alloc A).alloc (.cells Z t)) (w.heap.size + 1) t Z := by
 have := Blk.new (w.alloc A) t Z
 simpa using this
theorem row_at {w : World} {A : Obj} {Z : Array Value} {t : TypeId} {W' : World} {r : PR} {m o i l : Value} {v : Value} (h : RowLs 0 w r m o i l) (hg : ((w.alloc A).alloc (.cells Z t)).grownBy W' (some (w.heap.size + 1))) (hv : v = .agg (rowA r m o i l)) :
  RowAt w r (.returned v) W' := by
 subst hv
 have hb2 : Below w.heap.size w ((w.alloc A).alloc (.cells Z t)) := ((Below.refl _ w).alloc (Nat.le_refl _) _).alloc (by simp) _
 have hb := below_grow hb2 hg (by simp; omega) (by omega)
 exact ⟨m, o, i, l, rfl, h.below hb, hb⟩
end Go.Proofs.YtibcjfjacielbaaGreatDoor
