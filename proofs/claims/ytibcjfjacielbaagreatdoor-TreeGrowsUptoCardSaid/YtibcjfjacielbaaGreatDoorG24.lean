import Derived.Test.YtibcjfjacielbaaGreatDoorG01
import Derived.Laws.Rows
/- Part of the proof of YtibcjfjacielbaaGreatDoorCardG: TsBx. -/
set_option linter.unusedVariables false
set_option linter.unusedSimpArgs false
namespace Go.Proofs.YtibcjfjacielbaaGreatDoor
open Go.RowKit
theorem wpList_box_blk {P : Program} {ops : Array Oper} {rest : List Oper} {o : Oper} {a : Act} {w : World} {Q : Exit → Act → World → Prop} (hgd : o.guard = none) (ty : TypeId) (x : Operand) (ho : o.op = .box ty x)
  (cs : Array Value) (hx : a.eval x = .agg cs) (hc : ∀ u ∈ cs.toList, u.oneCell' = true)
  (h : ∀ W, Blk W w.heap.size ty cs → Below w.heap.size w W → W.heap.size = w.heap.size + 1 → wpList P ops Q rest (a.put o.dst (.pointer (some ⟨w.heap.size, 0, none⟩))) W) : wpList P ops Q (o :: rest) a w := by
 refine wpList_plain hgd fun K hK => ?_
 have hn := h (w.alloc (.cells cs ty)) (Blk.new w ty cs) ((Below.refl _ w).alloc (Nat.le_refl _) _) (by simp)
 unfold Oper.wp execOp
 simp only [ho, hx, Sem.run_bind, Sem.run_pure, Result.andThen_ok]
 simp [go_sem, Value.cells]
 exact hK _ _ hn
end Go.Proofs.YtibcjfjacielbaaGreatDoor
