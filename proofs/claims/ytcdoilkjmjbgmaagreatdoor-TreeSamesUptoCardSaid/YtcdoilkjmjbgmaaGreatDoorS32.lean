import Derived.Test.YtcdoilkjmjbgmaaGreatDoorS01
import Derived.Deep.QuietTactic
import Derived.BigQuiet
/- Part of the proof of YtcdoilkjmjbgmaaGreatDoorCardY: TvF. -/
set_option maxRecDepth 100000
set_option maxHeartbeats 4000000
set_option linter.unusedVariables false
set_option linter.unusedSimpArgs false
namespace Go.Proofs.YtcdoilkjmjbgmaaGreatDoor
open Go.RowKit
open Go.Proofs.Tryz
def vK (b0 b1 b2 b3 b4 b5 b6 b7 b8 b9:Bool):Int:=
 bits BinOp.or IntKind.i64 (bits BinOp.or IntKind.i64 (bits BinOp.or IntKind.i64 (bits BinOp.or IntKind.i64 (bits BinOp.or IntKind.i64 (bits BinOp.or IntKind.i64 (bits BinOp.or IntKind.i64 (bits BinOp.or IntKind.i64 (bits BinOp.or IntKind.i64 (AM b0 1) (AM b1 2)) (AM b2 4)) (AM b3 8)) (AM b4 16)) (AM b5 32)) (AM b6 64)) (AM b7 128)) (AM b8 256)) (AM b9 512)
set_option maxHeartbeats 8000000 in
theorem Kw (w : World) (r : PR) (A : Array Value) (am ao ai al : Option Addr) (nm cm no co ni ci nl cl : Nat) (hA : A = et r (.slice am nm cm) (.slice ao no co) (.slice ai ni ci) (.slice al nl cl)) (h1 : ∀ u ∈ A.toList, u.oneCell' = true)
    (b0 b1 b2 b3 b4 b9 bo bt gi on bl bc bi : Bool) (e0 : r.op.toList.isEmpty = !b0) (e1 : r.text.toList.isEmpty = !b1) (e2 : decide (0 < nm) = b2) (e3 : r.bU.toList.isEmpty = !b3) (e4 : r.step.toList.isEmpty = !b4) (e5 : r.off.toList.isEmpty = !bo) (e6 : r.tim.toList.isEmpty = !bt)
    (e7 : r.given = gi) (e8 : r.on = on) (ea : decide (0 < no) = bl) (eb : (r.card != 0) = bc) (ec : decide (0 < ni) = bi) (ed : decide (0 < nl) = b9) :
    Calls prog 49 #[.agg A] w fun e w'=>e= .returned (.int .i64 (vK b0 b1 b2 b3 b4 (bo||bt) r.bool (gi||on||bl||bc||bi) r.without b9))∧Below w.heap.size w w':=by
  have HA:=ae hA
  have H1:=ae h1
  clear hA h1
  go_enter func49,ntmps49
  go_wp2_with (refine jG rfl 46 (.tmp 0) rfl A rfl H1.out ?_;intro WA R2 An SK;have CC:=aI R2 HA.out;have HZA:=ae R2;have ZU:=ae An;clear R2 An SK)
  generalize WK:WA.alloc _=W2
  have hm:aM W2 WA.heap.size 44 _:=WK▸aM.new _ _ _
  have ej:aM W2 w.heap.size 46 A:=WK▸HZA.out.alloc _
  have DD:=aI ej HA.out
  have m0:=hm.cell 0
  have m1:=hm.cell 1
  have m2:=hm.cell 2
  have m3:=hm.cell 3
  have m4:=hm.cell 4
  simp at m0 m1 m2 m3 m4
  have bF:Hid (Below w.heap.size w W2):=ae (WK▸ZU.out.alloc ZU.out.size _)
  clear hm WK CC ej
  simp only[List.append_eq,oh,tw]
  refine wp_region_quiet_lit (by kernel_rfl) (by kernel_rfl) ?_
  iterate 6
    all_goals (repeat (go_big_quiet_step ((go_at_call 71;exact Calls.quiet_of_same ((Yd _ _ _).mono fun _ _ ⟨h1,h2⟩=>⟨h1,h2.symm⟩)))))
    all_goals first
      | (refine wpQuiet_nil ?_
         intro _ hw'
         obtain⟨nq,akl⟩:=hw'
         subst akl
         go_wp2_with fail
         go_ret
         exact⟨rfl,bZ bF.out nq⟩)
      | cases bo
      | cases gi
      | cases on
      | cases bl
      | cases bc
