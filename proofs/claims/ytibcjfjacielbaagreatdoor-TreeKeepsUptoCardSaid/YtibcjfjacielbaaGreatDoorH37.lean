import Derived.Test.YtibcjfjacielbaaGreatDoorH06
import Derived.Test.YtibcjfjacielbaaGreatDoorH05
import Derived.Deep.RegionLaw
import Derived.Deep.Cut
/- Part of the proof of YtibcjfjacielbaaGreatDoorCardH: TkC. -/
set_option maxRecDepth 100000
set_option maxHeartbeats 4000000
set_option linter.unusedVariables false
set_option linter.unusedSimpArgs false
namespace Go.Proofs.YtibcjfjacielbaaGreatDoor
open Go.RowKit
theorem holds_is {b n m:Nat} {w:World} {v:Value} (ho:w.ownsRow b 9 1 v n (List.replicate n (.string (markS m)))) (hn:n≤1099511627776) (hm:m<1099511627776):
  Calls Tryz.prog 125 #[v,.int .i64 (m:Int)] w (BoolPost w true):=by
 have HM:Hid (∀W,Calls Tryz.prog 124 #[.int .i64 (m:Int)] W fun e w'=>e= .returned (.string (markS m))∧Below W.heap.size W w'):=Lib.hid fun W=>mark_is m W hm
 have hsl: ∃ao c,v= .slice ao n c∧(0<n→ ∃g,ao=some ⟨g,0,none⟩∧g<w.heap.size∧ ∀j,j<n→w.cell? ⟨g,j,none⟩=some (.string (markS m))):=by
  rcases own_cases ho with⟨rfl,rfl⟩|⟨g,c,rfl,hg,_⟩
  ·exact⟨_,_,rfl,fun h=>absurd h (Nat.lt_irrefl _)⟩
  ·exact⟨_,_,rfl,fun _=>⟨g,rfl,hg,fun j hj=>(ho.cellAt j (by omega)).trans (by simp[hj])⟩⟩
 obtain⟨ao,c,rfl,hg⟩:=hsl;have HG:=Lib.hid hg;clear hg ho;go_enter Tryz.func125,Tryz.ntmps125;go_wp2_with fail;go_loopw [5] (fun t5 W=> ∃j:Nat,t5= .int .i64 (j:Int)∧Hid (j≤n)∧Hid (Below w.heap.size w W)) (fun t5 _=>n-(intOf t5).toNat)
 case atStart=>exact⟨0,rfl,Lib.hid (Nat.zero_le _),Lib.hid (Below.refl _ _)⟩
 case round=>
  obtain⟨j,rfl,hj,hb⟩:=hrel;by_cases hlt:j<n
  ·have p1:((j:Int)<(n:Int))=True:=eq_true (by omega);obtain⟨g,rfl,hgl,hc⟩:=HG.out (by omega);have HC:Hid (∀W,Below w.heap.size w W→W.cell? ⟨g,j,none⟩=some (.string (markS m))):=Lib.hid fun W hb=>(hb.cell (p:=⟨g,j,none⟩) hgl).trans (hc j hlt)
   have c0:wr.drew.cell? ⟨g,j,none⟩=some (.string (markS m)):=HC.out _ hb.out.drew;clear hc;go_upto_region 4 with(fail)
   go_region_law (go_simp;go_at_call 124;(with_reducible refine(HM.out _).mono ?_);rintro e W1 ⟨rfl,hb1⟩;have HB1:Hid (Below w.heap.size w W1):=Lib.hid (hb.out.trans ((((Below.refl _ wr).drew).trans hb1).mono hb.out.size));have k1:W1.cell? ⟨g,j,none⟩=some (.string (markS m)):=HC.out _ HB1.out;clear hb1)
   all_goals
    go_wp2_with fail;go_roundw
    case rel=>exact⟨j+1,by go_num,Lib.hid hlt,HB1⟩
    case measure=>simp[intOf];omega
  ·have p1:((j:Int)<(n:Int))=False:=eq_false (by omega);go_wp2_with fail;go_ret;exact⟨rfl,hb.out⟩
end Go.Proofs.YtibcjfjacielbaaGreatDoor
