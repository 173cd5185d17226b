import Derived.Test.YtcdoilkjmjbgmaaGreatDoorW10
import Derived.Deep.RegionLaw
import Derived.Deep.Cut
/- Part of the proof of YtcdoilkjmjbgmaaGreatDoorCardX: TkC. -/
set_option maxRecDepth 100000
set_option maxHeartbeats 4000000
set_option linter.unusedVariables false
set_option linter.unusedSimpArgs false
namespace Go.Proofs.YtcdoilkjmjbgmaaGreatDoor
open Go.RowKit
open Go.Proofs.Tryz
variable {b n m:Nat} {w:World} {v:Value}
theorem BZ (ho:w.ownsRow b 9 1 v n (List.replicate n (.string (iF m)))) (hn:n≤1099511627776) (hm:m<1099511627776):
  Calls prog 67 #[v,.int .i64 (m:Int)] w (aC w true):=by
 have HM:Hid (∀W,Calls prog 66 #[.int .i64 (m:Int)] W fun e w'=>e= .returned (.string (iF m))∧Below W.heap.size W w'):=aa fun W=>OZ m W hm
 have Z0: ∃ao c,v= .slice ao n c∧(0<n→ ∃g,ao=some ⟨g,0,none⟩∧g<w.heap.size∧ ∀j,j<n→w.cell? ⟨g,j,none⟩=some (.string (iF m))):=by
  rcases xT ho with⟨rfl,rfl⟩|⟨g,c,rfl,hg,_⟩
  ·exact⟨_,_,rfl,fun h=>absurd h (Nat.lt_irrefl _)⟩
  ·exact⟨_,_,rfl,fun _=>⟨g,rfl,hg,fun j hj=>(ho.cellAt j (by omega)).trans (by simp[hj])⟩⟩
 obtain⟨ao,c,rfl,hg⟩:=Z0;have HG:=aa hg;clear hg ho;go_enter func67,ntmps67;go_wp2_with fail;go_loopw [5] (fun t5 W=> ∃j:Nat,t5= .int .i64 (j:Int)∧Hid (j≤n)∧Hid (Below w.heap.size w W)) (fun t5 _=>n-(intOf t5).toNat)
 case atStart=>exact⟨0,rfl,aa (aT _),aa (aS _ _)⟩
 case round=>
  obtain⟨j,rfl,hj,hb⟩:=hrel;by_cases au:j<n
  ·have p1:((j:Int)<(n:Int))=True:=az (by omega);obtain⟨g,rfl,xh,hc⟩:=HG.out (by omega);have HC:Hid (∀W,Below w.heap.size w W→W.cell? ⟨g,j,none⟩=some (.string (iF m))):=aa fun W hb=>(hb.cell (p:=⟨g,j,none⟩) xh).trans (hc j au)
   have c0:wr.drew.cell? ⟨g,j,none⟩=some (.string (iF m)):=HC.out _ hb.out.drew;clear hc;go_upto_region 4 with(fail)
   go_region_law (go_simp;go_at_call 66;(with_reducible refine(HM.out _).mono ?_);rintro e W1 ⟨rfl,aU⟩;have bZ:Hid (Below w.heap.size w W1):=aa (hb.out.trans ((((aS _ wr).drew).trans aU).mono hb.out.size));have k1:W1.cell? ⟨g,j,none⟩=some (.string (iF m)):=HC.out _ bZ.out;clear aU)
   all_goals
    go_wp2_with fail;go_roundw
    case rel=>exact⟨j+1,by go_num,aa au,bZ⟩
    case measure=>simp[intOf];omega
  ·have p1:((j:Int)<(n:Int))=False:=bL (by omega);go_wp2_with fail;go_ret;exact⟨rfl,hb.out⟩
