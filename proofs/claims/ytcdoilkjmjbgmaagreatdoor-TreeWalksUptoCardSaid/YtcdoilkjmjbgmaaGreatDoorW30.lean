import Derived.Test.YtcdoilkjmjbgmaaGreatDoorW10
/- Part of the proof of YtcdoilkjmjbgmaaGreatDoorCardX: TrHc TrHd. -/
set_option maxRecDepth 100000
set_option maxHeartbeats 4000000
set_option linter.unusedVariables false
set_option linter.unusedSimpArgs false
namespace Go.Proofs.YtcdoilkjmjbgmaaGreatDoor
open Go.RowKit
open Go.Proofs.Tryz
variable {b:Nat} {w:World}
theorem KH (g:Nat) (hb:b≤g) (hg:g<w.heap.size) (d:ByteArray) (p:Nat) (c0:w.cell? ⟨g,0,none⟩=some (.pointer (some ⟨p,0,none⟩))) (c1:w.cell? ⟨g,1,none⟩=some (.string d)):
  Calls prog 36 #[.iface 98 (.pointer (some ⟨g,0,none⟩))] w (gM w {zr 4 1 with bQ:=d}):=by
 have hm:=QQ;have a1:=asNumber;have a2:=qc;have a3:=ij;have a4:=nG;have HN:Hid (∀W,Below w.heap.size w W→Calls prog 62 #[.iface 98 (.pointer (some ⟨g,0,none⟩))] W (fI w W [.iface 84 (.pointer (some ⟨p,0,none⟩))])):=aa fun W hB=>dT (aY.range (b:=b) g hb hg d p c0 c1) hB
 go_enter func36,ntmps36;go_wp2_with fail;refine(QP _ _).mono ?_;rintro e w2 ⟨rfl,rfl⟩;go_wp2_with fail;obtain⟨w1,ey⟩: ∃w1,w1=w.alloc (.cells zc 46):=⟨_,rfl⟩;have aU:Below w.heap.size w w1:=by rw[ey];exact(aS w.heap.size w).alloc (aP _) _
 have db:aH w1 w.heap.size 46 zc:=by rw[ey];exact aH.new _ _ _
 simp only[zc]at ey;rw[←ey];refine(HN.out _ aU).mono ?_;rintro e w2 ⟨s,rfl,hs,aM,_⟩;obtain⟨ao,c,rfl,_⟩:=hs;have bD:=aa (aU.trans (aM.mono aU.size));have jg:=aa (db.below aM db.lt);have d0:w2.cell? ⟨g,0,none⟩=some (.pointer (some ⟨p,0,none⟩)):=(bD.out.cell (p:=⟨g,0,none⟩) hg).trans c0;have d1:w2.cell? ⟨g,1,none⟩=some (.string d):=(bD.out.cell (p:=⟨g,1,none⟩) hg).trans c1;have xh:g<w2.heap.size:=gO hg bD.out.size;clear aU aM db ey c0 c1;go_wp2_with (refine ay rfl 46 (.tmp 2) (.tmp 142) rfl w.heap.size _ rfl rfl (jg.out.alloc _) (by kernel_rfl) rfl rfl ?_);intro W' hz iu;go_wp2_with fail;exact cz (bf results36 rfl hz underlying46 (by kernel_rfl)) rfl (mg (jg.out.alloc _) iu (bD.out.alloc bD.out.size _) rfl rfl rfl rfl rfl)
theorem KI (g:Nat) (hb:b≤g) (hg:g<w.heap.size) (o:ByteArray) (t:TypeId) (x:Value) (c0:w.cell? ⟨g,0,none⟩=some (.string o)) (c1:w.cell? ⟨g,1,none⟩=some (.iface t x)):
  Calls prog 36 #[.iface 115 (.pointer (some ⟨g,0,none⟩))] w (gM w {zr 6 1 with op:=o}):=by
 have hm:=QS;have a1:=asNumber;have a2:=qc;have a3:=ij;have a4:=nG;have a5:=jc;have a6:=sx;have HN:Hid (∀W,Below w.heap.size w W→Calls prog 62 #[.iface 115 (.pointer (some ⟨g,0,none⟩))] W (fI w W [.iface t x])):=aa fun W hB=>dT (aY.unary (b:=b) g hb hg o t x c0 c1) hB
 go_enter func36,ntmps36;go_wp2_with fail;refine(QR _ _).mono ?_;rintro e w2 ⟨rfl,rfl⟩;go_wp2_with fail;obtain⟨w1,ey⟩: ∃w1,w1=w.alloc (.cells zc 46):=⟨_,rfl⟩;have aU:Below w.heap.size w w1:=by rw[ey];exact(aS w.heap.size w).alloc (aP _) _
 have db:aH w1 w.heap.size 46 zc:=by rw[ey];exact aH.new _ _ _
 simp only[zc]at ey;rw[←ey];refine(HN.out _ aU).mono ?_;rintro e w2 ⟨s,rfl,hs,aM,_⟩;obtain⟨ao,c,rfl,_⟩:=hs;have bD:=aa (aU.trans (aM.mono aU.size));have jg:=aa (db.below aM db.lt);have d0:w2.cell? ⟨g,0,none⟩=some (.string o):=(bD.out.cell (p:=⟨g,0,none⟩) hg).trans c0;have d1:w2.cell? ⟨g,1,none⟩=some (.iface t x):=(bD.out.cell (p:=⟨g,1,none⟩) hg).trans c1;have xh:g<w2.heap.size:=gO hg bD.out.size;clear aU aM db ey c0 c1;go_wp2_with (refine ay rfl 46 (.tmp 2) (.tmp 142) rfl w.heap.size _ rfl rfl (jg.out.alloc _) (by kernel_rfl) rfl rfl ?_);intro W' hz iu;go_wp2_with fail;exact cz (bf results36 rfl hz underlying46 (by kernel_rfl)) rfl (mg (jg.out.alloc _) iu (bD.out.alloc bD.out.size _) rfl rfl rfl rfl rfl)
