import Derived.Test.YtcdoilkjmjbgmaaGreatDoorS11
/- Part of the proof of YtcdoilkjmjbgmaaGreatDoorCardY: TrHc TrHd. -/
set_option maxRecDepth 100000
set_option maxHeartbeats 4000000
set_option linter.unusedVariables false
set_option linter.unusedSimpArgs false
namespace Go.Proofs.YtcdoilkjmjbgmaaGreatDoor
open Go.RowKit
open Go.Proofs.Tryz
variable {b:Nat} {w:World}
theorem Kq (g:Nat) (hb:b≤g) (hg:g<w.heap.size) (d:ByteArray) (p:Nat) (c0:w.cell? ⟨g,0,none⟩=some (.pointer (some ⟨p,0,none⟩))) (c1:w.cell? ⟨g,1,none⟩=some (.string d)):
  Calls prog 36 #[.iface 98 (.pointer (some ⟨g,0,none⟩))] w (gJ w {zr 4 1 with bU:=d}):=by
 have hm:=QH;have a1:=asNumber;have a2:=pF;have a3:=gY;have a4:=ny;have HN:Hid (∀W,Below w.heap.size w W→Calls prog 62 #[.iface 98 (.pointer (some ⟨g,0,none⟩))] W (fK w W [.iface 84 (.pointer (some ⟨p,0,none⟩))])):=ae fun W hB=>dR (ba.range (b:=b) g hb hg d p c0 c1) hB
 go_enter func36,ntmps36;go_wp2_with fail;refine(QG _ _).mono ?_;rintro e w2 ⟨rfl,rfl⟩;go_wp2_with fail;obtain⟨w1,eC⟩: ∃w1,w1=w.alloc (.cells zc 46):=⟨_,rfl⟩;have aY:Below w.heap.size w w1:=by rw[eC];exact(aU w.heap.size w).alloc (aS _) _
 have de:aM w1 w.heap.size 46 zc:=by rw[eC];exact aM.new _ _ _
 simp only[zc]at eC;rw[←eC];refine(HN.out _ aY).mono ?_;rintro e w2 ⟨s,rfl,hs,aQ,_⟩;obtain⟨ao,c,rfl,_⟩:=hs;have bF:=ae (aY.trans (aQ.mono aY.size));have iE:=ae (de.below aQ de.lt);have d0:w2.cell? ⟨g,0,none⟩=some (.pointer (some ⟨p,0,none⟩)):=(bF.out.cell (p:=⟨g,0,none⟩) hg).trans c0;have d1:w2.cell? ⟨g,1,none⟩=some (.string d):=(bF.out.cell (p:=⟨g,1,none⟩) hg).trans c1;have zF:g<w2.heap.size:=iv hg bF.out.size;clear aY aQ de eC c0 c1;go_wp2_with (refine ax rfl 46 (.tmp 2) (.tmp 142) rfl w.heap.size _ rfl rfl (iE.out.alloc _) (by kernel_rfl) rfl rfl ?_);intro W' hz jm;go_wp2_with fail;exact cB (bh results36 rfl hz underlying46 (by kernel_rfl)) rfl (mf (iE.out.alloc _) jm (bF.out.alloc bF.out.size _) rfl rfl rfl rfl rfl)
theorem Kr (g:Nat) (hb:b≤g) (hg:g<w.heap.size) (o:ByteArray) (t:TypeId) (x:Value) (c0:w.cell? ⟨g,0,none⟩=some (.string o)) (c1:w.cell? ⟨g,1,none⟩=some (.iface t x)):
  Calls prog 36 #[.iface 115 (.pointer (some ⟨g,0,none⟩))] w (gJ w {zr 6 1 with op:=o}):=by
 have hm:=QJ;have a1:=asNumber;have a2:=pF;have a3:=gY;have a4:=ny;have a5:=iT;have a6:=sj;have HN:Hid (∀W,Below w.heap.size w W→Calls prog 62 #[.iface 115 (.pointer (some ⟨g,0,none⟩))] W (fK w W [.iface t x])):=ae fun W hB=>dR (ba.unary (b:=b) g hb hg o t x c0 c1) hB
 go_enter func36,ntmps36;go_wp2_with fail;refine(QI _ _).mono ?_;rintro e w2 ⟨rfl,rfl⟩;go_wp2_with fail;obtain⟨w1,eC⟩: ∃w1,w1=w.alloc (.cells zc 46):=⟨_,rfl⟩;have aY:Below w.heap.size w w1:=by rw[eC];exact(aU w.heap.size w).alloc (aS _) _
 have de:aM w1 w.heap.size 46 zc:=by rw[eC];exact aM.new _ _ _
 simp only[zc]at eC;rw[←eC];refine(HN.out _ aY).mono ?_;rintro e w2 ⟨s,rfl,hs,aQ,_⟩;obtain⟨ao,c,rfl,_⟩:=hs;have bF:=ae (aY.trans (aQ.mono aY.size));have iE:=ae (de.below aQ de.lt);have d0:w2.cell? ⟨g,0,none⟩=some (.string o):=(bF.out.cell (p:=⟨g,0,none⟩) hg).trans c0;have d1:w2.cell? ⟨g,1,none⟩=some (.iface t x):=(bF.out.cell (p:=⟨g,1,none⟩) hg).trans c1;have zF:g<w2.heap.size:=iv hg bF.out.size;clear aY aQ de eC c0 c1;go_wp2_with (refine ax rfl 46 (.tmp 2) (.tmp 142) rfl w.heap.size _ rfl rfl (iE.out.alloc _) (by kernel_rfl) rfl rfl ?_);intro W' hz jm;go_wp2_with fail;exact cB (bh results36 rfl hz underlying46 (by kernel_rfl)) rfl (mf (iE.out.alloc _) jm (bF.out.alloc bF.out.size _) rfl rfl rfl rfl rfl)
