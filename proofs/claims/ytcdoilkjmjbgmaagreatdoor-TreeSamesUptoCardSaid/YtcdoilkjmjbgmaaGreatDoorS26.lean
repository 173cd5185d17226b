import Derived.Test.YtcdoilkjmjbgmaaGreatDoorS11
/- Part of the proof of YtcdoilkjmjbgmaaGreatDoorCardY: TrHa TrHe. -/
set_option maxRecDepth 100000
set_option maxHeartbeats 4000000
set_option linter.unusedVariables false
set_option linter.unusedSimpArgs false
namespace Go.Proofs.YtcdoilkjmjbgmaaGreatDoor
open Go.RowKit
open Go.Proofs.Tryz
variable {b:Nat} {w:World}
theorem G5 (g:Nat) (hb:b≤g) (hg:g<w.heap.size) (t:ByteArray) (c0:w.cell? ⟨g,0,none⟩=some (.string t)):
  Calls prog 36 #[.iface 105 (.pointer (some ⟨g,0,none⟩))] w (gJ w {zr 1 0 with text:=t}):=by
 have hm:=MQ;have a1:=asNumber;have HN:Hid (∀W,Below w.heap.size w W→Calls prog 62 #[.iface 105 (.pointer (some ⟨g,0,none⟩))] W (fK w W [])):=ae fun W hB=>dR (ba.number (b:=b) g hb hg t c0) hB
 go_enter func36,ntmps36;go_wp2_with fail;refine(MP _ _).mono ?_;rintro e w2 ⟨rfl,rfl⟩;go_wp2_with fail;obtain⟨w1,eC⟩: ∃w1,w1=w.alloc (.cells zc 46):=⟨_,rfl⟩;have aY:Below w.heap.size w w1:=by rw[eC];exact(aU w.heap.size w).alloc (aS _) _
 have de:aM w1 w.heap.size 46 zc:=by rw[eC];exact aM.new _ _ _
 simp only[zc]at eC;rw[←eC];refine(HN.out _ aY).mono ?_;rintro e w2 ⟨s,rfl,hs,aQ,_⟩;obtain⟨ao,c,rfl,_⟩:=hs;have bF:=ae (aY.trans (aQ.mono aY.size));have iE:=ae (de.below aQ de.lt);have d0:w2.cell? ⟨g,0,none⟩=some (.string t):=(bF.out.cell (p:=⟨g,0,none⟩) hg).trans c0;have zF:g<w2.heap.size:=iv hg bF.out.size;clear aY aQ de eC c0;go_wp2_with (refine ax rfl 46 (.tmp 2) (.tmp 142) rfl w.heap.size _ rfl rfl (iE.out.alloc _) (by kernel_rfl) rfl rfl ?_);intro W' hz jm;go_wp2_with fail;exact cB (bh results36 rfl hz underlying46 (by kernel_rfl)) rfl (mf (iE.out.alloc _) jm (bF.out.alloc bF.out.size _) rfl rfl rfl rfl rfl)
theorem Nl (g:Nat) (hb:b≤g) (hg:g<w.heap.size) (o:ByteArray) (va:Value) (ks:List Value) (hk:pw b w va ks) (c0:w.cell? ⟨g,0,none⟩=some (.string o)) (c1:w.cell? ⟨g,1,none⟩=some (va)):
  Calls prog 36 #[.iface 122 (.pointer (some ⟨g,0,none⟩))] w (gJ w {zr 8 (ks.length:Nat)with op:=o}):=by
 have hm:=UZ;have a1:=asNumber;have a2:=pF;have a3:=gY;have a4:=ny;have a5:=iT;have a6:=sj;have a7:=rB;have a8:=F5;have HN:Hid (∀W,Below w.heap.size w W→Calls prog 62 #[.iface 122 (.pointer (some ⟨g,0,none⟩))] W (fK w W ks)):=ae fun W hB=>dR (ba.call (b:=b) g hb hg o va ks hk c0 c1) hB
 clear hk;go_enter func36,ntmps36;go_wp2_with fail;refine(UY _ _).mono ?_;rintro e w2 ⟨rfl,rfl⟩;go_wp2_with fail;obtain⟨w1,eC⟩: ∃w1,w1=w.alloc (.cells zc 46):=⟨_,rfl⟩;have aY:Below w.heap.size w w1:=by rw[eC];exact(aU w.heap.size w).alloc (aS _) _
 have de:aM w1 w.heap.size 46 zc:=by rw[eC];exact aM.new _ _ _
 simp only[zc]at eC;rw[←eC];refine(HN.out _ aY).mono ?_;rintro e w2 ⟨s,rfl,hs,aQ,_⟩;obtain⟨ao,c,rfl,_⟩:=hs;have bF:=ae (aY.trans (aQ.mono aY.size));have iE:=ae (de.below aQ de.lt);have d0:w2.cell? ⟨g,0,none⟩=some (.string o):=(bF.out.cell (p:=⟨g,0,none⟩) hg).trans c0;have d1:w2.cell? ⟨g,1,none⟩=some (va):=(bF.out.cell (p:=⟨g,1,none⟩) hg).trans c1;have zF:g<w2.heap.size:=iv hg bF.out.size;clear aY aQ de eC c0 c1;go_wp2_with (refine ax rfl 46 (.tmp 2) (.tmp 142) rfl w.heap.size _ rfl rfl (iE.out.alloc _) (by kernel_rfl) rfl rfl ?_);intro W' hz jm;go_wp2_with fail;exact cB (bh results36 rfl hz underlying46 (by kernel_rfl)) rfl (mf (iE.out.alloc _) jm (bF.out.alloc bF.out.size _) rfl rfl rfl rfl rfl)
