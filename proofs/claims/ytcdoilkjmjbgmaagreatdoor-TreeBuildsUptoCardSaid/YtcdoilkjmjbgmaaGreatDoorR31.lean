import Derived.Test.YtcdoilkjmjbgmaaGreatDoorR11
/- Part of the proof of YtcdoilkjmjbgmaaGreatDoorCardR: TrHc TrHd. -/
set_option maxRecDepth 100000
set_option maxHeartbeats 4000000
set_option linter.unusedVariables false
set_option linter.unusedSimpArgs false
namespace Go.Proofs.YtcdoilkjmjbgmaaGreatDoor
open Go.RowKit
open Tryz
variable {b:Nat} {w:World}
theorem K4 (g:Nat) (hb:b≤g) (hg:g<w.heap.size) (d:ByteArray) (p:Nat) (c0:w.cell? ⟨g,0,none⟩=some (.pointer (some ⟨p,0,none⟩))) (c1:w.cell? ⟨g,1,none⟩=some (.string d)):
  Calls prog 36 #[.iface 98 (.pointer (some ⟨g,0,none⟩))] w (gq w {zr 4 1 with bV:=d}):=by
 have hm:=QZ;have a1:=asNumber;have a2:=pT;have a3:=fH;have a4:=nC;have HN:Hid (∀W,Below w.heap.size w W→Calls prog 62 #[.iface 98 (.pointer (some ⟨g,0,none⟩))] W (fS w W [.iface 84 (.pointer (some ⟨p,0,none⟩))])):=aa fun W hB=>dV (ba.range (b:=b) g hb hg d p c0 c1) hB
 go_enter func36,ntmps36;go_wp2_with fail;refine(QY _ _).mono ?_;rintro e w2 ⟨rfl,rfl⟩;go_wp2_with fail;obtain⟨w1,ej⟩: ∃w1,w1=w.alloc (.cells zc 46):=⟨_,rfl⟩;have aW:Below w.heap.size w w1:=by rw[ej];exact(aV w.heap.size w).alloc (aS _) _
 have cK:aK w1 w.heap.size 46 zc:=by rw[ej];exact aK.new _ _ _
 simp only[zc]at ej;rw[←ej];refine(HN.out _ aW).mono ?_;rintro e w2 ⟨s,rfl,hs,aN,_⟩;obtain⟨ao,c,rfl,_⟩:=hs;have bC:=aa (aW.trans (aN.mono aW.size));have jh:=aa (cK.below aN cK.lt);have d0:w2.cell? ⟨g,0,none⟩=some (.pointer (some ⟨p,0,none⟩)):=(bC.out.cell (p:=⟨g,0,none⟩) hg).trans c0;have d1:w2.cell? ⟨g,1,none⟩=some (.string d):=(bC.out.cell (p:=⟨g,1,none⟩) hg).trans c1;have yE:g<w2.heap.size:=gU hg bC.out.size;clear aW aN cK ej c0 c1;go_wp2_with (refine ay rfl 46 (.tmp 2) (.tmp 142) rfl w.heap.size _ rfl rfl (jh.out.alloc _) (by kernel_rfl) rfl rfl ?_);intro W' hz jw;go_wp2_with fail;exact cB (aZ results36 rfl hz underlying46 (by kernel_rfl)) rfl (mv (jh.out.alloc _) jw (bC.out.alloc bC.out.size _) rfl rfl rfl rfl rfl)
theorem K5 (g:Nat) (hb:b≤g) (hg:g<w.heap.size) (o:ByteArray) (t:TypeId) (x:Value) (c0:w.cell? ⟨g,0,none⟩=some (.string o)) (c1:w.cell? ⟨g,1,none⟩=some (.iface t x)):
  Calls prog 36 #[.iface 115 (.pointer (some ⟨g,0,none⟩))] w (gq w {zr 6 1 with op:=o}):=by
 have hm:=Q1;have a1:=asNumber;have a2:=pT;have a3:=fH;have a4:=nC;have a5:=jd;have a6:=sN;have HN:Hid (∀W,Below w.heap.size w W→Calls prog 62 #[.iface 115 (.pointer (some ⟨g,0,none⟩))] W (fS w W [.iface t x])):=aa fun W hB=>dV (ba.unary (b:=b) g hb hg o t x c0 c1) hB
 go_enter func36,ntmps36;go_wp2_with fail;refine(Q0 _ _).mono ?_;rintro e w2 ⟨rfl,rfl⟩;go_wp2_with fail;obtain⟨w1,ej⟩: ∃w1,w1=w.alloc (.cells zc 46):=⟨_,rfl⟩;have aW:Below w.heap.size w w1:=by rw[ej];exact(aV w.heap.size w).alloc (aS _) _
 have cK:aK w1 w.heap.size 46 zc:=by rw[ej];exact aK.new _ _ _
 simp only[zc]at ej;rw[←ej];refine(HN.out _ aW).mono ?_;rintro e w2 ⟨s,rfl,hs,aN,_⟩;obtain⟨ao,c,rfl,_⟩:=hs;have bC:=aa (aW.trans (aN.mono aW.size));have jh:=aa (cK.below aN cK.lt);have d0:w2.cell? ⟨g,0,none⟩=some (.string o):=(bC.out.cell (p:=⟨g,0,none⟩) hg).trans c0;have d1:w2.cell? ⟨g,1,none⟩=some (.iface t x):=(bC.out.cell (p:=⟨g,1,none⟩) hg).trans c1;have yE:g<w2.heap.size:=gU hg bC.out.size;clear aW aN cK ej c0 c1;go_wp2_with (refine ay rfl 46 (.tmp 2) (.tmp 142) rfl w.heap.size _ rfl rfl (jh.out.alloc _) (by kernel_rfl) rfl rfl ?_);intro W' hz jw;go_wp2_with fail;exact cB (aZ results36 rfl hz underlying46 (by kernel_rfl)) rfl (mv (jh.out.alloc _) jw (bC.out.alloc bC.out.size _) rfl rfl rfl rfl rfl)
