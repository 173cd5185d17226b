import Derived.Test.YtibcjfjacielbaaGreatDoorP36
/- Part of the proof of YtibcjfjacielbaaGreatDoorCardP: TrHa TrHe. -/
set_option maxRecDepth 100000
set_option maxHeartbeats 4000000
set_option linter.unusedVariables false
set_option linter.unusedSimpArgs false
namespace Go.Proofs.YtibcjfjacielbaaGreatDoor
open Go.RowKit
theorem rowOf_number {b:Nat} {w:World} (g:Nat) (hb:b≤g) (hg:g<w.heap.size) (t:ByteArray) (c0:w.cell? ⟨g,0,none⟩=some (.string t)):
  Calls Tryz.prog 60 #[.iface 164 (.pointer (some ⟨g,0,none⟩))] w (RowPost w {zr 1 0 with text:=t}):=by
 have hm:=methNumber;have a1:=asNumber;have HN:Hid (∀W,Below w.heap.size w W→Calls Tryz.prog 103 #[.iface 164 (.pointer (some ⟨g,0,none⟩))] W (KidsPost w W [])):=Lib.hid fun W hB=>tree_kidsOf (NodeAt.number (b:=b) g hb hg t c0) hB
 go_enter Tryz.func60,Tryz.ntmps60;go_wp2_with fail;refine(kindNumber _ _).mono ?_;rintro e w2 ⟨rfl,rfl⟩;go_wp2_with fail;obtain⟨w1,hw1⟩: ∃w1,w1=w.alloc (.cells zc 58):=⟨_,rfl⟩;have hb1:Below w.heap.size w w1:=by rw[hw1];exact(Below.refl w.heap.size w).alloc (Nat.le_refl _) _
 have hz1:Blk w1 w.heap.size 58 zc:=by rw[hw1];exact Blk.new _ _ _
 simp only[zc]at hw1;rw[←hw1];refine(HN.out _ hb1).mono ?_;rintro e w2 ⟨s,rfl,hs,hb2,_⟩;obtain⟨ao,c,rfl,_⟩:=hs;have HB2:=Lib.hid (hb1.trans (hb2.mono hb1.size));have HZ2:=Lib.hid (hz1.below hb2 hz1.lt);have d0:w2.cell? ⟨g,0,none⟩=some (.string t):=(HB2.out.cell (p:=⟨g,0,none⟩) hg).trans c0;have hgl:g<w2.heap.size:=Nat.lt_of_lt_of_le hg HB2.out.size;clear hb1 hb2 hz1 hw1 c0;go_wp2_with (refine wpList_store_blk rfl 58 (.tmp 2) (.tmp 142) rfl w.heap.size _ rfl rfl (HZ2.out.alloc _) (by kernel_rfl) rfl rfl ?_);intro W' hz hgr;go_wp2_with fail;exact bodyPost_ret (results_blk Tryz.results60 rfl hz Tryz.underlying58 (by kernel_rfl)) rfl (none_post (HZ2.out.alloc _) hgr (HB2.out.alloc HB2.out.size _) rfl rfl rfl rfl rfl)
theorem rowOf_call {b:Nat} {w:World} (g:Nat) (hb:b≤g) (hg:g<w.heap.size) (o:ByteArray) (va:Value) (ks:List Value) (hk:ExpS b w va ks) (c0:w.cell? ⟨g,0,none⟩=some (.string o)) (c1:w.cell? ⟨g,1,none⟩=some (va)):
  Calls Tryz.prog 60 #[.iface 183 (.pointer (some ⟨g,0,none⟩))] w (RowPost w {zr 8 (ks.length:Nat)with op:=o}):=by
 have hm:=methCall;have a1:=asNumber;have a2:=asText;have a3:=asSelector;have a4:=asRange;have a5:=asSubquery;have a6:=asUnary;have a7:=asBinary;have a8:=asCall;have HN:Hid (∀W,Below w.heap.size w W→Calls Tryz.prog 103 #[.iface 183 (.pointer (some ⟨g,0,none⟩))] W (KidsPost w W ks)):=Lib.hid fun W hB=>tree_kidsOf (NodeAt.call (b:=b) g hb hg o va ks hk c0 c1) hB
 clear hk;go_enter Tryz.func60,Tryz.ntmps60;go_wp2_with fail;refine(kindCall _ _).mono ?_;rintro e w2 ⟨rfl,rfl⟩;go_wp2_with fail;obtain⟨w1,hw1⟩: ∃w1,w1=w.alloc (.cells zc 58):=⟨_,rfl⟩;have hb1:Below w.heap.size w w1:=by rw[hw1];exact(Below.refl w.heap.size w).alloc (Nat.le_refl _) _
 have hz1:Blk w1 w.heap.size 58 zc:=by rw[hw1];exact Blk.new _ _ _
 simp only[zc]at hw1;rw[←hw1];refine(HN.out _ hb1).mono ?_;rintro e w2 ⟨s,rfl,hs,hb2,_⟩;obtain⟨ao,c,rfl,_⟩:=hs;have HB2:=Lib.hid (hb1.trans (hb2.mono hb1.size));have HZ2:=Lib.hid (hz1.below hb2 hz1.lt);have d0:w2.cell? ⟨g,0,none⟩=some (.string o):=(HB2.out.cell (p:=⟨g,0,none⟩) hg).trans c0;have d1:w2.cell? ⟨g,1,none⟩=some (va):=(HB2.out.cell (p:=⟨g,1,none⟩) hg).trans c1;have hgl:g<w2.heap.size:=Nat.lt_of_lt_of_le hg HB2.out.size;clear hb1 hb2 hz1 hw1 c0 c1;go_wp2_with (refine wpList_store_blk rfl 58 (.tmp 2) (.tmp 142) rfl w.heap.size _ rfl rfl (HZ2.out.alloc _) (by kernel_rfl) rfl rfl ?_);intro W' hz hgr;go_wp2_with fail;exact bodyPost_ret (results_blk Tryz.results60 rfl hz Tryz.underlying58 (by kernel_rfl)) rfl (none_post (HZ2.out.alloc _) hgr (HB2.out.alloc HB2.out.size _) rfl rfl rfl rfl rfl)
end Go.Proofs.YtibcjfjacielbaaGreatDoor
