import Derived.Test.YtibcjfjacielbaaGreatDoorP36
/- Part of the proof of YtibcjfjacielbaaGreatDoorCardP: TrHb TrHc. -/
set_option maxRecDepth 100000
set_option maxHeartbeats 4000000
set_option linter.unusedVariables false
set_option linter.unusedSimpArgs false
namespace Go.Proofs.YtibcjfjacielbaaGreatDoor
open Go.RowKit
theorem rowOf_text {b:Nat} {w:World} (g:Nat) (hb:b≤g) (hg:g<w.heap.size) (t:ByteArray) (c0:w.cell? ⟨g,0,none⟩=some (.string t)):
  Calls Tryz.prog 60 #[.iface 167 (.pointer (some ⟨g,0,none⟩))] w (RowPost w {zr 2 0 with text:=t}):=by
 have hm:=methText;have a1:=asNumber;have a2:=asText;have HN:Hid (∀W,Below w.heap.size w W→Calls Tryz.prog 103 #[.iface 167 (.pointer (some ⟨g,0,none⟩))] W (KidsPost w W [])):=Lib.hid fun W hB=>tree_kidsOf (NodeAt.text (b:=b) g hb hg t c0) hB
 go_enter Tryz.func60,Tryz.ntmps60;go_wp2_with fail;refine(kindText _ _).mono ?_;rintro e w2 ⟨rfl,rfl⟩;go_wp2_with fail;obtain⟨w1,hw1⟩: ∃w1,w1=w.alloc (.cells zc 58):=⟨_,rfl⟩;have hb1:Below w.heap.size w w1:=by rw[hw1];exact(Below.refl w.heap.size w).alloc (Nat.le_refl _) _
 have hz1:Blk w1 w.heap.size 58 zc:=by rw[hw1];exact Blk.new _ _ _
 simp only[zc]at hw1;rw[←hw1];refine(HN.out _ hb1).mono ?_;rintro e w2 ⟨s,rfl,hs,hb2,_⟩;obtain⟨ao,c,rfl,_⟩:=hs;have HB2:=Lib.hid (hb1.trans (hb2.mono hb1.size));have HZ2:=Lib.hid (hz1.below hb2 hz1.lt);have d0:w2.cell? ⟨g,0,none⟩=some (.string t):=(HB2.out.cell (p:=⟨g,0,none⟩) hg).trans c0;have hgl:g<w2.heap.size:=Nat.lt_of_lt_of_le hg HB2.out.size;clear hb1 hb2 hz1 hw1 c0;go_wp2_with (refine wpList_store_blk rfl 58 (.tmp 2) (.tmp 142) rfl w.heap.size _ rfl rfl (HZ2.out.alloc _) (by kernel_rfl) rfl rfl ?_);intro W' hz hgr;go_wp2_with fail;exact bodyPost_ret (results_blk Tryz.results60 rfl hz Tryz.underlying58 (by kernel_rfl)) rfl (none_post (HZ2.out.alloc _) hgr (HB2.out.alloc HB2.out.size _) rfl rfl rfl rfl rfl)
theorem rowOf_range {b:Nat} {w:World} (g:Nat) (hb:b≤g) (hg:g<w.heap.size) (d:ByteArray) (p:Nat) (c0:w.cell? ⟨g,0,none⟩=some (.pointer (some ⟨p,0,none⟩))) (c1:w.cell? ⟨g,1,none⟩=some (.string d)):
  Calls Tryz.prog 60 #[.iface 170 (.pointer (some ⟨g,0,none⟩))] w (RowPost w {zr 4 1 with dur:=d}):=by
 have hm:=methRange;have a1:=asNumber;have a2:=asText;have a3:=asSelector;have a4:=asRange;have HN:Hid (∀W,Below w.heap.size w W→Calls Tryz.prog 103 #[.iface 170 (.pointer (some ⟨g,0,none⟩))] W (KidsPost w W [.iface 93 (.pointer (some ⟨p,0,none⟩))])):=Lib.hid fun W hB=>tree_kidsOf (NodeAt.range (b:=b) g hb hg d p c0 c1) hB
 go_enter Tryz.func60,Tryz.ntmps60;go_wp2_with fail;refine(kindRange _ _).mono ?_;rintro e w2 ⟨rfl,rfl⟩;go_wp2_with fail;obtain⟨w1,hw1⟩: ∃w1,w1=w.alloc (.cells zc 58):=⟨_,rfl⟩;have hb1:Below w.heap.size w w1:=by rw[hw1];exact(Below.refl w.heap.size w).alloc (Nat.le_refl _) _
 have hz1:Blk w1 w.heap.size 58 zc:=by rw[hw1];exact Blk.new _ _ _
 simp only[zc]at hw1;rw[←hw1];refine(HN.out _ hb1).mono ?_;rintro e w2 ⟨s,rfl,hs,hb2,_⟩;obtain⟨ao,c,rfl,_⟩:=hs;have HB2:=Lib.hid (hb1.trans (hb2.mono hb1.size));have HZ2:=Lib.hid (hz1.below hb2 hz1.lt);have d0:w2.cell? ⟨g,0,none⟩=some (.pointer (some ⟨p,0,none⟩)):=(HB2.out.cell (p:=⟨g,0,none⟩) hg).trans c0;have d1:w2.cell? ⟨g,1,none⟩=some (.string d):=(HB2.out.cell (p:=⟨g,1,none⟩) hg).trans c1;have hgl:g<w2.heap.size:=Nat.lt_of_lt_of_le hg HB2.out.size;clear hb1 hb2 hz1 hw1 c0 c1;go_wp2_with (refine wpList_store_blk rfl 58 (.tmp 2) (.tmp 142) rfl w.heap.size _ rfl rfl (HZ2.out.alloc _) (by kernel_rfl) rfl rfl ?_);intro W' hz hgr;go_wp2_with fail;exact bodyPost_ret (results_blk Tryz.results60 rfl hz Tryz.underlying58 (by kernel_rfl)) rfl (none_post (HZ2.out.alloc _) hgr (HB2.out.alloc HB2.out.size _) rfl rfl rfl rfl rfl)
end Go.Proofs.YtibcjfjacielbaaGreatDoor
