import Derived.Test.YtibcjfjacielbaaGreatDoorH30
import Derived.Test.YtibcjfjacielbaaGreatDoorH35
/- Part of the proof of YtibcjfjacielbaaGreatDoorCardH: TkJ TkK TkL. -/
set_option maxRecDepth 100000
set_option maxHeartbeats 4000000
set_option linter.unusedVariables false
set_option linter.unusedSimpArgs false
namespace Go.Proofs.YtibcjfjacielbaaGreatDoor
open Go.RowKit
theorem StrS.src {b:Nat} {w:World} {v:Value} {ss:List ByteArray} (h:StrS b w v ss):SrcV 1 w v ss.length (ss.flatMap strC):=by
 obtain⟨ao,c,rfl,hc⟩:=h;refine⟨ao,c,rfl,flat_len strC 1 (fun _=>rfl) ss,fun u hu=>?_,?_⟩
 ·obtain⟨m,_,hm⟩:=List.mem_flatMap.1 hu;simp only[strC,List.mem_cons,List.not_mem_nil,or_false]at hm;rcases hm with rfl;rfl
 ·cases ss with
  |nil=>cases ao with
   |none=>exact .inl ⟨rfl,rfl⟩
   |some a=>exact .inr ⟨a,rfl,fun j u hu=>by simp at hu⟩
  |cons m ms=>
   obtain⟨g,o,rfl,_⟩:=hc 0 (by simp);refine .inr ⟨_,rfl,fun j u hu=>?_⟩;rw[Addr.add_lit];refine flat_cells strC 1 (fun _=>rfl) (by decide) (m::ms) w g o (fun j hj i hi=>?_) j u hu;obtain⟨g',o',he,_,_,x⟩:=hc j hj;cases he
   match i,hi with
   |0,_=>rw[Nat.mul_one];exact x
theorem cells17 {W:World} {g o:Nat} {r:PR} {m mo i l:Value} (h: ∀k (hk:k<17),W.cell? ⟨g,o+k,none⟩=some ((rowCs r m mo i l)[k]'(by simp[rowCs];omega))):
  W.cell? ⟨g,o,none⟩=some (.int .i64 r.kind)∧W.cell? ⟨g,o+1,none⟩=some (.int .i64 r.kids)∧W.cell? ⟨g,o+2,none⟩=some (.string r.op)∧W.cell? ⟨g,o+3,none⟩=some (.string r.text)∧W.cell? ⟨g,o+4,none⟩=some m∧W.cell? ⟨g,o+5,none⟩=some (.string r.dur)∧W.cell? ⟨g,o+6,none⟩=some (.string r.step)∧W.cell? ⟨g,o+7,none⟩=some (.string r.off)∧W.cell? ⟨g,o+8,none⟩=some (.string r.tim)∧W.cell? ⟨g,o+9,none⟩=some (.bool r.bool)∧W.cell? ⟨g,o+10,none⟩=some (.bool r.given)∧W.cell? ⟨g,o+11,none⟩=some (.bool r.on)∧W.cell? ⟨g,o+12,none⟩=some mo∧W.cell? ⟨g,o+13,none⟩=some (.int .i64 r.card)∧W.cell? ⟨g,o+14,none⟩=some i∧W.cell? ⟨g,o+15,none⟩=some (.bool r.without)∧W.cell? ⟨g,o+16,none⟩=some l:=
 ⟨h 0 (by omega),h 1 (by omega),h 2 (by omega),h 3 (by omega),h 4 (by omega),h 5 (by omega),h 6 (by omega),h 7 (by omega),h 8 (by omega),h 9 (by omega),h 10 (by omega),h 11 (by omega),h 12 (by omega),h 13 (by omega),h 14 (by omega),h 15 (by omega),h 16 (by omega)⟩
def CopyI (w:World) (rs:List PR) (k:Nat) (vv:Value) (W:World):Prop:=
 ∃xs:List WI,xs.map (·.r)=rs.take k∧W.ownsRow w.heap.size 58 17 vv xs.length (xs.flatMap WI.cs)∧(∀z∈xs,z.Px w.heap.size W)∧xs.Pairwise WI.Far∧Below w.heap.size w W
def CopyPost (w:World) (rs:List PR) (e:Ending) (w':World):Prop:=
 ∃(vv:Value) (xs:List WI),e= .returned vv∧xs.map (·.r)=rs∧w'.ownsRow w.heap.size 58 17 vv xs.length (xs.flatMap WI.cs)∧(∀z∈xs,z.Px w.heap.size w')∧xs.Pairwise WI.Far∧Below w.heap.size w w'
theorem grown_one (w:World) (g i:Nat) (u:Value):w.grownBy (w.setCell ⟨g,i,none⟩ u) (some g):=
 ⟨rfl,by first|rfl|simp,rfl,by simp,fun k _ hne=>Below.heap_setCell w ⟨g,i,none⟩ u k (by rintro rfl;exact hne rfl)⟩
structure CS (wr W:World) (cs:Array Value):Prop where
 z:Blk W wr.heap.size 58 cs
 b:Below wr.heap.size wr W
theorem CS.list {wr W W3:World} {cs:Array Value} {e:TypeId} {sz n k:Nat} {v3:Value} {ys:List Value} (h:CS wr W cs) (he:e≠58) (hg:(W.alloc (.cells #[] e)).grownBy W3 (some W.heap.size)) (ho:W3.ownsRow W.heap.size e sz v3 n ys):
  CS wr (W3.setCell ⟨wr.heap.size,k,none⟩ v3) (cs.setIfInBounds k v3)∧(W3.setCell ⟨wr.heap.size,k,none⟩ v3).ownsRow W.heap.size e sz v3 n ys∧W.grownBy (W3.setCell ⟨wr.heap.size,k,none⟩ v3) (some wr.heap.size):=by
 have hl:=h.z.lt;have z3:Blk W3 wr.heap.size 58 cs:=(h.z.alloc _).grown hg (by intro e;injection e;omega);have hb3:Below W.heap.size W W3:=((Below.refl W.heap.size W).alloc (Nat.le_refl _) _).grown hg (by simp) (fun k hk=>by injection hk with hk;omega);exact⟨⟨z3.set_ k v3,(h.b.trans (hb3.mono h.b.size)).setCell (p:=⟨wr.heap.size,k,none⟩) (Nat.le_refl _) _⟩,own_setBlk ho z3 he v3,grow_trans (grown_below hb3 _) (grown_one W3 wr.heap.size k v3)⟩
theorem own_fresh (W:World) (e:TypeId) (sz:Nat):(W.alloc (.cells #[] e)).ownsRow W.heap.size e sz (.slice (some ⟨W.heap.size,0,none⟩) 0 0) 0 []:=by
 have:=World.ownsRow_made (size:=sz) (base:=W.heap.size) (e:=e) W #[] 0 (Nat.le_refl _) (Nat.zero_le _) (by simp);simpa using this
theorem copy_push {w wr W9 W10:World} {rs:List PR} {k:Nat} {vv v':Value} {xs:List WI} {x:WI} {B:Nat} (hm:xs.map (·.r)=rs.take k) (ho:wr.ownsRow w.heap.size 58 17 vv xs.length (xs.flatMap WI.cs)) (hp: ∀z∈xs,z.Px w.heap.size wr) (hf:xs.Pairwise WI.Far) (hb:Below w.heap.size w wr)
  (hk:k<rs.length) (hx:x.r=rs[k]) (hb9:Below wr.heap.size wr W9) (hB:B=wr.heap.size) (hpx:x.Px B W9) (hr:W10.ownsRow w.heap.size 58 17 v' (xs.length+1) (xs.flatMap WI.cs++x.cs)) (hg:W9.grownBy W10 vv.ownBlock):CopyI w rs (k+1) v' W10:=by
 subst hB;have ho9:=own_belowE ho hb9;have hpush: ∀(B:Nat) (z:WI),z.Px B W9→z.Px B W10:=fun B z h=>⟨h.1.push ho9 hg,h.2⟩
 have hb10:Below w.heap.size w W10:=(hb.trans (hb9.mono hb.size)).grown hg (Nat.le_trans hb.size hb9.size) (fun q hq=>(ho9.lt q hq).1);refine⟨xs++[x],?_,?_,?_,List.pairwise_append.2 ⟨hf,List.pairwise_singleton _ _,fun z hz y hy=>?_⟩,hb10⟩
 ·rw[List.map_append,hm,List.map_cons,List.map_nil,hx,List.take_succ_eq_append_getElem hk]
 ·rw[List.flatMap_append,List.length_append];simpa using hr
 ·intro z hz;rcases List.mem_append.1 hz with hz|hz
  ·exact hpush _ z ((hp z hz).below hb9)
  ·rw[List.mem_singleton.1 hz];exact hpush _ x ⟨hpx.1.lo hb.size,hpx.2⟩
 ·rw[List.mem_singleton.1 hy];exact WI.far_of (hp z hz) hpx
theorem ref_Copy {w:World} {v:Value} {rs:List PR} (h:RowsS 0 w v rs) (hn:rs.length≤4294967296) (hl: ∀r∈rs,LenOK r):
  Calls Tryz.prog 34 #[v] w (CopyPost w rs):=by
 obtain⟨ao,c,rfl,hc⟩:=h;have HC:=Lib.hid hc;have HL:=Lib.hid hl;clear hc hl;go_enter Tryz.func34,Tryz.ntmps34;go_wp2_with fail;go_loopw [3,4] (fun t3 t4 W=> ∃k:Nat,t4= .int .i64 (k:Int)∧Hid (k≤rs.length)∧Hid (CopyI w rs k t3 W)) (fun _ t4 _=>rs.length-(intOf t4).toNat)
 case atStart=>exact⟨0,rfl,Lib.hid (Nat.zero_le _),Lib.hid ⟨[],rfl,World.ownsRow_nil _ _ _ _,fun z hz=>(by cases hz),List.Pairwise.nil,Below.refl _ _⟩⟩
 case round=>
  obtain⟨k,rfl,hk,hI⟩:=hrel;by_cases hlt:k<rs.length
  ·have p1:((k:Int)<(rs.length:Int))=True:=eq_true (by omega);obtain⟨xs,hm,ho,hp,hf,hb⟩:=hI.out;have hxl:xs.length=k:=by have:=congrArg List.length hm;rw[List.length_map,List.length_take]at this;omega
   obtain⟨g,o,rfl,_,hg,vm,vo,vi,vl,hls,hcs⟩:=HC.out k hlt;have hlen:=HL.out rs[k] (List.getElem_mem hlt);obtain⟨r,hr⟩: ∃r,r=rs[k]:=⟨_,rfl⟩;rw[←hr]at hls hcs hlen;have hcs': ∀j (hj:j<17),wr.cell? ⟨g,o+k*17+j,none⟩=some ((rowCs r vm vo vi vl)[j]'(by simp[rowCs];omega)):=fun j hj=>(hb.cell (p:=⟨g,_,none⟩) hg).trans (hcs j hj)
   obtain⟨c0,c1,c2,c3,c4,c5,c6,c7,c8,c9,c10,c11,c12,c13,c14,c15,c16⟩:=cells17 hcs';have HLS:=Lib.hid hls;obtain⟨⟨am,cm,hvm,_⟩,⟨ao2,co,hvo,_⟩,⟨ai,ci,hvi,_⟩,⟨al,cl,hvl,_⟩⟩:=hls;subst hvm hvo hvi hvl;obtain⟨a3,n3,k3,rfl⟩:=own_sl ho;have HI:=Lib.hid (And.intro hm (And.intro ho (And.intro hp (And.intro hf hb))));have HR:=Lib.hid hr;have HXL:=Lib.hid hxl;have HLEN:=Lib.hid hlen;have HSM:Hid (∀W,Below w.heap.size w W→SrcV 3 W (.slice am r.ms.length cm) r.ms.length (r.ms.flatMap matC)∧SrcV 1 W (.slice ao2 r.mls.length co) r.mls.length (r.mls.flatMap strC)∧SrcV 1 W (.slice ai r.inc.length ci) r.inc.length (r.inc.flatMap strC)∧SrcV 1 W (.slice al r.labels.length cl) r.labels.length (r.labels.flatMap strC)):=Lib.hid fun W h=>by
    have h2:=HLS.out.below h;exact⟨h2.1.src,h2.2.1.src,h2.2.2.1.src,h2.2.2.2.src⟩
   have hnm:r.ms.length≤1099511627776:=hlen.1;have hno:r.mls.length≤1099511627776:=hlen.2.1;have hni:r.inc.length≤1099511627776:=hlen.2.2.1;have hnl:r.labels.length≤1099511627776:=hlen.2.2.2;clear hI hm ho hp hf hcs hcs' hr hxl hlen;go_wp2_with (refine wpList_store_blk rfl 58 (.tmp 5) (.tmp 15) rfl wr.heap.size _ rfl rfl (Blk.new _ _ _) (by kernel_rfl) rfl rfl ?_);intro W1 hz1 hg1;have hs1:CS wr W1 (rowA r (.slice am r.ms.length cm) (.slice ao2 r.mls.length co) (.slice ai r.inc.length ci) (.slice al r.labels.length cl)):=⟨hz1,below_grow ((Below.refl _ wr).alloc (Nat.le_refl _) _) hg1 (by simp) (Nat.le_refl _)⟩;have HBW:Hid (∀W,Below wr.heap.size wr W→Below w.heap.size w W):=Lib.hid fun W h=>hb.trans (h.mono hb.size)
   have HS1:=Lib.hid hs1;have m4:(W1.alloc (.cells #[] 38)).cell? ⟨wr.heap.size,4,none⟩=some (.slice am r.ms.length cm):=(hz1.alloc _).cell 4;have HO1:=Lib.hid (own_fresh W1 38 3);have HX1:=Lib.hid (HSM.out _ (HBW.out _ (hs1.b.alloc hs1.b.size (.cells #[] 38)))).1;clear hz1 hg1 hs1 c0 c1 c2 c3 c4 c5 c6 c7 c8 c9 c10 c11 c12 c13 c14 c15 c16 hb;go_wp2_with (at_builtin;refine wpList_append_srcV rfl (.tmp 16) (.tmp 18) 32 rfl W1.heap.size 38 _ 3 40 info_mat Tryz.underlying32 rfl (by omega) _ 0 [] rfl HO1.out _ r.ms.length (r.ms.flatMap matC) rfl HX1.out (by unfold maxLen;omega) (by omega) (by simp) ?_);intro v4 W2 ho4 hg4;obtain⟨a4,n4,k4,rfl⟩:=own_sl ho4;have z2:Blk W2 wr.heap.size 58 _:=(HS1.out.z.alloc (.cells #[] 38)).grown hg4 (by have:=HS1.out.z.lt;simp[Value.ownBlock];omega);have q4:=z2.cell 4;have f4:=z2.frozen 4;simp[rowA]at q4;obtain⟨hs4,ho4',hg4'⟩:=HS1.out.list (k:=4) (by decide) hg4 ho4;clear z2;go_upto_region 7 with(fail)
   obtain⟨W4,hW4⟩: ∃W4,W4=W2.setCell ⟨wr.heap.size,4,none⟩ (.slice a4 n4 k4):=⟨_,rfl⟩;rw[←hW4]at hs4 ho4' hg4' ⊢
   have HS4:=Lib.hid hs4;have HO4:=Lib.hid ho4';have m16:(W4.alloc (.cells #[] 9)).cell? ⟨wr.heap.size,16,none⟩=some (.slice al r.labels.length cl):=by
    have:=(hs4.z.alloc (.cells #[] 9)).cell 16;simpa [rowA]using this
   have HOF4:=Lib.hid (own_fresh W4 9 1);have HX4:=Lib.hid (HSM.out _ (HBW.out _ (hs4.b.alloc hs4.b.size (.cells #[] 9)))).2.2.2;clear ho4 hg4 hs4 ho4' hg4' q4 f4 m4 HO1 HX1 hW4;go_wp2_with (at_builtin;refine wpList_append_srcV rfl (.tmp 21) (.tmp 23) 22 rfl W4.heap.size 9 _ 1 16 info_str Tryz.underlying22 rfl (by omega) _ 0 [] rfl HOF4.out _ r.labels.length (r.labels.flatMap strC) rfl HX4.out (by unfold maxLen;omega) (by omega) (by simp) ?_);intro v5 W5 ho5 hg5;obtain⟨a5,n5,k5,rfl⟩:=own_sl ho5;have z5:Blk W5 wr.heap.size 58 _:=(HS4.out.z.alloc (.cells #[] 9)).grown hg5 (by have:=HS4.out.z.lt;simp[Value.ownBlock];omega);have q16:=z5.cell 16;have f16:=z5.frozen 16;simp[rowA]at q16;obtain⟨hs5,ho5',hg5'⟩:=HS4.out.list (k:=16) (by decide) hg5 ho5;clear z5;go_upto_region 8 with(fail)
   obtain⟨W6,hW6⟩: ∃W6,W6=W5.setCell ⟨wr.heap.size,16,none⟩ (.slice a5 n5 k5):=⟨_,rfl⟩;rw[←hW6]at hs5 ho5' hg5' ⊢
   have HM6:=Lib.hid (HO4.out.kept hg5' (.inr (own_blk_ne HO4.out HS4.out.z (by decide))));have HS6:=Lib.hid hs5;have HL6:=Lib.hid ho5';have HN46:Hid (W4.heap.size≤W6.heap.size):=Lib.hid hg5'.size;have m12:(W6.alloc (.cells #[] 9)).cell? ⟨wr.heap.size,12,none⟩=some (.slice ao2 r.mls.length co):=by
    have:=(hs5.z.alloc (.cells #[] 9)).cell 12;simpa [rowA]using this
   have HOF6:=Lib.hid (own_fresh W6 9 1);have HX6:=Lib.hid (HSM.out _ (HBW.out _ (hs5.b.alloc hs5.b.size (.cells #[] 9)))).2.1;clear ho5 hg5 hs5 ho5' hg5' q16 f16 m16 HOF4 HX4 hW6;go_wp2_with (at_builtin;refine wpList_append_srcV rfl (.tmp 26) (.tmp 29) 22 rfl W6.heap.size 9 _ 1 16 info_str Tryz.underlying22 rfl (by omega) _ 0 [] rfl HOF6.out _ r.mls.length (r.mls.flatMap strC) rfl HX6.out (by unfold maxLen;omega) (by omega) (by simp) ?_);intro v7 W7 ho7 hg7;obtain⟨a7,n7,k7,rfl⟩:=own_sl ho7;have z7:Blk W7 wr.heap.size 58 _:=(HS6.out.z.alloc (.cells #[] 9)).grown hg7 (by have:=HS6.out.z.lt;simp[Value.ownBlock];omega);have q12:=z7.cell 12;have f12:=z7.frozen 12;simp[rowA]at q12;obtain⟨hs7,ho7',hg7'⟩:=HS6.out.list (k:=12) (by decide) hg7 ho7;clear z7;go_upto_region 9 with(fail)
   obtain⟨W8,hW8⟩: ∃W8,W8=W7.setCell ⟨wr.heap.size,12,none⟩ (.slice a7 n7 k7):=⟨_,rfl⟩;rw[←hW8]at hs7 ho7' hg7' ⊢
   have HM8:=Lib.hid (HM6.out.kept hg7' (.inr (own_blk_ne HM6.out HS6.out.z (by decide))));have HL8:=Lib.hid (HL6.out.kept hg7' (.inr (own_blk_ne HL6.out HS6.out.z (by decide))));have HOL:Hid (Apart (.slice a7 n7 k7) (.slice a5 n5 k5)):=Lib.hid (apart_of HL6.out ho7' (Nat.le_refl _)).symm;have HS8:=Lib.hid hs7;have HO8:=Lib.hid ho7';have HN68:Hid (W6.heap.size≤W8.heap.size):=Lib.hid hg7'.size;have m14:(W8.alloc (.cells #[] 9)).cell? ⟨wr.heap.size,14,none⟩=some (.slice ai r.inc.length ci):=by
    have:=(hs7.z.alloc (.cells #[] 9)).cell 14;simpa [rowA]using this
   have HOF8:=Lib.hid (own_fresh W8 9 1);have HX8:=Lib.hid (HSM.out _ (HBW.out _ (hs7.b.alloc hs7.b.size (.cells #[] 9)))).2.2.1;clear ho7 hg7 hs7 ho7' hg7' q12 f12 m12 HOF6 HX6 hW8 HM6 HL6;go_wp2_with (at_builtin;refine wpList_append_srcV rfl (.tmp 33) (.tmp 36) 22 rfl W8.heap.size 9 _ 1 16 info_str Tryz.underlying22 rfl (by omega) _ 0 [] rfl HOF8.out _ r.inc.length (r.inc.flatMap strC) rfl HX8.out (by unfold maxLen;omega) (by omega) (by simp) ?_);intro v9 W9 ho9 hg9;obtain⟨a9,n9,k9,rfl⟩:=own_sl ho9;have z9:Blk W9 wr.heap.size 58 _:=(HS8.out.z.alloc (.cells #[] 9)).grown hg9 (by have:=HS8.out.z.lt;simp[Value.ownBlock];omega);have q14:=z9.cell 14;have f14:=z9.frozen 14;simp[rowA]at q14;obtain⟨hs9,ho9',hg9'⟩:=HS8.out.list (k:=14) (by decide) hg9 ho9;clear z9;go_upto_region 10 with(fail)
   obtain⟨WA,hWA⟩: ∃WA,WA=W9.setCell ⟨wr.heap.size,14,none⟩ (.slice a9 n9 k9):=⟨_,rfl⟩;rw[←hWA]at hs9 ho9' hg9' ⊢
   have hsz:=HS1.out.z.lt;have hpx:WI.Px wr.heap.size ⟨0,r,.slice a4 n4 k4,.slice a7 n7 k7,.slice a9 n9 k9,.slice a5 n5 k5⟩ WA:=by
    refine⟨⟨own_mono (HM8.out.kept hg9' (.inr (own_blk_ne HM8.out HS8.out.z (by decide)))) (Nat.le_of_lt hsz),own_mono (HO8.out.kept hg9' (.inr (own_blk_ne HO8.out HS8.out.z (by decide)))) HS6.out.b.size,own_mono ho9' HS8.out.b.size,own_mono (HL8.out.kept hg9' (.inr (own_blk_ne HL8.out HS8.out.z (by decide)))) HS4.out.b.size,apart_of HO8.out ho9' (Nat.le_refl _),HOL.out,(apart_of HL8.out ho9' (Nat.le_refl _)).symm⟩,Nat.zero_le _⟩
   have HPX:=Lib.hid hpx;have hzA:Blk WA wr.heap.size 58 #[.int .i64 r.kind,.int .i64 r.kids,.string r.op,.string r.text,.slice a4 n4 k4,.string r.dur,.string r.step,.string r.off,.string r.tim,.bool r.bool,.bool r.given,.bool r.on,.slice a7 n7 k7,.int .i64 r.card,.slice a9 n9 k9,.bool r.without,.slice a5 n5 k5]:=by
    have:=hs9.z;simpa [rowA]using this
   have HZA:=Lib.hid hzA;have HBA:=Lib.hid hs9.b;have HOW:Hid (WA.ownsRow w.heap.size 58 17 (.slice a3 n3 k3) xs.length (xs.flatMap WI.cs)):=Lib.hid (own_belowE HI.out.2.1 hs9.b);have HWA:Hid (w.heap.size≤WA.heap.size):=Lib.hid (HBW.out _ hs9.b).size;have hxl4:xs.length≤4294967296:=by have:=HXL.out;omega
   clear ho9 hg9 hs9 ho9' hg9' q14 f14 m14 HOF8 HX8 hWA HM8 HL8 hpx hzA hsz;go_wp2_with (first|(refine wpList_load_blk rfl 58 (.tmp 5) rfl wr.heap.size rfl HZA.out Tryz.underlying58 (by kernel_rfl) ?_)|(at_builtin;refine wpList_push2 rfl (.tmp 40) (.tmp 42) 39 rfl w.heap.size 58 _ 17 240 info_row3 Tryz.underlying39 rfl (by decide) _ xs.length (xs.flatMap WI.cs) rfl HOW.out [.int .i64 r.kind,.int .i64 r.kids,.string r.op,.string r.text,.slice a4 n4 k4,.string r.dur,.string r.step,.string r.off,.string r.tim,.bool r.bool,.bool r.given,.bool r.on,.slice a7 n7 k7,.int .i64 r.card,.slice a9 n9 k9,.bool r.without,.slice a5 n5 k5] rfl rfl (one17 _ HPX.out) (by unfold maxLen;omega) (by omega) HWA.out ?_));intro vB WB hoB hgB _;obtain⟨aB,nB,kB,rfl⟩:=own_sl hoB;have HN:Hid (CopyI w rs (k+1) (.slice aB nB kB) WB):=Lib.hid (copy_push HI.out.1 HI.out.2.1 HI.out.2.2.1 HI.out.2.2.2.1 HI.out.2.2.2.2 hlt HR.out HBA.out rfl HPX.out hoB hgB);clear hoB hgB;go_wp2_with fail;go_roundw
   case rel=>exact⟨k+1,by go_num,Lib.hid hlt,HN⟩
   case measure=>simp[intOf];omega
  ·have p1:((k:Int)<(rs.length:Int))=False:=eq_false (by omega);have hke:k=rs.length:=by have:=hk.out;omega
   subst hke;have HP:Hid (CopyPost w rs (.returned u3) wr):=Lib.hid (by
    obtain⟨xs,hm,ho,hp,hf,hb⟩:=hI.out;rw[List.take_length]at hm;exact⟨_,xs,rfl,hm,ho,hp,hf,hb⟩)
   obtain⟨xs,_,ho,_⟩:=hI.out;obtain⟨a3,n3,k3,rfl⟩:=own_sl ho;clear ho;go_wp2_with fail;go_ret;exact HP.out
theorem ref_Same {b1 b2:Nat} {w:World} {v1 v2:Value} {rs:List PR} (h1:RowsS b1 w v1 rs) (h2:RowsS b2 w v2 rs) (hn:rs.length≤4294967296) (hl: ∀r∈rs,LenOK r):
  Calls Tryz.prog 30 #[v1,v2] w (BoolPost w true):=by
 obtain⟨a1,k1,rfl,hc1⟩:=h1;obtain⟨a2,k2,rfl,hc2⟩:=h2;have H1:=Lib.hid hc1;have H2:=Lib.hid hc2;have HL:=Lib.hid hl;clear hc1 hc2 hl;go_enter Tryz.func30,Tryz.ntmps30;go_wp2_with fail;go_loopw [5] (fun t5 W=> ∃j:Nat,t5= .int .i64 (j:Int)∧Hid (j≤rs.length)∧Hid (Below w.heap.size w W)) (fun t5 _=>rs.length-(intOf t5).toNat)
 case atStart=>exact⟨0,rfl,Lib.hid (Nat.zero_le _),Lib.hid (Below.refl _ _)⟩
 case round=>
  obtain⟨j,rfl,hj,hb⟩:=hrel;by_cases hlt:j<rs.length
  ·have p1:((j:Int)<(rs.length:Int))=True:=eq_true (by omega);obtain⟨g,o,rfl,_,hg,vm,vo,vi,vl,hls,hcs⟩:=H1.out j hlt;obtain⟨g',o',rfl,_,hg',vm',vo',vi',vl',hls',hcs'⟩:=H2.out j hlt;have hlen:=HL.out rs[j] (List.getElem_mem hlt);generalize rs[j]=r at hls hcs hls' hcs' hlen;have HSR:Hid (∀W,Below w.heap.size w W→Calls Tryz.prog 24 #[rowV r vm vo vi vl,rowV r vm' vo' vi' vl'] W (BoolPost W true)):=Lib.hid fun W h=>ref_sameRow_eq (hls.below h) (hls'.below h) hlen
   obtain⟨⟨am,cm,rfl,_⟩,⟨ao,co,rfl,_⟩,⟨ai,ci,rfl,_⟩,⟨al,cl,rfl,_⟩⟩:=hls;obtain⟨⟨am',cm',rfl,_⟩,⟨ao',co',rfl,_⟩,⟨ai',ci',rfl,_⟩,⟨al',cl',rfl,_⟩⟩:=hls';have hb':Below w.heap.size w wr.drew:=hb.out.drew;obtain⟨c0,c1,c2,c3,c4,c5,c6,c7,c8,c9,c10,c11,c12,c13,c14,c15,c16⟩:=cells17 (W:=wr.drew) (o:=o+j*17) fun k hk=>(hb'.cell (p:=⟨g,_,none⟩) hg).trans (hcs k hk)
   obtain⟨d0,d1,d2,d3,d4,d5,d6,d7,d8,d9,d10,d11,d12,d13,d14,d15,d16⟩:=cells17 (W:=wr.drew) (o:=o'+j*17) fun k hk=>(hb'.cell (p:=⟨g',_,none⟩) hg').trans (hcs' k hk)
   simp only[rowV]at HSR;clear hcs hcs' hb' hlen hg hg';go_upto_region 6 with(fail)
   go_region_law (go_simp;go_at_call 24;(with_reducible refine(HSR.out _ hb.out.drew).mono ?_);rintro e W1 ⟨rfl,hb1⟩;have HB1:Hid (Below w.heap.size w W1):=Lib.hid (hb.out.trans ((((Below.refl _ wr).drew).trans hb1).mono hb.out.size));clear hb1)
   all_goals
    go_wp2_with fail;go_roundw
    case rel=>exact⟨j+1,by go_num,Lib.hid hlt,HB1⟩
    case measure=>simp[intOf];omega
  ·have p1:((j:Int)<(rs.length:Int))=False:=eq_false (by omega);go_wp2_with fail;go_ret;exact⟨rfl,hb.out⟩
theorem set4 {W:World} {g:Nat} {t:TypeId} {z0 z1 z2 z3:Value} (h:Blk W g t #[z0,z1,z2,z3]) (v0 v1 v2 v3:Value):
  Blk ((((W.setCell ⟨g,0,none⟩ v0).setCell ⟨g,1,none⟩ v1).setCell ⟨g,2,none⟩ v2).setCell ⟨g,3,none⟩ v3) g t #[v0,v1,v2,v3]∧W.grownBy ((((W.setCell ⟨g,0,none⟩ v0).setCell ⟨g,1,none⟩ v1).setCell ⟨g,2,none⟩ v2).setCell ⟨g,3,none⟩ v3) (some g):=by
 refine⟨?_,grow_trans (grow_trans (grow_trans (grown_cell W g 0 v0) (grown_cell _ g 1 v1)) (grown_cell _ g 2 v2)) (grown_cell _ g 3 v3)⟩;have:=(((h.set_ 0 v0).set_ 1 v1).set_ 2 v2).set_ 3 v3;simpa using this
def RefSel (w:World) (r:PR) (e:Ending) (w':World):Prop:= ∃am nm cm,e= .returned (.agg #[.string r.text,.slice am nm cm,.string r.off,.string r.tim])∧MatO w.heap.size w' (.slice am nm cm) r.ms∧Below w.heap.size w w'
def zs4:Array Value:=#[.string ⟨#[]⟩,.slice none 0 0,.string ⟨#[]⟩,.string ⟨#[]⟩]
theorem info_sel4:(Tryz.prog.info? 36).map (·.size)=some 4:=by kernel_rfl
theorem ref_Selector {w:World} {r:PR} {am ao ai al:Option Addr} {nm cm no co ni ci nl cl:Nat} (h:MatS 0 w (.slice am nm cm) r.ms) (hl:r.ms.length≤1099511627776):
  Calls Tryz.prog 37 #[.agg #[.int .i64 r.kind,.int .i64 r.kids,.string r.op,.string r.text,.slice am nm cm,.string r.dur,.string r.step,.string r.off,.string r.tim,.bool r.bool,.bool r.given,.bool r.on,.slice ao no co,.int .i64 r.card,.slice ai ni ci,.bool r.without,.slice al nl cl]] w (RefSel w r):=by
 obtain⟨A,hA⟩: ∃A,A=rowA r (.slice am nm cm) (.slice ao no co) (.slice ai ni ci) (.slice al nl cl):=⟨_,rfl⟩;obtain⟨W0,hW0⟩: ∃W0,W0=(w.alloc (.cells A 58)).alloc (.cells zs4 36):=⟨_,rfl⟩;have hb0:Below w.heap.size w W0:=by rw[hW0];exact((Below.refl _ w).alloc (Nat.le_refl _) _).alloc (by simp) _
 have hz0:Blk W0 w.heap.size 58 A:=by rw[hW0];exact(Blk.new _ _ _).alloc _
 have hz1:Blk W0 (w.heap.size+1) 36 zs4:=by
  rw[hW0];have:=Blk.new (w.alloc (.cells A 58)) 36 zs4;simpa using this
 have HA:=Lib.hid hA;have HZ1:=Lib.hid hz1;have HZ0:=Lib.hid hz0;have HB0:=Lib.hid hb0;have c3:W0.drew.cell? ⟨w.heap.size,3,none⟩=some (.string r.text):=(hz0.cell 3).trans (by rw[hA];rfl);have c4:W0.drew.cell? ⟨w.heap.size,4,none⟩=some (.slice am nm cm):=(hz0.cell 4).trans (by rw[hA];rfl);have c7:W0.drew.cell? ⟨w.heap.size,7,none⟩=some (.string r.off):=(hz0.cell 7).trans (by rw[hA];rfl);have c8:W0.drew.cell? ⟨w.heap.size,8,none⟩=some (.string r.tim):=(hz0.cell 8).trans (by rw[hA];rfl);have hze:=hz0.alloc (.cells #[] 38);have e3:(W0.alloc (.cells #[] 38)).drew.cell? ⟨w.heap.size,3,none⟩=some (.string r.text):=(hze.cell 3).trans (by rw[hA];rfl);have e4:(W0.alloc (.cells #[] 38)).drew.cell? ⟨w.heap.size,4,none⟩=some (.slice am nm cm):=(hze.cell 4).trans (by rw[hA];rfl);have e7:(W0.alloc (.cells #[] 38)).drew.cell? ⟨w.heap.size,7,none⟩=some (.string r.off):=(hze.cell 7).trans (by rw[hA];rfl);have e8:(W0.alloc (.cells #[] 38)).drew.cell? ⟨w.heap.size,8,none⟩=some (.string r.tim):=(hze.cell 8).trans (by rw[hA];rfl);have l0:=hz0.lt;have l1:=hz1.lt;have hnm:nm=r.ms.length:=by obtain⟨_,_,hv,_⟩:=h;injection hv
 have hnl:nm≤1099511627776:=by omega
 have HSRC:Hid (SrcV 3 (W0.alloc (.cells #[] 38)).drew (.slice am nm cm) nm (r.ms.flatMap matC)):=Lib.hid (by
  have:=(h.src.below hb0).below (((Below.refl W0.heap.size W0).alloc (Nat.le_refl _) (.cells #[] 38)).drew);rw[←hnm]at this;exact this)
 have HOWN:Hid ((W0.alloc (.cells #[] 38)).drew.ownsRow W0.heap.size 38 3 (.slice (some ⟨W0.heap.size,0,none⟩) 0 0) 0 []):=Lib.hid (own_belowE (own_fresh W0 38 3) (Below.refl _ _).drew);have HNM:=Lib.hid hnm;rw[hA]at hW0;simp only[rowA,zs4]at hW0;have HW0:=Lib.hid hW0;clear h hl hW0 hb0 hz0 hz1 hnm hze hA;go_enter Tryz.func37,Tryz.ntmps37;go_wp2_with fail;rw[←HW0.out];go_region_held3 (fun W=>W.cell? ⟨w.heap.size,3,none⟩=some (.string r.text)∧W.cell? ⟨w.heap.size,4,none⟩=some (.slice am nm cm)∧W.cell? ⟨w.heap.size,7,none⟩=some (.string r.off)∧W.cell? ⟨w.heap.size,8,none⟩=some (.string r.tim)) (first|go_keep) (first|(refine step_append_srcV (by rfl) (.tmp 5) (.tmp 7) 32 (by rfl) W0.heap.size 38 _ 3 40 info_mat Tryz.underlying32 rfl (by decide) _ 0 [] (by rfl) HOWN.out _ nm (r.ms.flatMap matC) (by rfl) HSRC.out (by unfold maxLen;omega) (by omega) (by simp) ?_;intro v3 W3 ho3 hg3;obtain⟨a3,n3,k3,hv3⟩:=own_sl ho3;subst hv3;have HO3:=Lib.hid ho3;have hz3:Blk W3 w.heap.size 58 A:=(HZ0.out.alloc _).drew.grown hg3 (by simp[Value.ownBlock];omega);have hz4:Blk W3 (w.heap.size+1) 36 zs4:=(HZ1.out.alloc _).drew.grown hg3 (by simp[Value.ownBlock];omega);have d3:W3.cell? ⟨w.heap.size,3,none⟩=some (.string r.text):=(hz3.cell 3).trans (by rw[HA.out];rfl);have d4:W3.cell? ⟨w.heap.size,4,none⟩=some (.slice am nm cm):=(hz3.cell 4).trans (by rw[HA.out];rfl);have d7:W3.cell? ⟨w.heap.size,7,none⟩=some (.string r.off):=(hz3.cell 7).trans (by rw[HA.out];rfl);have d8:W3.cell? ⟨w.heap.size,8,none⟩=some (.string r.tim):=(hz3.cell 8).trans (by rw[HA.out];rfl);have q0:W3.cell? ⟨w.heap.size+1,0,none⟩=some (.string ⟨#[]⟩):=hz4.cell 0;have f0:=hz4.frozen 0;have q1:W3.cell? ⟨w.heap.size+1,1,none⟩=some (.slice none 0 0):=hz4.cell 1;have f1:=hz4.frozen 1;have q2:W3.cell? ⟨w.heap.size+1,2,none⟩=some (.string ⟨#[]⟩):=hz4.cell 2;have f2:=hz4.frozen 2;have q3:W3.cell? ⟨w.heap.size+1,3,none⟩=some (.string ⟨#[]⟩):=hz4.cell 3;have f3:=hz4.frozen 3;have HZ4:=Lib.hid hz4;have HG3:=Lib.hid hg3;clear ho3 hg3 hz3 hz4));have hs:=set4 HZ4.out (.string r.text) (.slice a3 n3 k3) (.string r.off) (.string r.tim);have HS:=Lib.hid hs;have hms:MatO W0.heap.size W3 (.slice a3 n3 k3) r.ms:=by
  have:=HO3.out;rw[Nat.zero_add,List.nil_append,HNM.out]at this;exact this
 have hb3:Below w.heap.size w W3:=HB0.out.trans (((((Below.refl W0.heap.size W0).alloc (Nat.le_refl _) (.cells #[] 38)).drew).grown HG3.out (by simp) (fun k hk=>by simp[Value.ownBlock]at hk;omega)).mono HB0.out.size);have HF:Hid (∀W,W3.grownBy W (some (w.heap.size+1))→RefSel w r (.returned (.agg #[.string r.text,.slice a3 n3 k3,.string r.off,.string r.tim])) W):=Lib.hid fun W hg=>
  ⟨a3,n3,k3,rfl,own_mono (own_grow hms hg HZ4.out (by decide)) HB0.out.size,below_grow hb3 hg (by have:=hb3.size;omega) (by omega)⟩
 clear hs hms hb3 q0 q1 q2 q3 f0 f1 f2 f3;go_wp2_with fail;exact bodyPost_ret (results_blk Tryz.results37 rfl HS.out.1 Tryz.underlying36 info_sel4) rfl (HF.out _ HS.out.2)
def SelQ (w:World) (rs:List PR) (k:Nat) (vv:Value) (W:World):Prop:=
 ∃zs:List (SelR×Value),zs.map (·.1)=selsOf (rs.take k)∧W.ownsRow w.heap.size 36 4 vv zs.length (zs.flatMap selC)∧(∀z∈zs,MatO w.heap.size W z.2 z.1.ms)∧Below w.heap.size w W
theorem SelQ.skip {w W:World} {rs:List PR} {k:Nat} {vv:Value} (h:SelQ w rs k vv W) (hk:k<rs.length) (h3:rs[k].kind≠3):SelQ w rs (k+1) vv W:=by
 obtain⟨zs,h1,h2⟩:=h;refine⟨zs,?_,h2⟩;rw[List.take_succ_eq_append_getElem hk,selsOf_snoc,if_neg h3,List.append_nil];exact h1
theorem SelQ.len {w W:World} {rs:List PR} {k:Nat} {vv:Value} {zs:List (SelR×Value)} (h1:zs.map (·.1)=selsOf (rs.take k)):zs.length≤rs.length:=by
 have e:=congrArg List.length h1;rw[List.length_map]at e;have:(selsOf (rs.take k)).length≤(rs.take k).length:=by
  unfold selsOf;rw[List.length_map];exact List.length_filter_le _ _
 rw[List.length_take]at this;omega
theorem SelQ.push {w wr W1 W2:World} {rs:List PR} {k:Nat} {vv v' vm:Value} {zs:List (SelR×Value)} {r:PR} (h1:zs.map (·.1)=selsOf (rs.take k)) (ho:wr.ownsRow w.heap.size 36 4 vv zs.length (zs.flatMap selC)) (hm: ∀z∈zs,MatO w.heap.size wr z.2 z.1.ms) (hb:Below w.heap.size w wr)
  (hk:k<rs.length) (hr:r=rs[k]) (h3:r.kind=3) (hb1:Below wr.heap.size wr W1) (hv:MatO wr.heap.size W1 vm r.ms) (ho2:W2.ownsRow w.heap.size 36 4 v' (zs.length+1) (zs.flatMap selC++[.string r.text,vm,.string r.off,.string r.tim])) (hg:W1.grownBy W2 vv.ownBlock):SelQ w rs (k+1) v' W2:=by
 subst hr;have ho1:=own_belowE ho hb1;refine⟨zs++[(⟨rs[k].text,rs[k].ms,rs[k].off,rs[k].tim⟩,vm)],?_,?_,?_,(hb.trans (hb1.mono hb.size)).grown hg (Nat.le_trans hb.size hb1.size) (fun q hq=>(ho1.lt q hq).1)⟩
 ·rw[List.map_append,List.map_cons,List.map_nil,List.take_succ_eq_append_getElem hk,selsOf_snoc,if_pos h3,h1]
 ·rw[List.flatMap_append,List.length_append];simpa [selC]using ho2
 ·intro z hz;rcases List.mem_append.1 hz with hz|hz
  ·exact(own_belowE (hm z hz) hb1).kept hg (own_own_ne (own_belowE (hm z hz) hb1) ho1 (by decide))
  ·rw[List.mem_singleton.1 hz];exact own_mono (hv.kept hg (own_own_ne hv ho1 (by decide))) hb.size
def RefSels (w:World) (rs:List PR) (e:Ending) (w':World):Prop:= ∃v,e= .returned v∧SelS w' v (selsOf rs)∧Below w.heap.size w w'
theorem ref_Selectors {w:World} {v:Value} {rs:List PR} (h:RowsS 0 w v rs) (hn:rs.length≤4294967296) (hl: ∀r∈rs,LenOK r):
  Calls Tryz.prog 32 #[v] w (RefSels w rs):=by
 obtain⟨ao,c,rfl,hc⟩:=h;have HC:=Lib.hid hc;have HL:=Lib.hid hl;clear hc hl;go_enter Tryz.func32,Tryz.ntmps32;go_wp2_with fail;go_loopw [3,4] (fun t3 t4 W=> ∃k:Nat,t4= .int .i64 (k:Int)∧Hid (k≤rs.length)∧Hid (SelQ w rs k t3 W)) (fun _ t4 _=>rs.length-(intOf t4).toNat)
 case atStart=>exact⟨0,rfl,Lib.hid (Nat.zero_le _),Lib.hid ⟨[],rfl,World.ownsRow_nil _ _ _ _,fun z hz=>(by cases hz),Below.refl _ _⟩⟩
 case round=>
  obtain⟨k,rfl,hk,hI⟩:=hrel;by_cases hlt:k<rs.length
  ·have p1:((k:Int)<(rs.length:Int))=True:=eq_true (by omega);obtain⟨g,o,rfl,_,hg,vm,vo,vi,vl,hls,hcs⟩:=HC.out k hlt;have hlen:=HL.out rs[k] (List.getElem_mem hlt);obtain⟨zs,h1,h2,h3,hb⟩:=hI.out;have hzl:=SelQ.len (w:=w) (W:=wr) (vv:=u3) h1;obtain⟨r,hr⟩: ∃r,r=rs[k]:=⟨_,rfl⟩;rw[←hr]at hls hcs hlen;have hcs': ∀j (hj:j<17),wr.cell? ⟨g,o+k*17+j,none⟩=some ((rowCs r vm vo vi vl)[j]'(by simp[rowCs];omega)):=fun j hj=>(hb.cell (p:=⟨g,_,none⟩) hg).trans (hcs j hj)
   obtain⟨c0,c1,c2,c3,c4,c5,c6,c7,c8,c9,c10,c11,c12,c13,c14,c15,c16⟩:=cells17 hcs';obtain⟨a3,n3,k3,rfl⟩:=own_sl h2;by_cases h33:r.kind=3
   ·have q1:((r.kind==3)=true):=by rw[h33];rfl
    have hms:=hls.1.lo (Nat.zero_le _);obtain⟨⟨am,cm,rfl,_⟩,⟨ao2,co,rfl,_⟩,⟨ai,ci,rfl,_⟩,⟨al,cl,rfl,_⟩⟩:=hls;have HSEL:Hid (∀W,Below w.heap.size w W→Calls Tryz.prog 37 #[.agg #[.int .i64 r.kind,.int .i64 r.kids,.string r.op,.string r.text,.slice am r.ms.length cm,.string r.dur,.string r.step,.string r.off,.string r.tim,.bool r.bool,.bool r.given,.bool r.on,.slice ao2 r.mls.length co,.int .i64 r.card,.slice ai r.inc.length ci,.bool r.without,.slice al r.labels.length cl]] W (RefSel W r)):=Lib.hid fun W h=>ref_Selector (hms.below h) hlen.1
    have HI:=Lib.hid (And.intro h1 (And.intro h2 (And.intro h3 hb)));have HR:=Lib.hid hr;have HK3:=Lib.hid h33;have HBW:Hid (w.heap.size≤wr.heap.size):=Lib.hid hb.size;clear h1 h2 h3 hcs hcs' hr hlen hms hI h33;go_wp2_with (first|(go_at_call 37;(with_reducible refine(HSEL.out _ hb).mono ?_);rintro e W1 ⟨am1,nm1,cm1,rfl,hm1,hb1⟩;have HM1:=Lib.hid hm1;have HB1:=Lib.hid hb1;have HO1:Hid (W1.ownsRow w.heap.size 36 4 (.slice a3 n3 k3) zs.length (zs.flatMap selC)):=Lib.hid (own_belowE HI.out.2.1 hb1);have HSZ:Hid (w.heap.size≤W1.heap.size):=Lib.hid (Nat.le_trans HBW.out hb1.size);clear hm1 hb1 c0 c1 c2 c3 c4 c5 c6 c7 c8 c9 c10 c11 c12 c13 c14 c15 c16)|(at_builtin;refine wpList_push2 rfl (.tmp 17) (.tmp 23) 30 rfl w.heap.size 36 _ 4 72 info_sel Tryz.underlying30 rfl (by decide) _ zs.length (zs.flatMap selC) rfl HO1.out [.string r.text,.slice am1 nm1 cm1,.string r.off,.string r.tim] rfl rfl (one4 _ _ _ _ _ _) (by unfold maxLen;omega) (by omega) HSZ.out ?_));intro v4 W2 ho4 hg4 _;have HN:Hid (SelQ w rs (k+1) v4 W2):=Lib.hid (SelQ.push HI.out.1 HI.out.2.1 HI.out.2.2.1 HI.out.2.2.2 hlt HR.out HK3.out HB1.out HM1.out ho4 hg4);obtain⟨a4,n4,k4,rfl⟩:=own_sl ho4;clear ho4 hg4;go_wp2_with fail;go_roundw
    case rel=>exact⟨k+1,by go_num,Lib.hid hlt,HN⟩
    case measure=>simp[intOf];omega
   ·have q1:((r.kind==3)=false):=by rw[beq_eq_false_iff_ne];exact h33
    have HN:Hid (SelQ w rs (k+1) (.slice a3 n3 k3) wr):=Lib.hid (SelQ.skip ⟨zs,h1,h2,h3,hb⟩ hlt (by rw[←hr];exact h33));clear h1 h2 h3 hls hcs hcs' hr hlen hI h33 hb;go_wp2_with fail;go_roundw
    case rel=>exact⟨k+1,by go_num,Lib.hid hlt,HN⟩
    case measure=>simp[intOf];omega
  ·have p1:((k:Int)<(rs.length:Int))=False:=eq_false (by omega);have hke:k=rs.length:=by have:=hk.out;omega
   subst hke;obtain⟨zs,h1,h2,h3,hb⟩:=hI.out;obtain⟨a3,n3,k3,rfl⟩:=own_sl h2;have HP:Hid (RefSels w rs (.returned (.slice a3 n3 k3)) wr):=Lib.hid (by
    rw[List.take_length]at h1;exact⟨_,rfl,by rw[←h1];exact SelS.of_own h2 fun z hz=>(MatS.of_own (h3 z hz)).lo (Nat.zero_le _),hb⟩)
   clear h1 h2 h3 hb hI;go_wp2_with fail;go_ret;exact HP.out
end Go.Proofs.YtibcjfjacielbaaGreatDoor
