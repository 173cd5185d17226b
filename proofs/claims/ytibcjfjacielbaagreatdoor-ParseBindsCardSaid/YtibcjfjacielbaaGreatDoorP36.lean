import Derived.Test.YtibcjfjacielbaaGreatDoorP28
import Derived.Test.YtibcjfjacielbaaGreatDoorP35
import Derived.Outline
import Derived.Test.YtibcjfjacielbaaGreatDoorP26
/- Part of the proof of YtibcjfjacielbaaGreatDoorCardP: TrH TrHd. -/
set_option maxRecDepth 100000
set_option maxHeartbeats 4000000
set_option linter.unusedVariables false
set_option linter.unusedSimpArgs false
namespace Go.Proofs.YtibcjfjacielbaaGreatDoor
open Go.RowKit
theorem kindNumber (a:Addr) (w:World):Calls Tryz.prog 364 #[.pointer (some a)] w fun e w'=>e= .returned (.int .i64 1)∧w=w':=by
 go_enter Tryz.func364,Tryz.ntmps364;go_wp2_with fail;go_ret;exact⟨rfl,rfl⟩
theorem methNumber (a:Addr) (w:World):(method 512 164 (.pointer (some a)) "Kind").run Tryz.prog w= .ok (364,.pointer (some a)) w:=by kernel_rfl
theorem kindText (a:Addr) (w:World):Calls Tryz.prog 365 #[.pointer (some a)] w fun e w'=>e= .returned (.int .i64 2)∧w=w':=by
 go_enter Tryz.func365,Tryz.ntmps365;go_wp2_with fail;go_ret;exact⟨rfl,rfl⟩
theorem methText (a:Addr) (w:World):(method 512 167 (.pointer (some a)) "Kind").run Tryz.prog w= .ok (365,.pointer (some a)) w:=by kernel_rfl
theorem kindSelector (a:Addr) (w:World):Calls Tryz.prog 362 #[.pointer (some a)] w fun e w'=>e= .returned (.int .i64 3)∧w=w':=by
 go_enter Tryz.func362,Tryz.ntmps362;go_wp2_with fail;go_ret;exact⟨rfl,rfl⟩
theorem methSelector (a:Addr) (w:World):(method 512 93 (.pointer (some a)) "Kind").run Tryz.prog w= .ok (362,.pointer (some a)) w:=by kernel_rfl
theorem kindRange (a:Addr) (w:World):Calls Tryz.prog 366 #[.pointer (some a)] w fun e w'=>e= .returned (.int .i64 4)∧w=w':=by
 go_enter Tryz.func366,Tryz.ntmps366;go_wp2_with fail;go_ret;exact⟨rfl,rfl⟩
theorem methRange (a:Addr) (w:World):(method 512 170 (.pointer (some a)) "Kind").run Tryz.prog w= .ok (366,.pointer (some a)) w:=by kernel_rfl
theorem kindSubquery (a:Addr) (w:World):Calls Tryz.prog 367 #[.pointer (some a)] w fun e w'=>e= .returned (.int .i64 5)∧w=w':=by
 go_enter Tryz.func367,Tryz.ntmps367;go_wp2_with fail;go_ret;exact⟨rfl,rfl⟩
theorem methSubquery (a:Addr) (w:World):(method 512 173 (.pointer (some a)) "Kind").run Tryz.prog w= .ok (367,.pointer (some a)) w:=by kernel_rfl
theorem kindUnary (a:Addr) (w:World):Calls Tryz.prog 368 #[.pointer (some a)] w fun e w'=>e= .returned (.int .i64 6)∧w=w':=by
 go_enter Tryz.func368,Tryz.ntmps368;go_wp2_with fail;go_ret;exact⟨rfl,rfl⟩
theorem methUnary (a:Addr) (w:World):(method 512 176 (.pointer (some a)) "Kind").run Tryz.prog w= .ok (368,.pointer (some a)) w:=by kernel_rfl
theorem kindBinary (a:Addr) (w:World):Calls Tryz.prog 369 #[.pointer (some a)] w fun e w'=>e= .returned (.int .i64 7)∧w=w':=by
 go_enter Tryz.func369,Tryz.ntmps369;go_wp2_with fail;go_ret;exact⟨rfl,rfl⟩
theorem methBinary (a:Addr) (w:World):(method 512 179 (.pointer (some a)) "Kind").run Tryz.prog w= .ok (369,.pointer (some a)) w:=by kernel_rfl
theorem kindCall (a:Addr) (w:World):Calls Tryz.prog 370 #[.pointer (some a)] w fun e w'=>e= .returned (.int .i64 8)∧w=w':=by
 go_enter Tryz.func370,Tryz.ntmps370;go_wp2_with fail;go_ret;exact⟨rfl,rfl⟩
theorem methCall (a:Addr) (w:World):(method 512 183 (.pointer (some a)) "Kind").run Tryz.prog w= .ok (370,.pointer (some a)) w:=by kernel_rfl
theorem kindAggregate (a:Addr) (w:World):Calls Tryz.prog 371 #[.pointer (some a)] w fun e w'=>e= .returned (.int .i64 9)∧w=w':=by
 go_enter Tryz.func371,Tryz.ntmps371;go_wp2_with fail;go_ret;exact⟨rfl,rfl⟩
theorem methAggregate (a:Addr) (w:World):(method 512 186 (.pointer (some a)) "Kind").run Tryz.prog w= .ok (371,.pointer (some a)) w:=by kernel_rfl
def rowA (r:PR) (m o i l:Value):Array Value:=#[.int .i64 r.kind,.int .i64 r.kids,.string r.op,.string r.text,m,.string r.dur,.string r.step,.string r.off,.string r.tim,.bool r.bool,.bool r.given,.bool r.on,o,.int .i64 r.card,i,.bool r.without,l]
def zc:Array Value:=#[.int .i64 0,.int .i64 0,.string ⟨#[]⟩,.string ⟨#[]⟩,.slice none 0 0,.string ⟨#[]⟩,.string ⟨#[]⟩,.string ⟨#[]⟩,.string ⟨#[]⟩,.bool false,.bool false,.bool false,.slice none 0 0,.int .i64 0,.slice none 0 0,.bool false,.slice none 0 0]
theorem rowCells {W:World} {g:Nat} {t:TypeId} {A:Array Value} {r:PR} {m o i l:Value} (h:Blk W g t A) (e:A=rowA r m o i l):
  W.cell? ⟨g,0,none⟩=some (.int .i64 r.kind)∧W.cell? ⟨g,1,none⟩=some (.int .i64 r.kids)∧W.cell? ⟨g,2,none⟩=some (.string r.op)∧W.cell? ⟨g,3,none⟩=some (.string r.text)∧W.cell? ⟨g,4,none⟩=some m∧W.cell? ⟨g,5,none⟩=some (.string r.dur)∧W.cell? ⟨g,6,none⟩=some (.string r.step)∧W.cell? ⟨g,7,none⟩=some (.string r.off)∧W.cell? ⟨g,8,none⟩=some (.string r.tim)∧W.cell? ⟨g,9,none⟩=some (.bool r.bool)∧W.cell? ⟨g,10,none⟩=some (.bool r.given)∧W.cell? ⟨g,11,none⟩=some (.bool r.on)∧W.cell? ⟨g,12,none⟩=some o∧W.cell? ⟨g,13,none⟩=some (.int .i64 r.card)∧W.cell? ⟨g,14,none⟩=some i∧W.cell? ⟨g,15,none⟩=some (.bool r.without)∧W.cell? ⟨g,16,none⟩=some l:=by
 subst e;exact⟨h.cell 0,h.cell 1,h.cell 2,h.cell 3,h.cell 4,h.cell 5,h.cell 6,h.cell 7,h.cell 8,h.cell 9,h.cell 10,h.cell 11,h.cell 12,h.cell 13,h.cell 14,h.cell 15,h.cell 16⟩
structure RowOwn (b:Nat) (w:World) (r:PR) (vm vo vi vl:Value):Prop where
 m:MatO b w vm r.ms
 o:StrO b w vo r.mls
 i:StrO b w vi r.inc
 l:StrO b w vl r.labels
 oi:Apart vo vi
 ol:Apart vo vl
 il:Apart vi vl
theorem RowOwn.ls {b:Nat} {w:World} {r:PR} {m o i l:Value} (h:RowOwn b w r m o i l):RowLs b w r m o i l:=⟨MatS.of_own h.m,StrS.of_own h.o,StrS.of_own h.i,StrS.of_own h.l⟩
theorem RowOwn.below {b:Nat} {w w':World} {r:PR} {m o i l:Value} (h:RowOwn b w r m o i l) (hb:Below w.heap.size w w'):RowOwn b w' r m o i l:=
 ⟨own_belowE h.m hb,own_belowE h.o hb,own_belowE h.i hb,own_belowE h.l hb,h.oi,h.ol,h.il⟩
theorem RowOwn.lo {b b':Nat} {w:World} {r:PR} {m o i l:Value} (h:RowOwn b w r m o i l) (hb:b'≤b):RowOwn b' w r m o i l:=
 ⟨own_mono h.m hb,own_mono h.o hb,own_mono h.i hb,own_mono h.l hb,h.oi,h.ol,h.il⟩
theorem RowOwn.grow {b g:Nat} {w w':World} {r:PR} {m o i l:Value} {t:TypeId} {cs:Array Value} (h:RowOwn b w r m o i l) (hg:w.grownBy w' (some g)) (hb:Blk w g t cs) (h1:9≠t) (h2:38≠t):RowOwn b w' r m o i l:=
 ⟨own_grow h.m hg hb h2,own_grow h.o hg hb h1,own_grow h.i hg hb h1,own_grow h.l hg hb h1,h.oi,h.ol,h.il⟩
theorem apart_none (v:Value):Apart (.slice none 0 0) v:=fun g h=>by simp[Value.ownBlock]at h
theorem strO_none (b:Nat) (w:World):StrO b w (.slice none 0 0) []:=World.ownsRow_nil _ _ _ _
theorem matO_none (b:Nat) (w:World):MatO b w (.slice none 0 0) []:=World.ownsRow_nil _ _ _ _
theorem rowOwn_none (b:Nat) (w:World) {r:PR} (h1:r.ms=[]) (h2:r.mls=[]) (h3:r.inc=[]) (h4:r.labels=[]):RowOwn b w r (.slice none 0 0) (.slice none 0 0) (.slice none 0 0) (.slice none 0 0):=
 ⟨by rw[h1];exact matO_none _ _,by rw[h2];exact strO_none _ _,by rw[h3];exact strO_none _ _,by rw[h4];exact strO_none _ _,apart_none _,apart_none _,apart_none _⟩
def RowPost (w:World) (r:PR) (e:Ending) (w':World):Prop:=
 ∃m o i l,e= .returned (rowV r m o i l)∧RowOwn w.heap.size w' r m o i l∧Below w.heap.size w w'
theorem row_post {w W W':World} {r:PR} {m o i l:Value} {t:TypeId} {cs:Array Value} (h:RowOwn w.heap.size W r m o i l) (hz:Blk W w.heap.size t cs) (hg:W.grownBy W' (some w.heap.size)) (hb:Below w.heap.size w W) (h1:9≠t) (h2:38≠t):
  RowPost w r (.returned (.agg (rowA r m o i l))) W':=
 ⟨m,o,i,l,rfl,h.grow hg hz h1 h2,below_grow hb hg (Nat.le_of_lt hz.lt) (Nat.le_refl _)⟩
theorem none_post {w W W':World} {r:PR} {cs:Array Value} (hz:Blk W w.heap.size 58 cs) (hg:W.grownBy W' (some w.heap.size)) (hb:Below w.heap.size w W) (h1:r.ms=[]) (h2:r.mls=[]) (h3:r.inc=[]) (h4:r.labels=[]) {v:Value} (hv:v= .agg (rowA r (.slice none 0 0) (.slice none 0 0) (.slice none 0 0) (.slice none 0 0))):
  RowPost w r (.returned v) W':=by
 subst hv;exact row_post (rowOwn_none _ _ h1 h2 h3 h4) hz hg hb (by decide) (by decide)
theorem info_row:(Tryz.prog.info? 58).map (·.size)=some 17:=by kernel_rfl
def XI (w:World) (gx:Nat) (cs:Array Value) (W:World):Prop:=Below w.heap.size w W∧Blk W w.heap.size 58 zc∧Blk W gx 58 cs∧w.heap.size<gx
theorem XI.le {w:World} {gx:Nat} {cs:Array Value} {W:World} (h:XI w gx cs W):w.heap.size≤gx:=Nat.le_of_lt h.2.2.2
theorem XI.ne {w:World} {gx:Nat} {cs:Array Value} {W:World} (h:XI w gx cs W):w.heap.size≠gx:=Nat.ne_of_lt h.2.2.2
theorem XI.drew {w:World} {gx:Nat} {cs:Array Value} {W:World} (h:XI w gx cs W):XI w gx cs W.drew:=⟨h.1.drew,h.2.1.drew,h.2.2.1.drew,h.2.2.2⟩
theorem XI.below {w:World} {gx:Nat} {cs:Array Value} {W W':World} (h:XI w gx cs W) (hb:Below W.heap.size W W'):XI w gx cs W':=
 ⟨h.1.trans (hb.mono h.1.size),h.2.1.below hb h.2.1.lt,h.2.2.1.below hb h.2.2.1.lt,h.2.2.2⟩
theorem XI.set1 {w:World} {gx:Nat} {cs:Array Value} {W:World} (h:XI w gx cs W) (i:Nat) (a:Value):XI w gx (cs.setIfInBounds i a) (W.setCell ⟨gx,i,none⟩ a):=
 ⟨h.1.setCell (p:=⟨gx,i,none⟩) h.le a,h.2.1.far (p:=⟨gx,i,none⟩) h.ne a,h.2.2.1.set_ i a,h.2.2.2⟩
theorem XI.own {w:World} {gx:Nat} {cs:Array Value} {W:World} (h:XI w gx cs W) {b:Nat} {e:TypeId} {z n:Nat} {v:Value} {xs:List Value} (ho:W.ownsRow b e z v n xs) (hne:e≠58) (i:Nat) (a:Value):(W.setCell ⟨gx,i,none⟩ a).ownsRow b e z v n xs:=
 own_setBlk ho h.2.2.1 hne a
def CloneXM (w:World) (gx:Nat) (cs:Array Value) (W:World) (ms:List PM) (e:Ending) (W':World):Prop:=
 ∃ao n c,e= .returned (.slice ao n c)∧MatO w.heap.size W' (.slice ao n c) ms∧XI w gx cs W'∧Below W.heap.size W W'
theorem clone_xm {b gx:Nat} {w W:World} {cs:Array Value} {v:Value} {ms:List PM} (h:MatS b w v ms) (hn:ms.length≤1099511627776) (hm:XI w gx cs W):Calls Tryz.prog 104 #[v] W (CloneXM w gx cs W ms):=by
 refine(clone_mat (h.below hm.1) hn).mono ?_;rintro e w' ⟨v',rfl,h1,h2⟩;obtain⟨ao,n,c,rfl⟩:=own_sl h1;exact⟨ao,n,c,rfl,own_mono h1 hm.1.size,hm.below h2,h2⟩
def CloneXS (w:World) (gx:Nat) (cs:Array Value) (W:World) (ss:List ByteArray) (e:Ending) (W':World):Prop:=
 ∃ao n c,e= .returned (.slice ao n c)∧StrO w.heap.size W' (.slice ao n c) ss∧XI w gx cs W'∧Below W.heap.size W W'
theorem clone_xs {b gx:Nat} {w W:World} {cs:Array Value} {v:Value} {ss:List ByteArray} (h:StrS b w v ss) (hn:ss.length≤1099511627776) (hm:XI w gx cs W):Calls Tryz.prog 106 #[v] W (CloneXS w gx cs W ss):=by
 refine(clone_str (h.below hm.1) hn).mono ?_;rintro e w' ⟨v',rfl,h1,h2⟩;obtain⟨ao,n,c,rfl⟩:=own_sl h1;exact⟨ao,n,c,rfl,own_mono h1 hm.1.size,hm.below h2,h2⟩
def MatchXP (w:World) (gx:Nat) (cs:Array Value) (W:World) (gi on:Bool) (card:Int) (ls inc:List ByteArray) (e:Ending) (W':World):Prop:=
 ∃ao no co ai ni ci,e= .returned (matchV gi on (.slice ao no co) card (.slice ai ni ci))∧StrO w.heap.size W' (.slice ao no co) ls∧StrO w.heap.size W' (.slice ai ni ci) inc∧Apart (.slice ao no co) (.slice ai ni ci)∧XI w gx cs W'∧Below W.heap.size W W'
theorem matching_x {b gx:Nat} {w W:World} {cs:Array Value} {o i:Value} {ls inc:List ByteArray} (gi on:Bool) (card:Int) (ho:StrS b w o ls) (hi:StrS b w i inc) (hn:ls.length≤1099511627776) (hn2:inc.length≤1099511627776) (hm:XI w gx cs W):
  Calls Tryz.prog 105 #[.agg #[.bool gi,.bool on,o,.int .i64 card,i]] W (MatchXP w gx cs W gi on card ls inc):=by
 refine(tree_matching gi on card (ho.below hm.1) (hi.below hm.1) hn hn2).mono ?_;rintro e w' ⟨o',i',rfl,h1,h2,h3,h4⟩;obtain⟨ao,no,co,rfl⟩:=own_sl h1;obtain⟨ai,ni,ci,rfl⟩:=own_sl h2;exact⟨ao,no,co,ai,ni,ci,rfl,own_mono h1 hm.1.size,own_mono h2 hm.1.size,h3,hm.below h4,h4⟩
theorem rowOf_unary {b:Nat} {w:World} (g:Nat) (hb:b≤g) (hg:g<w.heap.size) (o:ByteArray) (t:TypeId) (x:Value) (c0:w.cell? ⟨g,0,none⟩=some (.string o)) (c1:w.cell? ⟨g,1,none⟩=some (.iface t x)):
  Calls Tryz.prog 60 #[.iface 176 (.pointer (some ⟨g,0,none⟩))] w (RowPost w {zr 6 1 with op:=o}):=by
 have hm:=methUnary;have a1:=asNumber;have a2:=asText;have a3:=asSelector;have a4:=asRange;have a5:=asSubquery;have a6:=asUnary;have HN:Hid (∀W,Below w.heap.size w W→Calls Tryz.prog 103 #[.iface 176 (.pointer (some ⟨g,0,none⟩))] W (KidsPost w W [.iface t x])):=Lib.hid fun W hB=>tree_kidsOf (NodeAt.unary (b:=b) g hb hg o t x c0 c1) hB
 go_enter Tryz.func60,Tryz.ntmps60;go_wp2_with fail;refine(kindUnary _ _).mono ?_;rintro e w2 ⟨rfl,rfl⟩;go_wp2_with fail;obtain⟨w1,hw1⟩: ∃w1,w1=w.alloc (.cells zc 58):=⟨_,rfl⟩;have hb1:Below w.heap.size w w1:=by rw[hw1];exact(Below.refl w.heap.size w).alloc (Nat.le_refl _) _
 have hz1:Blk w1 w.heap.size 58 zc:=by rw[hw1];exact Blk.new _ _ _
 simp only[zc]at hw1;rw[←hw1];refine(HN.out _ hb1).mono ?_;rintro e w2 ⟨s,rfl,hs,hb2,_⟩;obtain⟨ao,c,rfl,_⟩:=hs;have HB2:=Lib.hid (hb1.trans (hb2.mono hb1.size));have HZ2:=Lib.hid (hz1.below hb2 hz1.lt);have d0:w2.cell? ⟨g,0,none⟩=some (.string o):=(HB2.out.cell (p:=⟨g,0,none⟩) hg).trans c0;have d1:w2.cell? ⟨g,1,none⟩=some (.iface t x):=(HB2.out.cell (p:=⟨g,1,none⟩) hg).trans c1;have hgl:g<w2.heap.size:=Nat.lt_of_lt_of_le hg HB2.out.size;clear hb1 hb2 hz1 hw1 c0 c1;go_wp2_with (refine wpList_store_blk rfl 58 (.tmp 2) (.tmp 142) rfl w.heap.size _ rfl rfl (HZ2.out.alloc _) (by kernel_rfl) rfl rfl ?_);intro W' hz hgr;go_wp2_with fail;exact bodyPost_ret (results_blk Tryz.results60 rfl hz Tryz.underlying58 (by kernel_rfl)) rfl (none_post (HZ2.out.alloc _) hgr (HB2.out.alloc HB2.out.size _) rfl rfl rfl rfl rfl)
end Go.Proofs.YtibcjfjacielbaaGreatDoor
