import Derived.Test.YtibcjfjacielbaaGreatDoorP33
import Derived.Test.YtibcjfjacielbaaGreatDoorP47
import Derived.Defers
import Derived.Recover
import Derived.Test.YtibcjfjacielbaaGreatDoorP46
/- Part of the proof of YtibcjfjacielbaaGreatDoorCardP: TkJ PbA PbB. -/
set_option maxRecDepth 100000
set_option maxHeartbeats 4000000
set_option linter.unusedVariables false
set_option linter.unusedSimpArgs false
namespace Go.Proofs.YtibcjfjacielbaaGreatDoor
open Go.RowKit
theorem cells17 {W:World} {g o:Nat} {r:PR} {m mo i l:Value} (h: ∀k (hk:k<17),W.cell? ⟨g,o+k,none⟩=some ((rowCs r m mo i l)[k]'(by simp[rowCs];omega))):
  W.cell? ⟨g,o,none⟩=some (.int .i64 r.kind)∧W.cell? ⟨g,o+1,none⟩=some (.int .i64 r.kids)∧W.cell? ⟨g,o+2,none⟩=some (.string r.op)∧W.cell? ⟨g,o+3,none⟩=some (.string r.text)∧W.cell? ⟨g,o+4,none⟩=some m∧W.cell? ⟨g,o+5,none⟩=some (.string r.dur)∧W.cell? ⟨g,o+6,none⟩=some (.string r.step)∧W.cell? ⟨g,o+7,none⟩=some (.string r.off)∧W.cell? ⟨g,o+8,none⟩=some (.string r.tim)∧W.cell? ⟨g,o+9,none⟩=some (.bool r.bool)∧W.cell? ⟨g,o+10,none⟩=some (.bool r.given)∧W.cell? ⟨g,o+11,none⟩=some (.bool r.on)∧W.cell? ⟨g,o+12,none⟩=some mo∧W.cell? ⟨g,o+13,none⟩=some (.int .i64 r.card)∧W.cell? ⟨g,o+14,none⟩=some i∧W.cell? ⟨g,o+15,none⟩=some (.bool r.without)∧W.cell? ⟨g,o+16,none⟩=some l:=
 ⟨h 0 (by omega),h 1 (by omega),h 2 (by omega),h 3 (by omega),h 4 (by omega),h 5 (by omega),h 6 (by omega),h 7 (by omega),h 8 (by omega),h 9 (by omega),h 10 (by omega),h 11 (by omega),h 12 (by omega),h 13 (by omega),h 14 (by omega),h 15 (by omega),h 16 (by omega)⟩
structure CS (wr W:World) (cs:Array Value):Prop where
 z:Blk W wr.heap.size 58 cs
 b:Below wr.heap.size wr W
theorem eqf_same {b1 b2:Nat} {w:World} {v1 v2:Value} {rs:List PR} (h1:RowsS b1 w v1 rs) (h2:RowsS b2 w v2 rs) (hn:rs.length≤4294967296) (hl: ∀r∈rs,LenOK r):
  Calls Tryz.prog 75 #[v1,v2,.func (.func 76) #[] #[]] w (BoolPost w true):=by
 obtain⟨a1,k1,rfl,hc1⟩:=h1;obtain⟨a2,k2,rfl,hc2⟩:=h2;have H1:=Lib.hid hc1;have H2:=Lib.hid hc2;have HL:=Lib.hid hl;clear hc1 hc2 hl;go_enter Tryz.func75,Tryz.ntmps75;go_wp2_with fail;go_loopw [17] (fun t17 W=> ∃j:Nat,t17= .int .i64 (j:Int)∧Hid (j≤rs.length)∧Hid (Below w.heap.size w W)) (fun t17 _=>rs.length-(intOf t17).toNat)
 case atStart=>exact⟨0,rfl,Lib.hid (Nat.zero_le _),Lib.hid (Below.refl _ _)⟩
 case round=>
  obtain⟨j,rfl,hj,hb⟩:=hrel;by_cases hlt:j<rs.length
  ·have p1:((j:Int)<(rs.length:Int))=True:=eq_true (by omega);obtain⟨g,o,rfl,_,hg,vm,vo,vi,vl,hls,hcs⟩:=H1.out j hlt;obtain⟨g',o',rfl,_,hg',vm',vo',vi',vl',hls',hcs'⟩:=H2.out j hlt;have hlen:=HL.out rs[j] (List.getElem_mem hlt);generalize rs[j]=r at hls hcs hls' hcs' hlen;have HSR:Hid (∀W,Below w.heap.size w W→Calls Tryz.prog 76 #[rowV r vm vo vi vl,rowV r vm' vo' vi' vl'] W (EqPost W (r=r))):=Lib.hid fun W h=>tree_same (hls.below h) (hls'.below h) hlen hlen
   obtain⟨⟨am,cm,rfl,_⟩,⟨ao,co,rfl,_⟩,⟨ai,ci,rfl,_⟩,⟨al,cl,rfl,_⟩⟩:=hls;obtain⟨⟨am',cm',rfl,_⟩,⟨ao',co',rfl,_⟩,⟨ai',ci',rfl,_⟩,⟨al',cl',rfl,_⟩⟩:=hls';obtain⟨c0,c1,c2,c3,c4,c5,c6,c7,c8,c9,c10,c11,c12,c13,c14,c15,c16⟩:=cells17 (W:=wr) (o:=o+j*17) fun k hk=>(hb.out.cell (p:=⟨g,_,none⟩) hg).trans (hcs k hk)
   have HD:=Lib.hid hcs';have HG':=Lib.hid hg';simp only[rowV]at HSR;clear hcs hcs' hlen hg hg';go_wp2_with (refine wpList_store_blk rfl 58 (.tmp 8) (.tmp 21) rfl wr.heap.size #[.int .i64 r.kind,.int .i64 r.kids,.string r.op,.string r.text,.slice am r.ms.length cm,.string r.dur,.string r.step,.string r.off,.string r.tim,.bool r.bool,.bool r.given,.bool r.on,.slice ao r.mls.length co,.int .i64 r.card,.slice ai r.inc.length ci,.bool r.without,.slice al r.labels.length cl] rfl rfl (Blk.new _ _ _) info_row rfl rfl ?_);intro W3 hz3 hg3;have hb3:Below wr.heap.size wr W3:=below_grow ((Below.refl wr.heap.size wr).alloc (Nat.le_refl _) _) hg3 (by simp) (Nat.le_refl _);have HB3:Hid (Below w.heap.size w W3):=Lib.hid (hb.out.trans (hb3.mono hb.out.size));have HZ3:=Lib.hid hz3;obtain⟨d0,d1,d2,d3,d4,d5,d6,d7,d8,d9,d10,d11,d12,d13,d14,d15,d16⟩:=cells17 (W:=W3) (o:=o'+j*17) fun k hk=>(HB3.out.cell (p:=⟨g',_,none⟩) HG'.out).trans (HD.out k hk)
   clear hz3 hg3 hb3 c0 c1 c2 c3 c4 c5 c6 c7 c8 c9 c10 c11 c12 c13 c14 c15 c16;go_wp2_with (refine wpList_store_blk rfl 58 (.tmp 9) (.tmp 25) rfl W3.heap.size #[.int .i64 r.kind,.int .i64 r.kids,.string r.op,.string r.text,.slice am' r.ms.length cm',.string r.dur,.string r.step,.string r.off,.string r.tim,.bool r.bool,.bool r.given,.bool r.on,.slice ao' r.mls.length co',.int .i64 r.card,.slice ai' r.inc.length ci',.bool r.without,.slice al' r.labels.length cl'] rfl rfl (Blk.new _ _ _) info_row rfl rfl ?_);intro W5 hz5 hg5;have hb5:Below W3.heap.size W3 W5:=below_grow ((Below.refl W3.heap.size W3).alloc (Nat.le_refl _) _) hg5 (by simp) (Nat.le_refl _);have HB5:Hid (Below w.heap.size w W5):=Lib.hid (HB3.out.trans (hb5.mono HB3.out.size));have HZ5:=Lib.hid hz5;have HZ35:=Lib.hid (HZ3.out.below hb5 HZ3.out.lt);clear hz5 hg5 hb5 d0 d1 d2 d3 d4 d5 d6 d7 d8 d9 d10 d11 d12 d13 d14 d15 d16;go_wp2_with (first|(refine wpList_load_blk rfl 58 (.tmp 8) rfl wr.heap.size rfl HZ35.out Tryz.underlying58 info_row ?_)|(refine wpList_load_blk rfl 58 (.tmp 9) rfl W3.heap.size rfl HZ5.out Tryz.underlying58 info_row ?_));refine(HSR.out _ HB5.out).mono ?_;rintro e W6 ⟨bb,rfl,hbb,hb6⟩;have hbt:bb=true:=by simpa using hbb
   subst hbt;have HB6:Hid (Below w.heap.size w W6):=Lib.hid (HB5.out.trans (hb6.mono HB5.out.size));clear hb6;go_wp2_with fail;go_roundw
   case rel=>exact⟨j+1,by go_num,Lib.hid hlt,HB6⟩
   case measure=>simp[intOf];omega
  ·have p1:((j:Int)<(rs.length:Int))=False:=eq_false (by omega);go_wp2_with fail;go_ret;exact⟨rfl,hb.out⟩
theorem RowsPost.rowsS {w w':World} {L:List (Nat×PR)} {e:Ending} (h:RowsPost w L e w'): ∃ao n c,e= .returned (.slice ao n c)∧RowsS 0 w' (.slice ao n c) (L.map (·.2))∧Below w.heap.size w w':=by
 obtain⟨vv,xs,rfl,h1,h2,h3,h4,h5⟩:=h;obtain⟨ao,c,rfl,hf⟩:=own_flat WI.cs 17 (fun _=>rfl) xs h2;have hm:L.map (·.2)=xs.map (·.r):=by rw[←h1,List.map_map];rfl
 refine⟨ao,_,c,rfl,⟨ao,c,by rw[hm,List.length_map],fun j hj=>?_⟩,h5⟩;have hj':j<xs.length:=by rw[hm]at hj;simpa using hj
 have e:(L.map (·.2))[j]=xs[j].r:=(List.getElem_of_eq hm hj).trans (by simp);obtain⟨g,o,a,lb,u,x⟩:=hf j hj';rw[e];refine⟨g,o,a,Nat.zero_le _,u,xs[j].m,xs[j].o,xs[j].i,xs[j].l,(h3 _ (List.getElem_mem hj')).1.ls.lo (Nat.zero_le _),fun k hk=>?_⟩;rw[x k hk];exact List.getElem?_eq_getElem _
def RowsTo (W:World) (rs:List PR) (e:Ending) (W':World):Prop:= ∃ao n c,e= .returned (.slice ao n c)∧RowsS 0 W' (.slice ao n c) rs∧Below W.heap.size W W'
theorem tree_Same_eq {b1 b2 g1 g2:Nat} {t1 t2:TypeId} {w:World} {L1 L2:List (Nat×PR)} {rs:List PR} (h1:RootAt b1 w (.iface t1 (.pointer (some ⟨g1,0,none⟩))) L1) (h2:RootAt b2 w (.iface t2 (.pointer (some ⟨g2,0,none⟩))) L2) (e1:L1.map (·.2)=rs) (e2:L2.map (·.2)=rs)
  (hn:rs.length≤4294967296) (hl: ∀r∈rs,LenOK r):
  Calls Tryz.prog 33 #[.agg #[.iface t1 (.pointer (some ⟨g1,0,none⟩))],.agg #[.iface t2 (.pointer (some ⟨g2,0,none⟩))]] w (BoolPost w true):=by
 obtain⟨W2,hW2⟩: ∃W2,W2=(w.alloc (.cells #[.iface t1 (.pointer (some ⟨g1,0,none⟩))] 26)).alloc (.cells #[.iface t2 (.pointer (some ⟨g2,0,none⟩))] 26):=⟨_,rfl⟩;have hb2:Below w.heap.size w W2:=by rw[hW2];exact((Below.refl _ w).alloc (Nat.le_refl _) _).alloc (by simp) _
 have k1:Blk W2 w.heap.size 26 #[.iface t1 (.pointer (some ⟨g1,0,none⟩))]:=by rw[hW2];exact(Blk.new w _ _).alloc _
 have k2:Blk W2 (w.heap.size+1) 26 #[.iface t2 (.pointer (some ⟨g2,0,none⟩))]:=by
  rw[hW2];have:=Blk.new (w.alloc (.cells #[.iface t1 (.pointer (some ⟨g1,0,none⟩))] 26)) 26 #[.iface t2 (.pointer (some ⟨g2,0,none⟩))];simpa using this
 have HRA:Hid (∀W,Below W2.heap.size W2 W→Calls Tryz.prog 29 #[.agg #[.iface t1 (.pointer (some ⟨g1,0,none⟩))]] W (RowsTo W rs)):=Lib.hid fun W hb=>
  (tree_Rows ((h1.below hb2).below hb) (by rw[←e1,List.length_map]at hn;exact hn) fun x hx=>hl _ (by rw[←e1];exact List.mem_map.2 ⟨x,hx,rfl⟩)).mono fun e W' h=>by rw[←e1];exact h.rowsS
 have HRB:Hid (∀W,Below W2.heap.size W2 W→Calls Tryz.prog 29 #[.agg #[.iface t2 (.pointer (some ⟨g2,0,none⟩))]] W (RowsTo W rs)):=Lib.hid fun W hb=>
  (tree_Rows ((h2.below hb2).below hb) (by rw[←e2,List.length_map]at hn;exact hn) fun x hx=>hl _ (by rw[←e2];exact List.mem_map.2 ⟨x,hx,rfl⟩)).mono fun e W' h=>by rw[←e2];exact h.rowsS
 have HEQ:Hid (∀W v1 v2,RowsS 0 W v1 rs→RowsS 0 W v2 rs→Calls Tryz.prog 75 #[v1,v2,.func (.func 76) #[] #[]] W (BoolPost W true)):=Lib.hid fun W v1 v2 a b=>eqf_same a b hn hl
 have c1:W2.drew.cell? ⟨w.heap.size,0,none⟩=some (.iface t1 (.pointer (some ⟨g1,0,none⟩))):=k1.cell 0;have c2:W2.drew.cell? ⟨w.heap.size+1,0,none⟩=some (.iface t2 (.pointer (some ⟨g2,0,none⟩))):=k2.cell 0;have HK1:=Lib.hid k1;have HK2:=Lib.hid k2;have HB2:=Lib.hid hb2;have HW2:=Lib.hid hW2;clear h1 h2 e1 e2 hn hl hb2 k1 k2 hW2;go_enter Tryz.func33,Tryz.ntmps33;go_upto_region 1 with(fail)
 rw[←HW2.out];go_region_law (first
  |(go_simp;go_at_call 29;(with_reducible refine(HRA.out _ (by first|exact(Below.refl _ _).drew|exact HB4.out)).mono ?_);rintro e Wa ⟨aa,na,ka,rfl,hra,hba⟩;have HR1:=Lib.hid hra;have HBA:=Lib.hid hba;have HB3:Hid (Below W2.heap.size W2 Wa):=Lib.hid (by first|exact HB4.out.trans (hba.mono HB4.out.size)|exact(Below.refl _ _).drew.trans hba);have ca2:=(HB3.out.cell (p:=⟨w.heap.size+1,0,none⟩) HK2.out.lt).trans (HK2.out.cell 0);simp at ca2;clear hra hba)
  |(go_simp;go_at_call 29;(with_reducible refine(HRB.out _ (by first|exact(Below.refl _ _).drew|exact HB3.out)).mono ?_);rintro e Wb ⟨ab,nb,kb,rfl,hrb,hbb⟩;have HR2:=Lib.hid hrb;have HBB:=Lib.hid hbb;have HB4:Hid (Below W2.heap.size W2 Wb):=Lib.hid (by first|exact HB3.out.trans (hbb.mono HB3.out.size)|exact(Below.refl _ _).drew.trans hbb);have cb1:=(HB4.out.cell (p:=⟨w.heap.size,0,none⟩) HK1.out.lt).trans (HK1.out.cell 0);simp at cb1;clear hrb hbb)
  |(go_simp;go_at_call 75;(with_reducible refine(HEQ.out _ _ _ (by first|exact HR1.out|exact HR1.out.below HBB.out) (by first|exact HR2.out|exact HR2.out.below HBA.out)).mono ?_);rintro e Wc ⟨rfl,hbc⟩;have HBC:=Lib.hid hbc;clear hbc))
 all_goals
  go_wp2_with fail;go_ret;refine⟨rfl,?_⟩
  first
   |exact HB2.out.trans ((HB4.out.trans (HBC.out.mono HB4.out.size)).mono HB2.out.size)
   |exact HB2.out.trans ((HB3.out.trans (HBC.out.mono HB3.out.size)).mono HB2.out.size)
end Go.Proofs.YtibcjfjacielbaaGreatDoor
