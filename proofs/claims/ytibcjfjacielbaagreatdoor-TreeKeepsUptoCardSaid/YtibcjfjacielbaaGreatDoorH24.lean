import Derived.Test.YtibcjfjacielbaaGreatDoorH23
/- Part of the proof of YtibcjfjacielbaaGreatDoorCardH: TkM TrY TrWu. -/
set_option maxRecDepth 100000
set_option maxHeartbeats 4000000
set_option linter.unusedVariables false
set_option linter.unusedSimpArgs false
namespace Go.Proofs.YtibcjfjacielbaaGreatDoor
open Go.RowKit
theorem mat_at {B:Nat} {w:World} {am:Option Addr} {nm cm:Nat} {ms:List PM} {ys:List Value} (h:w.ownsRow B 38 3 (.slice am nm cm) ms.length ys):nm=ms.length∧ ∀j,j<nm→ ∃g,am=some ⟨g,0,none⟩∧B≤g:=by
 rcases own_cases h with⟨hv,h0⟩|⟨g,c,hv,_,hb⟩
 ·injection hv with _ h2 _
  exact⟨by omega,fun j hj=>by omega⟩
 ·injection hv with h1 h2 _
  exact⟨h2,fun j hj=>⟨g,h1,hb⟩⟩
def otherV:Value:=.agg #[.string ⟨#[111,116,104,101,114]⟩,.slice none 0 0,.string ⟨#[]⟩,.string ⟨#[]⟩]
theorem keeps_fn {B:Nat} {w:World} {name off tim:ByteArray} {am:Option Addr} {nm cm:Nat} {ms:List PM} (hm:MatO B w (.slice am nm cm) ms) (hn:ms.length≤1099511627776) (hB:B≤w.heap.size):
  Calls Tryz.prog 36 #[.agg #[.string name,.slice am nm cm,.string off,.string tim]] w fun e w'=>e= .returned otherV∧Below B w w':=by
 obtain⟨hnm,hg⟩:=mat_at hm;subst hnm;have HG:=Lib.hid hg;obtain⟨W0,hW0⟩: ∃W0,W0=(w.alloc (.cells #[.string name,.slice am ms.length cm,.string off,.string tim] 36)).alloc (.cells #[.string ⟨#[]⟩,.slice none 0 0,.string ⟨#[]⟩,.string ⟨#[]⟩] 36):=⟨_,rfl⟩;have hb0:Below w.heap.size w W0:=by rw[hW0];exact((Below.refl _ w).alloc (Nat.le_refl _) _).alloc (by simp) _
 have hz0:Blk W0 w.heap.size 36 #[.string name,.slice am ms.length cm,.string off,.string tim]:=by rw[hW0];exact(Blk.new _ _ _).alloc _
 have hz1:Blk W0 (w.heap.size+1) 36 #[.string ⟨#[]⟩,.slice none 0 0,.string ⟨#[]⟩,.string ⟨#[]⟩]:=by
  rw[hW0];have:=Blk.new (w.alloc (.cells #[.string name,.slice am ms.length cm,.string off,.string tim] 36)) 36 #[.string ⟨#[]⟩,.slice none 0 0,.string ⟨#[]⟩,.string ⟨#[]⟩];simpa using this
 have HZ0:=Lib.hid hz0;have HZ1:=Lib.hid hz1;have HW0:=Lib.hid hW0;have HB0:Hid (Below B w W0):=Lib.hid (hb0.mono hB);have HO0:Hid (∃ys,W0.ownsRow B 38 3 (.slice am ms.length cm) ms.length ys):=Lib.hid ⟨_,own_belowE hm hb0⟩;have HS0:Hid (B≤w.heap.size∧w.heap.size+1<W0.heap.size):=Lib.hid ⟨hB,hz1.lt⟩;clear hm hg hz0 hz1 hb0 hW0 hB;go_enter Tryz.func36,Tryz.ntmps36;go_wp2_with fail;rw[←HW0.out];go_loopw [3] (fun t3 W=> ∃k:Nat,t3= .int .i64 (k:Int)∧Hid (k≤ms.length)∧Hid (Below B w W∧Blk W w.heap.size 36 #[.string name,.slice am ms.length cm,.string off,.string tim]∧Blk W (w.heap.size+1) 36 #[.string ⟨#[]⟩,.slice none 0 0,.string ⟨#[]⟩,.string ⟨#[]⟩]∧ ∃ys,W.ownsRow B 38 3 (.slice am ms.length cm) ms.length ys)) (fun t3 _=>ms.length-(intOf t3).toNat)
 case atStart=>exact⟨0,rfl,Lib.hid (Nat.zero_le _),Lib.hid ⟨HB0.out,HZ0.out,HZ1.out,HO0.out⟩⟩
 case round=>
  obtain⟨k,rfl,hk,hI⟩:=hrel;obtain⟨hb,hz0,hz1,ys,ho⟩:=hI.out;have c1:wr.cell? ⟨w.heap.size,1,none⟩=some (.slice am ms.length cm):=hz0.cell 1;by_cases hlt:k<ms.length
  ·have p1:((k:Int)<(ms.length:Int))=True:=eq_true (by omega);obtain⟨g,rfl,hbg⟩:=HG.out k hlt;have hyl:k*3+2<ys.length:=by have:=ho.1;omega
   have k2:=ho.cellAt (k*3+2) (by omega);obtain⟨u2,hu2⟩: ∃u,ys[k*3+2]? =some u:=⟨_,List.getElem?_eq_getElem hyl⟩;rw[hu2]at k2;have f2:=ho.frozenAt (k*3+2);obtain⟨ho2,hg2⟩:=ho.stored (k*3+2) (.string ⟨#[109,97,114,107,101,100]⟩);have HN:Hid (Below B w (wr.setCell ⟨g,k*3+2,none⟩ (.string ⟨#[109,97,114,107,101,100]⟩))∧Blk (wr.setCell ⟨g,k*3+2,none⟩ (.string ⟨#[109,97,114,107,101,100]⟩)) w.heap.size 36 #[.string name,.slice (some ⟨g,0,none⟩) ms.length cm,.string off,.string tim]∧Blk (wr.setCell ⟨g,k*3+2,none⟩ (.string ⟨#[109,97,114,107,101,100]⟩)) (w.heap.size+1) 36 #[.string ⟨#[]⟩,.slice none 0 0,.string ⟨#[]⟩,.string ⟨#[]⟩]∧ ∃ys,(wr.setCell ⟨g,k*3+2,none⟩ (.string ⟨#[109,97,114,107,101,100]⟩)).ownsRow B 38 3 (.slice (some ⟨g,0,none⟩) ms.length cm) ms.length ys):=Lib.hid
    ⟨hb.grown hg2 (Nat.le_trans HS0.out.1 hb.size) (fun q hq=>(ho.lt q hq).1),hz0.grown hg2 (own_blk_ne ho hz0 (by decide)).symm,hz1.grown hg2 (own_blk_ne ho hz1 (by decide)).symm,_,ho2⟩
   clear hb hz0 hz1 ho hyl ho2 hg2 hI hu2;go_wp2_with fail;go_roundw
   case rel=>exact⟨k+1,by go_num,Lib.hid hlt,HN⟩
   case measure=>simp[intOf];omega
  ·have p1:((k:Int)<(ms.length:Int))=False:=eq_false (by omega);have HZ1:=Lib.hid hz1;have HB:=Lib.hid hb;have HSB:Hid (B≤wr.heap.size∧B≤w.heap.size+1):=Lib.hid ⟨Nat.le_trans HS0.out.1 hb.size,by have:=HS0.out.1;omega⟩;clear hb hz0 hz1 ho hI;go_wp2_with (refine wpList_store_blk rfl 36 (.tmp 2) (.tmp 16) rfl (w.heap.size+1) _ rfl rfl HZ1.out (by kernel_rfl) rfl rfl ?_);intro W2 hz2 hg2;have HF:Hid (Below B w W2):=Lib.hid (below_grow HB.out hg2 HSB.out.1 HSB.out.2);have HZ2:=Lib.hid hz2;clear hz2 hg2;go_wp2_with fail;exact bodyPost_ret (results_blk Tryz.results36 rfl HZ2.out Tryz.underlying36 (by kernel_rfl)) rfl ⟨rfl,HF.out⟩
theorem fn_ne (w:World):(binOp .eql 71 (.func (.func 36) #[] #[]) .nilFunc).run Tryz.prog w= .ok (.bool false) w:=by kernel_rfl
def TurnPost (w:World) (e:Ending) (w':World):Prop:=
 ∃g r,e= .returned (.pointer (some ⟨g,0,none⟩))∧NodeAt w.heap.size w' (.iface 93 (.pointer (some ⟨g,0,none⟩))) r []∧Below w.heap.size w w'
theorem SelPost.turn {w W w':World} {r:PR} {e:Ending} (h:SelPost W r e w') (hb:Below w.heap.size w W):TurnPost w e w':=by
 obtain⟨g,rfl,hn,hb2⟩:=h;exact⟨g,_,rfl,hn.lo hb.size,hb.trans (hb2.mono hb.size)⟩
def otherR:PR:={zr 3 0 with text:=⟨#[111,116,104,101,114]⟩,ms:=[],off:=⟨#[]⟩,tim:=⟨#[]⟩}
theorem other_small:SmallR otherR:=by
 have h0:ByteArray.size ⟨#[]⟩≤1048576:=by decide
 have h1:ByteArray.size ⟨#[111,116,104,101,114]⟩≤1048576:=by decide
 exact⟨h0,h1,h0,h0,h0,h0,by simp[otherR,zr],by simp[otherR,zr],by simp[otherR,zr],by simp[otherR,zr],by simp[otherR,zr],by simp[otherR,zr],by simp[otherR,zr],by simp[otherR,zr]⟩
theorem tree_turned {T:Nat→World→Prop} (hT:NumT (fun _=>True) T) (hS:SoundC T) {b p:Nat} {w:World} {r:PR} (hn:NodeAt b w (.iface 93 (.pointer (some ⟨p,0,none⟩))) r []) (hl:LenOK r) (hTw:T w.heap.size w):
  Calls Tryz.prog 128 #[.pointer (some ⟨p,0,none⟩),.func (.func 36) #[] #[]] w (TurnPost w):=by
 have HROW:=Lib.hid (tree_rowOf hn hl);have hne:=fn_ne;have HSO:Hid (∀W m o i l,Below w.heap.size w W→RowLs 0 W otherR m o i l→Calls Tryz.prog 122 #[rowV otherR m o i l] W (BoolPost W (soundRow otherR))):=Lib.hid fun W m o i l hb h=>hS W otherR m o i l h other_small (hT.mono (hT.keep hTw hb) hb.size)
 have HLM:Hid (r.ms.length≤1099511627776):=Lib.hid hl.1;clear hn hl hTw;go_enter Tryz.func128,Tryz.ntmps128;go_wp2_with fail;refine HROW.out.mono ?_;rintro e W1 ⟨vm,vo,vi,vl,rfl,ho,hb1⟩;obtain⟨am,nm,cm,rfl⟩:=own_sl ho.m;obtain⟨ao,no,co,rfl⟩:=own_sl ho.o;obtain⟨ai,ni,ci,rfl⟩:=own_sl ho.i;obtain⟨al,nl,cl,rfl⟩:=own_sl ho.l;have HLS:=Lib.hid (ho.ls.lo (Nat.zero_le _));have HB1:=Lib.hid hb1;clear ho hb1;go_wp2_with (refine wpList_store_blk rfl 58 (.tmp 5) (.tmp 10) rfl W1.heap.size _ rfl rfl (Blk.new _ _ _) info_row rfl rfl ?_);intro W2 hz hg;have hb2:Below W1.heap.size W1 W2:=below_grow ((Below.refl _ W1).alloc (Nat.le_refl _) _) hg (by simp) (Nat.le_refl _);have HZ:=Lib.hid hz;have HB2:Hid (Below w.heap.size w W2):=Lib.hid (HB1.out.trans (hb2.mono HB1.out.size));have HSEL:Hid (∀W,Below W2.heap.size W2 W→Calls Tryz.prog 59 #[rowV r (.slice am nm cm) (.slice ao no co) (.slice ai ni ci) (.slice al nl cl)] W (SelPostO W r)):=Lib.hid fun W h=>tree_selectorO ((HLS.out.1.below hb2).below h) HLM.out
 simp only[rowV]at HSEL;clear hz hg hb2;go_wp2_with (first|(refine wpList_load_blk rfl 58 (.tmp 5) rfl W1.heap.size rfl HZ.out Tryz.underlying58 info_row ?_)|(go_at_call 59;(with_reducible refine(HSEL.out _ (Below.refl _ _)).mono ?_);rintro e W3 ⟨gs,am3,nm3,cm3,rfl,hgs,hzs,hms,hb3⟩;have HZS:=Lib.hid hzs;have HMS:=Lib.hid hms;have HB3:=Lib.hid hb3;clear hgs hzs hms hb3)|(refine wpList_load_blk rfl 36 (.tmp 18) rfl gs rfl HZS.out Tryz.underlying36 (by kernel_rfl) ?_)|(go_at_call 36;(with_reducible refine(keeps_fn HMS.out HLM.out HB3.out.size).mono ?_);rintro e W4 ⟨rfl,hb4⟩;have HB4:=Lib.hid (HB3.out.trans hb4);clear hb4)|(refine wpList_store_blk rfl 36 (.tmp 6) (.tmp 20) rfl W4.heap.size _ rfl rfl (Blk.new _ _ _) (by kernel_rfl) rfl rfl ?_;intro W5 hz5 hg5;have HZ5:=Lib.hid hz5;have HB5:Hid (Below W2.heap.size W2 W5):=Lib.hid (HB4.out.trans ((below_grow ((Below.refl _ W4).alloc (Nat.le_refl _) _) hg5 (by simp) (Nat.le_refl _)).mono HB4.out.size));clear hz5 hg5));have hn5:NodeAt 0 W5 (.iface 93 (.pointer (some ⟨W4.heap.size,0,none⟩))) otherR []:=.selector _ (Nat.zero_le _) HZ5.out.lt _ _ _ _ [] (matS_none 0 W5) (HZ5.out.cell 0) (HZ5.out.cell 1) (HZ5.out.cell 2) (HZ5.out.cell 3);refine(tree_rowOf hn5 ⟨by decide,by decide,by decide,by decide⟩).mono ?_;rintro e W6 ⟨vm,vo,vi,vl,rfl,ho,hb6⟩;obtain⟨am6,nm6,cm6,rfl⟩:=own_sl ho.m;obtain⟨ao6,no6,co6,rfl⟩:=own_sl ho.o;obtain⟨ai6,ni6,ci6,rfl⟩:=own_sl ho.i;obtain⟨al6,nl6,cl6,rfl⟩:=own_sl ho.l;have HLS6:=Lib.hid (ho.ls.lo (Nat.zero_le _));have HB6:Hid (Below W2.heap.size W2 W6):=Lib.hid (HB5.out.trans (hb6.mono HB5.out.size));clear ho hb6 hn5;go_wp2_with (refine wpList_store_blk rfl 58 (.tmp 7) (.tmp 22) rfl W6.heap.size _ rfl rfl (Blk.new _ _ _) info_row rfl rfl ?_);intro W7 hz7 hg7;have hb7:Below W6.heap.size W6 W7:=below_grow ((Below.refl _ W6).alloc (Nat.le_refl _) _) hg7 (by simp) (Nat.le_refl _);have HZ7:=Lib.hid hz7;have HB7:Hid (Below W2.heap.size W2 W7):=Lib.hid (HB6.out.trans (hb7.mono HB6.out.size));have HBW:Hid (∀W,Below W2.heap.size W2 W→Below w.heap.size w W):=Lib.hid fun W h=>HB2.out.trans (h.mono HB2.out.size)
 have HLS7:=Lib.hid (HLS6.out.below hb7);have HSO7:=Lib.hid (HSO.out _ _ _ _ _ (HBW.out _ HB7.out) HLS7.out);have HSEL7:Hid (∀W,Below W7.heap.size W7 W→Calls Tryz.prog 59 #[rowV otherR (.slice am6 nm6 cm6) (.slice ao6 no6 co6) (.slice ai6 ni6 ci6) (.slice al6 nl6 cl6)] W (SelPost W otherR)):=Lib.hid fun W h=>tree_selector (HLS7.out.1.below h) (by decide)
 simp only[rowV]at HSO7 HSEL7;have HZ2:Hid (Blk W7 W1.heap.size 58 _):=Lib.hid (HZ.out.below HB7.out HZ.out.lt);clear hz7 hg7 hb7;go_upto_region 6 with(fail)
 go_wp2_with (refine wpList_load_blk rfl 58 (.tmp 7) rfl W6.heap.size rfl HZ7.out Tryz.underlying58 info_row ?_);refine HSO7.out.mono ?_;rintro e W8 ⟨rfl,hb8⟩;have HZ78:Hid (Blk W8 W6.heap.size 58 _):=Lib.hid (HZ7.out.below hb8 HZ7.out.lt);have HZ28:Hid (Blk W8 W1.heap.size 58 _):=Lib.hid (HZ2.out.below hb8 HZ2.out.lt);have HB8:=Lib.hid hb8;have HB28:Hid (Below W2.heap.size W2 W8):=Lib.hid (HB7.out.trans (hb8.mono HB7.out.size));clear hb8 HSO7;generalize soundRow otherR=sb at*
 cases sb with
 |true=>
  go_wp2_with (first|(refine wpList_load_blk rfl 58 (.tmp 7) rfl W6.heap.size rfl HZ78.out Tryz.underlying58 info_row ?_)|(go_at_call 59;(with_reducible refine(HSEL7.out _ HB8.out).mono ?_);rintro e W9 hsel;have HF:=Lib.hid (hsel.turn (HBW.out _ HB28.out));obtain⟨gq,rfl,_⟩:=hsel));go_ret;exact HF.out
 |false=>
  go_wp2_with (first|(refine wpList_load_blk rfl 58 (.tmp 5) rfl W1.heap.size rfl HZ28.out Tryz.underlying58 info_row ?_)|(go_at_call 59;(with_reducible refine(HSEL.out _ HB28.out).mono ?_);rintro e W9 hsel;have HF:=Lib.hid (hsel.sel.turn (HBW.out _ HB28.out));obtain⟨gq,am9,nm9,cm9,rfl,_⟩:=hsel));go_ret;exact HF.out
def ShapedPost (w:World) (rs:List PR) (e:Ending) (w':World):Prop:= ∃(d:Int) (ok:Bool),e= .returned (.tuple #[.int .i64 d,.bool ok])∧ok=shapeB rs∧(ok=true→d=(deepOf rs:Nat))∧Below w.heap.size w w'
theorem ShapedPost.no {w w':World} {rs:List PR} (h:shapeB rs=false) (hb:Below w.heap.size w w'):ShapedPost w rs (.returned (.tuple #[.int .i64 0,.bool false])) w':=⟨0,false,rfl,h.symm,(fun h=>by cases h),hb⟩
theorem shape_no {rs:List PR} (h:trees 1 rs=false∨rs.all soundRow=false∨rangesB rs=false):shapeB rs=false:=by
 unfold shapeB;rcases h with h|h|h<;>simp[h]
structure ShI (b:Nat) (w:World) (rs:List PR) (k:Nat) (s:List Nat) (deep:Nat) (v:Value) (W:World):Prop where
 le:k≤rs.length
 sh:Shaping (rs.take k) s deep
 fine:fineB (rs.take k) (rs.drop k)=true
 all: ∀c∈s,0<c
 own:OpenS b W v s
 below:Below w.heap.size w W
 few:s.length≤k
 deepk:deep≤k
 kids: ∀c∈s,c≤rs.length
theorem ShI.next {b:Nat} {w:World} {rs:List PR} {k:Nat} {s:List Nat} {deep:Nat} {v:Value} {W:World} (h:ShI b w rs k s deep v W) (hk:k<rs.length) {r:PR} (hr:r=rs[k]) (hs:k=0∨s≠[]) (hsr:soundRow r=true) (hrn:(!decide (r.kind=4)||nextSel (rs.drop (k+1)))=true) (hkl:nk r≤rs.length)
  {s':List Nat} {v':Value} {W':World} (hn:s'=norm (nk r::s)) (ho:OpenS b W' v' s') (hb:Below w.heap.size w W'):ShI b w rs (k+1) s' (max deep (s.length+1)) v' W':=by
 have ht:rs.take (k+1)=rs.take k++[r]:=by rw[List.take_succ_eq_append_getElem hk,hr]
 have hd:rs.drop k=r::rs.drop (k+1):=by rw[List.drop_eq_getElem_cons hk,hr]
 refine⟨hk,?_,?_,?_,ho,hb,?_,?_,?_⟩
 ·rw[ht,hn];exact h.sh.step r (hs.elim (fun h0=>.inl (by rw[h0];rfl)) .inr)
 ·rw[ht];exact fineB_snoc (by rw[←hd];exact h.fine) hsr hrn
 ·rw[hn];exact norm_all _ h.all
 ·rw[hn];have:=norm_len (nk r::s);have h2:=h.few;simp only[List.length_cons]at this;omega
 ·have h1:=h.few;have h2:=h.deepk;omega
 ·rw[hn];refine norm_le _ fun c hc=>?_
  rcases List.mem_cons.1 hc with rfl|hc
  ·exact hkl
  ·exact h.kids c hc
theorem take_cons_drop {rs:List PR} {k:Nat} (hk:k<rs.length):rs=rs.take k++rs[k]::rs.drop (k+1):=by
 rw[←List.drop_eq_getElem_cons hk,List.take_append_drop]
theorem ShI.full {b:Nat} {w:World} {rs:List PR} {k:Nat} {deep:Nat} {v:Value} {W:World} (h:ShI b w rs k [] deep v W) (hk:k<rs.length) (h0:0<k):shapeB rs=false:=by
 refine shape_no (.inl ?_);rw[take_cons_drop hk];exact h.sh.full (by intro e;have:=congrArg List.length e;rw[List.length_take,List.length_nil]at this;omega) rfl _ _
theorem unsound_no {rs:List PR} {k:Nat} (hk:k<rs.length) (h:soundRow rs[k]=false):shapeB rs=false:=by
 refine shape_no (.inr (.inl ?_));rw[List.all_eq_false];exact⟨rs[k],List.getElem_mem hk,by simp[h]⟩
theorem many_no {rs:List PR} {k:Nat} (hk:k<rs.length) (h:rs.length<nk rs[k]):shapeB rs=false:=by
 refine shape_no (.inl ?_);rw[take_cons_drop hk];exact trees_many (by rw[←take_cons_drop hk];exact h)
theorem range_no {rs:List PR} {k:Nat} (hk:k<rs.length) (h4:rs[k].kind=4) (h:nextSel (rs.drop (k+1))=false):shapeB rs=false:=by
 refine shape_no (.inr (.inr ?_));rw[take_cons_drop hk];exact rangesB_last h h4
theorem nextSel_end {rs:List PR} {k:Nat} (h:k+1=rs.length):nextSel (rs.drop (k+1))=false:=by
 rw[List.drop_of_length_le (by omega)];rfl
theorem nextSel_at {rs:List PR} {k:Nat} (h:k+1<rs.length):nextSel (rs.drop (k+1))=decide (rs[k+1].kind=3):=by
 rw[List.drop_eq_getElem_cons h];rfl
theorem sound_nk {r:PR} (h:soundRow r=true):r.kids=(nk r:Int):=by
 have h1:kidsB r.kind r.kids=true:=by
  unfold soundRow at h;simp only[Bool.and_eq_true]at h;exact h.1.1
 have h2:0≤r.kids:=by
  unfold kidsB at h1
  repeat' split at h1
  all_goals simp at h1
  all_goals omega
 unfold nk;omega
theorem tree_shaped {T:Nat→World→Prop} (hT:NumT (fun _=>True) T) (hS:SoundC T) {b:Nat} {w:World} {v:Value} {rs:List PR} (h:RowsS b w v rs) (hlen:rs.length≤1048576) (hsm: ∀r∈rs,SmallR r) (hTw:T w.heap.size w):
  Calls Tryz.prog 64 #[v] w (ShapedPost w rs):=by
 obtain⟨ao,c,rfl,hc⟩:=h;have HC:=Lib.hid hc;have HSM:=Lib.hid hsm;have HTT:Hid (∀W,Below w.heap.size w W→T W.heap.size W):=Lib.hid fun W hb=>hT.mono (hT.keep hTw hb) hb.size
 clear hc hsm hTw;go_enter Tryz.func64,Tryz.ntmps64;go_wp2_with fail;go_loopw [4,5,10] (fun t4 t5 t10 wr=> ∃(k:Nat) (s:List Nat) (deep:Nat),t10= .int .i64 (k:Int)∧t5= .int .i64 (deep:Int)∧Hid (ShI w.heap.size w rs k s deep t4 wr)) (fun _ _ t10 _=>rs.length-(intOf t10).toNat)
 case atStart=>exact⟨0,[],0,rfl,rfl,Lib.hid ⟨Nat.zero_le _,Shaping.start,by simp[fineB],(fun c h=>by cases h),OpenS.nil _ _,Below.refl _ _,Nat.zero_le _,Nat.zero_le _,(fun c h=>by cases h)⟩⟩
 case round=>
  as_aux_lemma=>
   obtain⟨k,s,deep,rfl,rfl,hI⟩:=hrel;by_cases hlt:k<rs.length
   ·have p1:((k:Int)<(rs.length:Int))=True:=eq_true (by omega);obtain⟨g,o,rfl,hbg,hg,vm,vo,vi,vl,hls,hcs⟩:=HC.out k hlt;have hb:=hI.out.below;obtain⟨r,hr⟩: ∃r,r=rs[k]:=⟨_,rfl⟩;rw[←hr]at hls;obtain⟨⟨am,cm,rfl,_⟩,⟨ao2,co,rfl,_⟩,⟨ai,ci,rfl,_⟩,⟨al,cl,rfl,_⟩⟩:=id hls;obtain⟨nm,hnm⟩: ∃n,n=r.ms.length:=⟨_,rfl⟩;obtain⟨no,hno⟩: ∃n,n=r.mls.length:=⟨_,rfl⟩;obtain⟨ni,hni⟩: ∃n,n=r.inc.length:=⟨_,rfl⟩;obtain⟨nl,hnl⟩: ∃n,n=r.labels.length:=⟨_,rfl⟩;rw[←hnm,←hno,←hni,←hnl]at hls;rw[←hr]at hcs;rw[←hnm,←hno,←hni,←hnl]at hcs;have c0:wr.cell? ⟨g,o+k*17,none⟩=some (.int .i64 r.kind):=(hb.cell (p:=⟨g,_,none⟩) hg).trans (hcs 0 (by omega));have c1:wr.cell? ⟨g,o+k*17+1,none⟩=some (.int .i64 r.kids):=(hb.cell (p:=⟨g,_,none⟩) hg).trans (hcs 1 (by omega));have c2:wr.cell? ⟨g,o+k*17+2,none⟩=some (.string r.op):=(hb.cell (p:=⟨g,_,none⟩) hg).trans (hcs 2 (by omega));have c3:wr.cell? ⟨g,o+k*17+3,none⟩=some (.string r.text):=(hb.cell (p:=⟨g,_,none⟩) hg).trans (hcs 3 (by omega));have c4:wr.cell? ⟨g,o+k*17+4,none⟩=some (.slice am nm cm):=(hb.cell (p:=⟨g,_,none⟩) hg).trans (hcs 4 (by omega));have c5:wr.cell? ⟨g,o+k*17+5,none⟩=some (.string r.dur):=(hb.cell (p:=⟨g,_,none⟩) hg).trans (hcs 5 (by omega));have c6:wr.cell? ⟨g,o+k*17+6,none⟩=some (.string r.step):=(hb.cell (p:=⟨g,_,none⟩) hg).trans (hcs 6 (by omega));have c7:wr.cell? ⟨g,o+k*17+7,none⟩=some (.string r.off):=(hb.cell (p:=⟨g,_,none⟩) hg).trans (hcs 7 (by omega));have c8:wr.cell? ⟨g,o+k*17+8,none⟩=some (.string r.tim):=(hb.cell (p:=⟨g,_,none⟩) hg).trans (hcs 8 (by omega));have c9:wr.cell? ⟨g,o+k*17+9,none⟩=some (.bool r.bool):=(hb.cell (p:=⟨g,_,none⟩) hg).trans (hcs 9 (by omega));have c10:wr.cell? ⟨g,o+k*17+10,none⟩=some (.bool r.given):=(hb.cell (p:=⟨g,_,none⟩) hg).trans (hcs 10 (by omega));have c11:wr.cell? ⟨g,o+k*17+11,none⟩=some (.bool r.on):=(hb.cell (p:=⟨g,_,none⟩) hg).trans (hcs 11 (by omega));have c12:wr.cell? ⟨g,o+k*17+12,none⟩=some (.slice ao2 no co):=(hb.cell (p:=⟨g,_,none⟩) hg).trans (hcs 12 (by omega));have c13:wr.cell? ⟨g,o+k*17+13,none⟩=some (.int .i64 r.card):=(hb.cell (p:=⟨g,_,none⟩) hg).trans (hcs 13 (by omega));have c14:wr.cell? ⟨g,o+k*17+14,none⟩=some (.slice ai ni ci):=(hb.cell (p:=⟨g,_,none⟩) hg).trans (hcs 14 (by omega));have c15:wr.cell? ⟨g,o+k*17+15,none⟩=some (.bool r.without):=(hb.cell (p:=⟨g,_,none⟩) hg).trans (hcs 15 (by omega));have c16:wr.cell? ⟨g,o+k*17+16,none⟩=some (.slice al nl cl):=(hb.cell (p:=⟨g,_,none⟩) hg).trans (hcs 16 (by omega));have HLS:=Lib.hid (hls.below hb);have HR:=Lib.hid hr;have HGT:=Lib.hid (show g<wr.heap.size from Nat.lt_of_lt_of_le hg hb.size);clear hls hcs hb hr;have HN4:=Lib.hid (And.intro hnm (And.intro hno (And.intro hni hnl)));clear hnm hno hni hnl;go_upto_region 6 with(refine wpList_store_blk rfl 58 (.tmp 7) (.tmp 14) rfl wr.heap.size _ rfl rfl (Blk.new _ _ _) info_row rfl rfl ?_)
    intro W' hz hgr;go_upto_region 6 with(fail)
    have hbW:Below wr.heap.size wr W':=below_grow ((Below.refl wr.heap.size wr).alloc (Nat.le_refl _) _) hgr (by simp) (Nat.le_refl _);obtain⟨av,cv,hv⟩:=hI.out.own.sl;subst hv;have HZ:=Lib.hid hz;have HI:Hid (ShI w.heap.size w rs k s deep (.slice av s.length cv) W'):=Lib.hid {hI.out with own:=hI.out.own.below hbW,below:=hI.out.below.trans (hbW.mono hI.out.below.size)};have HLW:=Lib.hid (HLS.out.below hbW);have HCW:Hid (∀j (hj:j<rs.length),W'.cell? ⟨g,o+j*17,none⟩=some (.int .i64 rs[j].kind)):=Lib.hid fun j hj=>by
     obtain⟨g',o',he,_,hg',_,_,_,_,_,hcs'⟩:=HC.out j hj;cases he;exact((hI.out.below.trans (hbW.mono hI.out.below.size)).cell (p:=⟨g,_,none⟩) hg').trans (hcs' 0 (by omega))
    clear hz hgr hbW;clear c0 c1 c2 c3 c4 c5 c6 c7 c8 c9 c10 c11 c12 c13 c14 c15 c16;by_cases hA:0<k∧s=[]
    ·obtain⟨hA1,rfl⟩:=hA;have p2:((0:Int)<(k:Int))=True:=eq_true (by omega);have HP:=Lib.hid (ShapedPost.no (w:=w) (HI.out.full hlt hA1) HI.out.below);clear hI;go_wp2_with fail;go_ret2;exact HP.out
    ·have hs:k=0∨s≠[]:=by
      rcases Nat.eq_zero_or_pos k with h0|h0
      ·exact .inl h0
      ·exact .inr fun e=>hA ⟨h0,e⟩
     have HS2:=Lib.hid hs;have HCALL:=Lib.hid (hS W' r _ _ _ _ (HLW.out.lo (Nat.zero_le _)) (HSM.out r (by rw[HR.out];exact List.getElem_mem hlt)) (HTT.out W' HI.out.below));have pz:(k=0∧((0:Int)<(k:Int))=False∧(0<k)=False)∨(((0:Int)<(k:Int))=True∧(0<k)=True∧((s.length:Int)==0)=false∧(s.length=0)=False):=by
      rcases Nat.eq_zero_or_pos k with h0|h0
      ·exact .inl ⟨h0,eq_false (by omega),eq_false (by omega)⟩
      ·have hne:=hs.resolve_left (by omega);have:0<s.length:=List.length_pos_iff.2 hne;exact .inr ⟨eq_true (by omega),eq_true (by omega),by rw[beq_eq_false_iff_ne];omega,eq_false (by omega)⟩
     clear hA hs hI;have pz2:(((0:Int)<(k:Int))=False∧(0<k)=False)∨(((0:Int)<(k:Int))=True∧(0<k)=True∧((s.length:Int)==0)=false∧(s.length=0)=False):=pz.elim (fun h=>.inl h.2) .inr;clear pz;go_cut [33]from 15 to 33 (fun t33 wx=> ∃b,t33= .bool b∧Hid ((b=true→shapeB rs=false)∧(b=false→soundRow r=true∧nk r≤rs.length)∧Below W'.heap.size W' wx))
     case first=>
      as_aux_lemma=>
       have e0:W'.cell? ⟨wr.heap.size,0,none⟩=some (.int .i64 r.kind):=HZ.out.cell 0;have e1:W'.cell? ⟨wr.heap.size,1,none⟩=some (.int .i64 r.kids):=HZ.out.cell 1;have e2:W'.cell? ⟨wr.heap.size,2,none⟩=some (.string r.op):=HZ.out.cell 2;have e3:W'.cell? ⟨wr.heap.size,3,none⟩=some (.string r.text):=HZ.out.cell 3;have e4:W'.cell? ⟨wr.heap.size,4,none⟩=some (.slice am nm cm):=HZ.out.cell 4;have e5:W'.cell? ⟨wr.heap.size,5,none⟩=some (.string r.dur):=HZ.out.cell 5;have e6:W'.cell? ⟨wr.heap.size,6,none⟩=some (.string r.step):=HZ.out.cell 6;have e7:W'.cell? ⟨wr.heap.size,7,none⟩=some (.string r.off):=HZ.out.cell 7;have e8:W'.cell? ⟨wr.heap.size,8,none⟩=some (.string r.tim):=HZ.out.cell 8;have e9:W'.cell? ⟨wr.heap.size,9,none⟩=some (.bool r.bool):=HZ.out.cell 9;have e10:W'.cell? ⟨wr.heap.size,10,none⟩=some (.bool r.given):=HZ.out.cell 10;have e11:W'.cell? ⟨wr.heap.size,11,none⟩=some (.bool r.on):=HZ.out.cell 11;have e12:W'.cell? ⟨wr.heap.size,12,none⟩=some (.slice ao2 no co):=HZ.out.cell 12;have e13:W'.cell? ⟨wr.heap.size,13,none⟩=some (.int .i64 r.card):=HZ.out.cell 13;have e14:W'.cell? ⟨wr.heap.size,14,none⟩=some (.slice ai ni ci):=HZ.out.cell 14;have e15:W'.cell? ⟨wr.heap.size,15,none⟩=some (.bool r.without):=HZ.out.cell 15;have e16:W'.cell? ⟨wr.heap.size,16,none⟩=some (.slice al nl cl):=HZ.out.cell 16;by_cases hsr:soundRow r=true
       ·have hnk:=sound_nk hsr;rw[hsr]at HCALL;have HSR:=Lib.hid hsr;have HNK:=Lib.hid hnk;clear hsr hnk;have pk:((((rs.length:Int)<(nk r:Int))=False)∧nk r≤rs.length)∨((((rs.length:Int)<(nk r:Int))=True)∧rs.length<nk r):=by
         by_cases h:nk r≤rs.length
         ·exact .inl ⟨eq_false (by omega),h⟩
         ·exact .inr ⟨eq_true (by omega),by omega⟩
        rcases pk with⟨p4,hk4⟩|⟨p4,hk4⟩
        ·have HK4:=Lib.hid hk4;clear hk4;rcases pz2 with⟨p2,p6⟩|⟨p2,p6,p3,p5⟩
         all_goals
          go_wp2_with ((go_at_call 122;refine HCALL.out.mono ?_;rintro e W2 ⟨rfl,hb2⟩;have y1:W2.cell? ⟨wr.heap.size,1,none⟩=some (.int .i64 (nk r:Int)):=(hb2.cell (p:=⟨wr.heap.size,1,none⟩) HZ.out.lt).trans ((HZ.out.cell 1).trans (by rw[←HNK.out];rfl));have HB2:=Lib.hid hb2;clear hb2));go_meet;exact⟨false,rfl,Lib.hid ⟨(fun h=>by cases h),fun _=>⟨HSR.out,HK4.out⟩,HB2.out⟩⟩
        ·have HP:=Lib.hid (many_no hlt (by rw[←HR.out];exact hk4));clear hk4;rcases pz2 with⟨p2,p6⟩|⟨p2,p6,p3,p5⟩
         all_goals
          go_wp2_with ((go_at_call 122;refine HCALL.out.mono ?_;rintro e W2 ⟨rfl,hb2⟩;have y1:W2.cell? ⟨wr.heap.size,1,none⟩=some (.int .i64 (nk r:Int)):=(hb2.cell (p:=⟨wr.heap.size,1,none⟩) HZ.out.lt).trans ((HZ.out.cell 1).trans (by rw[←HNK.out];rfl));have HB2:=Lib.hid hb2;clear hb2));go_meet;exact⟨true,rfl,Lib.hid ⟨fun _=>HP.out,(fun h=>by cases h),HB2.out⟩⟩
       ·have hsf:soundRow r=false:=by cases h:soundRow r with|false=>rfl|true=>exact absurd h hsr
        rw[hsf]at HCALL;have HP:=Lib.hid (unsound_no hlt (by rw[←HR.out];exact hsf));clear hsr hsf;rcases pz2 with⟨p2,p6⟩|⟨p2,p6,p3,p5⟩
        all_goals
         go_wp2_with ((go_at_call 122;refine HCALL.out.mono ?_;rintro e W2 ⟨rfl,hb2⟩;have HB2:=Lib.hid hb2;clear hb2));go_meet;exact⟨true,rfl,Lib.hid ⟨fun _=>HP.out,(fun h=>by cases h),HB2.out⟩⟩
     case rest=>
      as_aux_lemma=>
       obtain⟨bb,rfl,hH⟩:=hcut;cases bb with
       |true=>
        have HP:=Lib.hid (ShapedPost.no (w:=w) (hH.out.1 rfl) (HI.out.below.trans (hH.out.2.2.mono HI.out.below.size)));clear hH;go_wp2_with fail;go_ret2;exact HP.out
       |false=>
        have HH:=Lib.hid (hH.out.2.1 rfl);have HBC:=Lib.hid hH.out.2.2;have HIC:Hid (ShI w.heap.size w rs k s deep (.slice av s.length cv) wc):=Lib.hid {HI.out with own:=HI.out.own.below HBC.out,below:=HI.out.below.trans (HBC.out.mono HI.out.below.size)};have f0:wc.cell? ⟨wr.heap.size,0,none⟩=some (.int .i64 r.kind):=(HBC.out.cell (p:=⟨wr.heap.size,0,none⟩) HZ.out.lt).trans (HZ.out.cell 0);have f1:wc.cell? ⟨wr.heap.size,1,none⟩=some (.int .i64 (nk r:Int)):=(HBC.out.cell (p:=⟨wr.heap.size,1,none⟩) HZ.out.lt).trans ((HZ.out.cell 1).trans (by rw[←sound_nk HH.out.1];rfl));have HNX:Hid (∀j (hj:j<rs.length),wc.cell? ⟨g,o+j*17,none⟩=some (.int .i64 rs[j].kind)):=Lib.hid fun j hj=>(HBC.out.cell (p:=⟨g,_,none⟩) (by
         have h1:=HCW.out j hj;have h2:=HGT.out;have h3:=HZ.out.lt;show g<W'.heap.size;omega)).trans (HCW.out j hj)
        clear hH;have pn:((k:Int)+1=(rs.length:Int))∨k+1<rs.length:=by omega
        go_upto_region 8 with(fail)
        go_cut [52]from 34 to 52 (fun t52 wx=> ∃b,t52= .bool b∧wx=wc∧Hid ((b=true→shapeB rs=false)∧(b=false→(!decide (r.kind=4)||nextSel (rs.drop (k+1)))=true)))
        case first=>
         as_aux_lemma=>
          by_cases hk4:r.kind=4
          ·have q4:(r.kind==4)=true:=by simp[hk4]
           have HK4:=Lib.hid hk4;clear hk4;rcases pn with pe|pl
           ·have HP:=Lib.hid (range_no hlt (by rw[←HR.out];exact HK4.out) (nextSel_end (by omega)));have q5:((k:Int)+1==(rs.length:Int))=true:=by rw[beq_iff_eq];exact pe
            clear pe;go_wp2_with fail;go_meet;exact⟨true,rfl,rfl,Lib.hid ⟨fun _=>HP.out,(fun h=>by cases h)⟩⟩
           ·have q5:((k:Int)+1==(rs.length:Int))=false:=by rw[beq_eq_false_iff_ne];omega
            have nx:=HNX.out (k+1) pl;have q6:((k:Int)+1<(rs.length:Int))=True:=eq_true (by omega);by_cases h3:rs[k+1].kind=3
            ·have HP:Hid ((!decide (r.kind=4)||nextSel (rs.drop (k+1)))=true):=Lib.hid (by rw[nextSel_at pl,h3];simp);have q7:(rs[k+1].kind==3)=true:=by simp[h3]
             have q8:(rs[k+1].kind != 3)=false:=by simp[h3]
             clear h3;generalize rs[k+1].kind=nkd at nx q7 q8;go_wp2_with fail;go_meet;exact⟨false,rfl,rfl,Lib.hid ⟨(fun h=>by cases h),fun _=>HP.out⟩⟩
            ·have HP:=Lib.hid (range_no hlt (by rw[←HR.out];exact HK4.out) (by rw[nextSel_at pl];exact decide_eq_false h3));have q7:(rs[k+1].kind==3)=false:=by simpa using h3
             have q8:(rs[k+1].kind != 3)=true:=by simpa using h3
             clear h3;generalize rs[k+1].kind=nkd at nx q7 q8;go_wp2_with fail;go_meet;exact⟨true,rfl,rfl,Lib.hid ⟨fun _=>HP.out,(fun h=>by cases h)⟩⟩
          ·have q4:(r.kind==4)=false:=by simpa using hk4
           have HP:Hid ((!decide (r.kind=4)||nextSel (rs.drop (k+1)))=true):=Lib.hid (by simp[hk4]);clear hk4 pn;go_wp2_with fail;go_meet;exact⟨false,rfl,rfl,Lib.hid ⟨(fun h=>by cases h),fun _=>HP.out⟩⟩
        case rest=>
         as_aux_lemma=>
          obtain⟨b2,rfl,rfl,hG⟩:=hcut;cases b2 with
          |true=>
           have HP:=Lib.hid (ShapedPost.no (w:=w) (hG.out.1 rfl) HIC.out.below);clear hG;go_wp2_with fail;go_ret2;exact HP.out
          |false=>
           have HRN:=Lib.hid (hG.out.2 rfl);clear hG pn;have HOWN:Hid (wc.ownsRow w.heap.size 3 1 (.slice av s.length cv) s.length (s.reverse.map intC)):=Lib.hid HIC.out.own;have hsl:s.length≤1048576:=by have:=HIC.out.few;omega
           go_wp2_with ((at_builtin;refine wpList_push rfl (.tmp 53) (.tmp 56) 49 rfl w.heap.size 3 (.int .i64 0) 1 8 info_int Tryz.underlying49 rfl (by decide) _ _ _ rfl HOWN.out [.int .i64 (nk r:Int)] rfl rfl (one1 rfl) (by unfold maxLen;omega) (by omega) HIC.out.below.size ?_));intro v2 W5 hown hgr;have HB5:=Lib.hid (HIC.out.below.grown hgr HIC.out.below.size (fun q hq=>(HOWN.out.lt q hq).1));have HO5:Hid (OpenS w.heap.size W5 v2 (nk r::s)):=Lib.hid (OpenS.push (by rw[←List.map_reverse]at hown;exact hown));obtain⟨a5,c5,hv5⟩:=HO5.out.sl;subst hv5;simp only[List.length_cons]at HO5 ⊢
           have HM:Hid (max (deep:Int) ((s.length:Int)+1)=((max deep (s.length+1):Nat):Int)):=Lib.hid (by omega);clear hown hgr f0 f1 HOWN;go_wp2_with fail;go_loopw [4] (fun t4 wx=> ∃s':List Nat,Hid (norm s'=norm (nk r::s)∧(∀c∈s'.tail,0<c)∧OpenS w.heap.size wx t4 s'∧Below w.heap.size w wx∧s'.length≤1048577∧ ∀c∈s',c≤rs.length)) (fun t4 _=>sliceLen t4)
           case atStart=>exact⟨nk r::s,Lib.hid ⟨rfl,HIC.out.all,HO5.out,HB5.out,by simp only[List.length_cons];omega,fun c hc=>(List.mem_cons.1 hc).elim (fun e=>e▸HH.out.2) (HIC.out.kids c)⟩⟩
           case round=>
            as_aux_lemma=>
             obtain⟨s',hJ⟩:=hrel;obtain⟨a6,c6,hv6⟩:=hJ.out.2.2.1.sl;subst hv6;have hsl':=hJ.out.2.2.2.2.1;cases s' with
             |nil=>
              have HE:Hid (ShI w.heap.size w rs (k+1) [] (max deep (s.length+1)) (.slice a6 0 c6) wr):=Lib.hid (HIC.out.next hlt HR.out HS2.out HH.out.1 HRN.out HH.out.2 (by rw[←hJ.out.1,norm_nil]) hJ.out.2.2.1 hJ.out.2.2.2.1);simp only[List.length_nil];clear hsl' hJ;go_wp2_with fail;exact⟨⟨k+1,[],max deep (s.length+1),by go_num,by rw[←HM.out],HE⟩,meas_j hlt⟩
             |cons x t=>
              have hform:=hJ.out.2.2.1.form;obtain⟨g6,c7,h6,hb6,hg6⟩:=hform.resolve_left (fun h=>by cases h.2);injection h6 with e1 e2 e3
              subst e1 e3;have htop:=hJ.out.2.2.1.top;have hcap:=hJ.out.2.2.1.cap;have m1:=htop.1;have m2:=htop.2;simp only[List.length_cons]at hsl' hcap ⊢
              have hxl:=hJ.out.2.2.2.2.2 x (by simp);by_cases hx:x=0
              ·subst hx;have hpop:=hJ.out.2.2.1.pop rfl;cases t with
               |nil=>
                have HE:Hid (norm ([]:List Nat)=norm (nk r::s)∧(∀c∈([]:List Nat).tail,0<c)∧OpenS w.heap.size wr (.slice (some ⟨g6,0,none⟩) 0 c6) []∧Below w.heap.size w wr∧([]:List Nat).length≤1048577∧ ∀c∈([]:List Nat),c≤rs.length):=Lib.hid ⟨by rw[←hJ.out.1,norm_one,norm_nil],(fun c h=>by cases h),hpop,hJ.out.2.2.2.1,by simp,(fun c h=>by cases h)⟩;simp only[List.length_nil,Nat.zero_add]at m1 m2 hsl' ⊢
                clear hJ hform htop hpop;go_wp2_with fail;exact⟨⟨[],HE⟩,by simp[sliceLen]⟩
               |cons y t2=>
                have hy:=hJ.out.2.1 y (by simp);have hyl:=hJ.out.2.2.2.2.2 y (by simp);have hd:=hpop.dec (y-1);have n1:=hpop.top.1;have n2:=hpop.top.2;have HE:Hid (norm ((y-1)::t2)=norm (nk r::s)∧(∀c∈((y-1)::t2).tail,0<c)∧OpenS w.heap.size (wr.setCell ⟨g6,t2.length,none⟩ (.int .i64 ((y-1:Nat):Int))) (.slice (some ⟨g6,0,none⟩) (t2.length+1) c6) ((y-1)::t2)∧Below w.heap.size w (wr.setCell ⟨g6,t2.length,none⟩ (.int .i64 ((y-1:Nat):Int)))∧((y-1)::t2).length≤1048577∧ ∀c∈(y-1)::t2,c≤rs.length):=Lib.hid ⟨by rw[←hJ.out.1,norm_zero],fun c hc=>hJ.out.2.1 c (by simp at hc ⊢;exact .inr hc),hd,hJ.out.2.2.2.1.setCell (p:=⟨g6,_,none⟩) hb6 _,by simp only[List.length_cons]at hsl' ⊢;omega,fun c hc=>(List.mem_cons.1 hc).elim (fun e=>by omega) (fun h=>hJ.out.2.2.2.2.2 c (by simp[h]))⟩;have HY:Hid ((y:Int)-1=((y-1:Nat):Int)):=Lib.hid (by omega);simp only[List.length_cons]at m1 m2 hsl' hcap ⊢
                clear hJ hform htop hpop hd;go_wp2_with fail;rw[HY.out];exact⟨⟨(y-1)::t2,HE⟩,by simp[sliceLen]⟩
              ·have q1:((x:Int)==0)=false:=by rw[beq_eq_false_iff_ne];omega
               have HE:Hid (ShI w.heap.size w rs (k+1) (x::t) (max deep (s.length+1)) (.slice (some ⟨g6,0,none⟩) (t.length+1) c6) wr):=Lib.hid (HIC.out.next hlt HR.out HS2.out HH.out.1 HRN.out HH.out.2 (by rw[←hJ.out.1,norm_pos t (by omega)]) hJ.out.2.2.1 hJ.out.2.2.2.1);clear hJ hform htop hx;go_wp2_with fail;exact⟨⟨k+1,x::t,max deep (s.length+1),by go_num,by rw[←HM.out],HE⟩,meas_j hlt⟩
   ·have hke:k=rs.length:=by have:=hI.out.le;omega
    have p1:((k:Int)<(rs.length:Int))=False:=eq_false (by omega);obtain⟨av,cv,hv⟩:=hI.out.own.sl;subst hv;have hall:rs.take k=rs:=by rw[hke];exact List.take_length
    have hsh:shapeB rs=(decide (0<rs.length)&&decide (s.length=0)):=by
     have h1:=hI.out.fine;rw[hke,List.drop_length,List.take_length]at h1;have h2:=hI.out.sh.done;rw[hall]at h2;rw[fineB_end h1,h2]
     congr 1
     ·cases rs<;>simp
     ·cases s<;>simp
    have hde:(deep:Int)=((deepOf rs:Nat):Int):=by
     have h3:=hI.out.sh.deepOf;rw[hall]at h3;rw[h3]
    have HP:=Lib.hid (And.intro hsh (And.intro hde hI.out.below));clear hsh hde hall hI hke;by_cases h0:rs.length=0
    ·have q1:((0:Int)<(rs.length:Int))=False:=eq_false (by omega);have q2:(0<rs.length)=False:=eq_false (by omega);go_wp2_with fail;go_ret2;exact⟨_,false,rfl,by rw[HP.out.1];simp[h0],(fun h=>by cases h),HP.out.2.2⟩
    ·have q1:((0:Int)<(rs.length:Int))=True:=eq_true (by omega);have q2:(0<rs.length)=True:=eq_true (by omega);by_cases hs0:s.length=0
     ·have q3:((s.length:Int)==0)=true:=by rw[beq_iff_eq];omega
      have HT:Hid (shapeB rs=true):=Lib.hid (by rw[HP.out.1];simp[hs0];omega);clear h0;go_wp2_with fail;go_ret2;exact⟨_,true,rfl,HT.out.symm,fun _=>HP.out.2.1,HP.out.2.2⟩
     ·have q3:((s.length:Int)==0)=false:=by rw[beq_eq_false_iff_ne];omega
      have HT:Hid (shapeB rs=false):=Lib.hid (by rw[HP.out.1];simp[hs0]);clear h0;go_wp2_with fail;go_ret2;exact⟨_,false,rfl,HT.out.symm,(fun h=>by cases h),HP.out.2.2⟩
theorem sound_unused (w:World) (r:PR) (am ao ai al:Option Addr) (nm cm no co ni ci nl cl:Nat) (h:RowLs 0 w r (.slice am nm cm) (.slice ao no co) (.slice ai ni ci) (.slice al nl cl)) (hl:LenOK r) (hk:kidsB r.kind r.kids=true) (hu: ¬unP r=zr r.kind 0):
  Calls Tryz.prog 122 #[.agg #[.int .i64 r.kind,.int .i64 r.kids,.string r.op,.string r.text,.slice am nm cm,.string r.dur,.string r.step,.string r.off,.string r.tim,.bool r.bool,.bool r.given,.bool r.on,.slice ao no co,.int .i64 r.card,.slice ai ni ci,.bool r.without,.slice al nl cl]] w (BoolPost w false):=by
 obtain⟨A,hA⟩: ∃A,A=rowA r (.slice am nm cm) (.slice ao no co) (.slice ai ni ci) (.slice al nl cl):=⟨_,rfl⟩;obtain⟨W1,hW1⟩: ∃W1,W1=w.alloc (.cells A 58):=⟨_,rfl⟩;have hs0:OB w A W1:=by rw[hW1];exact ob_new w A
 have HS0:Hid (OB w A W1.drew):=Lib.hid hs0.drew;have HU:Hid (∀W,OB w A W→Calls Tryz.prog 170 #[.agg #[.int .i64 r.kind,.int .i64 r.kids,.string r.op,.string r.text,.slice am nm cm,.string r.dur,.string r.step,.string r.off,.string r.tim,.bool r.bool,.bool r.given,.bool r.on,.slice ao no co,.int .i64 r.card,.slice ai ni ci,.bool r.without,.slice al nl cl]] W (UnX w A r)):=Lib.hid fun W hs=>un_x h hs
 have HA:=Lib.hid hA;have HH:=Lib.hid h;have c0:W1.drew.cell? ⟨w.heap.size,0,none⟩=some (.int .i64 r.kind):=(hs0.2.cell 0).trans (by rw[hA];rfl);have c1:W1.drew.cell? ⟨w.heap.size,1,none⟩=some (.int .i64 r.kids):=(hs0.2.cell 1).trans (by rw[hA];rfl);have c2:W1.drew.cell? ⟨w.heap.size,2,none⟩=some (.string r.op):=(hs0.2.cell 2).trans (by rw[hA];rfl);have c3:W1.drew.cell? ⟨w.heap.size,3,none⟩=some (.string r.text):=(hs0.2.cell 3).trans (by rw[hA];rfl);have c4:W1.drew.cell? ⟨w.heap.size,4,none⟩=some (.slice am nm cm):=(hs0.2.cell 4).trans (by rw[hA];rfl);have c5:W1.drew.cell? ⟨w.heap.size,5,none⟩=some (.string r.dur):=(hs0.2.cell 5).trans (by rw[hA];rfl);have c6:W1.drew.cell? ⟨w.heap.size,6,none⟩=some (.string r.step):=(hs0.2.cell 6).trans (by rw[hA];rfl);have c7:W1.drew.cell? ⟨w.heap.size,7,none⟩=some (.string r.off):=(hs0.2.cell 7).trans (by rw[hA];rfl);have c8:W1.drew.cell? ⟨w.heap.size,8,none⟩=some (.string r.tim):=(hs0.2.cell 8).trans (by rw[hA];rfl);have c9:W1.drew.cell? ⟨w.heap.size,9,none⟩=some (.bool r.bool):=(hs0.2.cell 9).trans (by rw[hA];rfl);have c10:W1.drew.cell? ⟨w.heap.size,10,none⟩=some (.bool r.given):=(hs0.2.cell 10).trans (by rw[hA];rfl);have c11:W1.drew.cell? ⟨w.heap.size,11,none⟩=some (.bool r.on):=(hs0.2.cell 11).trans (by rw[hA];rfl);have c12:W1.drew.cell? ⟨w.heap.size,12,none⟩=some (.slice ao no co):=(hs0.2.cell 12).trans (by rw[hA];rfl);have c13:W1.drew.cell? ⟨w.heap.size,13,none⟩=some (.int .i64 r.card):=(hs0.2.cell 13).trans (by rw[hA];rfl);have c14:W1.drew.cell? ⟨w.heap.size,14,none⟩=some (.slice ai ni ci):=(hs0.2.cell 14).trans (by rw[hA];rfl);have c15:W1.drew.cell? ⟨w.heap.size,15,none⟩=some (.bool r.without):=(hs0.2.cell 15).trans (by rw[hA];rfl);have c16:W1.drew.cell? ⟨w.heap.size,16,none⟩=some (.slice al nl cl):=(hs0.2.cell 16).trans (by rw[hA];rfl);rw[hA]at hW1;simp only[rowA]at hW1;have HW1:=Lib.hid hW1;have HL:=Lib.hid hl.un;have HK:=Lib.hid hk;clear h hl hs0 hA hW1 hk;go_enter Tryz.func122,Tryz.ntmps122;go_upto_region 1 with(fail)
 rw[←HW1.out];go_region_with (first|(go_at_call 169;refine(tree_kidsFit _ _ _).mono ?_;rintro e w' ⟨rfl,rfl⟩;rw[HK.out])|(go_at_call 170;refine(HU.out _ HS0.out).mono ?_;rintro e WU ⟨um,uo,ui,ul,rfl,hls,hs⟩;have u0:WU.cell? ⟨w.heap.size,0,none⟩=some (.int .i64 r.kind):=(hs.2.cell 0).trans (by rw[HA.out];rfl);have HSU:=Lib.hid hs;have HLS:=Lib.hid hls;clear hs hls)|(go_at_call 76;refine(sa_x (k:=r.kind) HLS.out HL.out HSU.out).mono ?_;rintro e WS ⟨bs,rfl,hbs,hs⟩;have HSS:=Lib.hid hs;have HBS:=Lib.hid hbs;clear hs hbs))
 all_goals
  have hb:bs=false:=by
   cases bs with
   |false=>rfl
   |true=>exact absurd (HBS.out.1 rfl) hu
  subst hb;go_wp2_with fail;go_ret;exact⟨rfl,HSS.out.1⟩
end Go.Proofs.YtibcjfjacielbaaGreatDoor
