import Derived.Test.YtibcjfjacielbaaGreatDoorP04
import Derived.Test.YtibcjfjacielbaaGreatDoorP26
import Derived.Test.YtibcjfjacielbaaGreatDoorP28
import Derived.Deep.CutRange
import Derived.Deep.RegionLaw
import Derived.BigRegion
import Derived.Shelf.Strings.Builder1
import Derived.Shelf.Small.Strs
import Derived.Shelf.Strings.Search1
import Derived.Shelf.Strings.Search2
import Derived.Shelf.Strings.Search3
import Derived.Lib.IndexAny
import Derived.WalkMore
import Derived.ScopeJumps
import Derived.OwnWalk
import Derived.Laws.OwnMore
import Derived.Deep.CutBlock
import Derived.Deep.Cut
import Derived.Shelf.SlicesE.Clone
import Derived.Shelf.SlicesQ.Equal
import Derived.Shelf.SlicesQ.IndexFunc
import Derived.Shelf.SlicesE.IndexFunc
import Derived.Deep.RegionWith
import Derived.Outline
/- Part of the proof of YtibcjfjacielbaaGreatDoorCardP: PaF. -/
set_option maxRecDepth 100000
set_option maxHeartbeats 4000000
set_option linter.unusedVariables false
set_option linter.unusedSimpArgs false
namespace Go.Proofs.YtibcjfjacielbaaGreatDoor
open Go.RowKit
structure TV where
 x:Value
 d:Nat
 s:Value
 w:Value
def TV.v (t:TV):Value:=.agg #[t.x,.int .i64 (t.d:Int),t.s,t.w]
def KidsS (W:World) (kv:Value) (xs:List TV):Prop:=
 ∃ao c,kv= .slice ao xs.length c∧ ∀j (h:j<xs.length),∃q o,ao=some ⟨q,o,none⟩∧q<W.heap.size∧W.cell? ⟨q,o+j*4,none⟩=some xs[j].x∧W.cell? ⟨q,o+j*4+1,none⟩=some (.int .i64 (xs[j].d:Int))∧W.cell? ⟨q,o+j*4+2,none⟩=some xs[j].s∧W.cell? ⟨q,o+j*4+3,none⟩=some xs[j].w
def TV.one (t:TV):Prop:=t.x.oneCell'=true∧t.s.oneCell'=true∧t.w.oneCell'=true
def dAcc (xs:List TV) (i:Nat):Nat:=(xs.take i).foldl (fun a t=>max a (t.d+1)) 1
theorem dAcc_succ {xs:List TV} {i:Nat} (h:i<xs.length):dAcc xs (i+1)=max (dAcc xs i) (xs[i].d+1):=by
 unfold dAcc;rw[List.take_succ_eq_append_getElem h,List.foldl_append];rfl
theorem dAcc_le {xs:List TV} {n:Nat} (hn:1≤n) (h: ∀t∈xs,t.d+1≤n) (i:Nat):dAcc xs i≤n:=by
 have: ∀(l:List TV) (a:Nat),a≤n→(∀t∈l,t.d+1≤n)→l.foldl (fun a t=>max a (t.d+1)) a≤n:=by
  intro l;induction l with
  |nil=>intro a ha _;exact ha
  |cons t l ih=>intro a ha hl;exact ih _ (Nat.max_le.2 ⟨ha,hl t (by simp)⟩) fun u hu=>hl u (by simp[hu])
 exact this _ 1 hn fun t ht=>h t (List.mem_of_mem_take ht)
theorem info_thing:(Tryz.prog.info? 96).map (·.size)=some 4:=by kernel_rfl
structure NB (W:World) (x:Value) (d:Nat) (W':World):Prop where
 b:Below W.heap.size W W'
 z4:Blk W' W.heap.size 96 #[.nilIface,.int .i64 0,.pointer none,.pointer none]
 z5:Blk W' (W.heap.size+1) 96 #[x,.int .i64 (d:Int),.pointer none,.pointer none]
theorem NB.below {W W1 W2:World} {x:Value} {d:Nat} (h:NB W x d W1) (hb:Below W1.heap.size W1 W2):NB W x d W2:=⟨h.b.trans (hb.mono h.b.size),h.z4.below hb h.z4.lt,h.z5.below hb h.z5.lt⟩
theorem node_grown {W wr W3:World} {g i:Nat} {u:Value} (hb:Below W.heap.size W wr) (_:g<W.heap.size) (h3:(wr.setCell ⟨g,i,none⟩ u).grownBy W3 (some W.heap.size)):W.grownBy W3 (some g):=by
 have h1:W.grownBy wr (some g):=grown_below hb _;refine⟨h3.os.trans h1.os,h3.tape.trans h1.tape,h3.output.trans h1.output,Nat.le_trans h1.size (by have:=h3.size;simpa using this),fun k hk hne=>?_⟩;refine(h3.block k (by have:=hb.size;simp;omega) (by intro e;injection e;omega)).trans ?_;exact(Below.heap_setCell wr ⟨g,i,none⟩ u k (by rintro rfl;exact hne rfl)).trans (h1.block k hk hne)
theorem node_grown2 {W WX W3:World} {g:Nat} (h1:W.grownBy WX (some g)) (h3:WX.grownBy W3 (some W.heap.size)):W.grownBy W3 (some g):=
 ⟨h3.os.trans h1.os,h3.tape.trans h1.tape,h3.output.trans h1.output,Nat.le_trans h1.size h3.size,fun k hk hne=>(h3.block k (Nat.lt_of_lt_of_le hk h1.size) (by intro e;injection e;omega)).trans (h1.block k hk hne)⟩
theorem grown_set (w:World) (g i:Nat) (u:Value):w.grownBy (w.setCell ⟨g,i,none⟩ u) (some g):=
 ⟨rfl,by first|rfl|simp,rfl,by simp,fun k _ hne=>Below.heap_setCell w ⟨g,i,none⟩ u k (by rintro rfl;exact hne rfl)⟩
theorem NB.set1 {W W1:World} {x:Value} {d d':Nat} (h:NB W x d W1):NB W x d' (W1.setCell ⟨W.heap.size+1,1,none⟩ (.int .i64 (d':Int))):=by
 have hz:=h.z5.set_ 1 (.int .i64 (d':Int));exact⟨h.b.setCell (p:=⟨W.heap.size+1,1,none⟩) (Nat.le_succ _) _,h.z4.far (p:=⟨W.heap.size+1,1,none⟩) (by show W.heap.size≠W.heap.size+1;omega) _,by simpa using hz⟩
theorem pa_leaf {W:World} {t:TypeId} {g:Nat} (ht:t=164∨t=93):
  Calls Tryz.prog 102 #[.iface t (.pointer (some ⟨g,0,none⟩)),.slice none 0 0] W fun e W'=>e= .returned (TV.v ⟨.iface t (.pointer (some ⟨g,0,none⟩)),1,.pointer none,.pointer none⟩)∧Below W.heap.size W W':=by
 obtain⟨xs,hxs⟩: ∃xs:List TV,xs=[]:=⟨_,rfl⟩;have hk:KidsS W (.slice none 0 0) xs:=by rw[hxs];exact⟨none,0,rfl,fun j h=>by simp at h⟩
 have hone: ∀t∈xs,t.one:=by rw[hxs];intro t ht;cases ht
 have hdd: ∀t∈xs,t.d+1≤128:=by rw[hxs];intro t ht;cases ht
 have hlast:dAcc xs xs.length=1:=by rw[hxs];rfl
 have hn:xs.length=0:=by rw[hxs];rfl
 have HX:=Lib.hid (And.intro hlast hn);have hle:xs.length≤2:=by omega
 clear hxs hlast hn;obtain⟨kv,hkv⟩: ∃kv,kv=Value.slice none 0 0:=⟨_,rfl⟩;rw[←hkv]at hk ⊢
 clear hkv;obtain⟨ao,c,rfl,hc⟩:=hk;obtain⟨W1,hW1⟩: ∃W1,W1=(W.alloc (.cells #[.nilIface,.int .i64 0,.pointer none,.pointer none] 96)).alloc (.cells #[.iface t (.pointer (some ⟨g,0,none⟩)),.int .i64 1,.pointer none,.pointer none] 96):=⟨_,rfl⟩;have hb1:Below W.heap.size W W1:=by rw[hW1];exact((Below.refl _ W).alloc (Nat.le_refl _) _).alloc (by simp) _
 have hnb:NB W (.iface t (.pointer (some ⟨g,0,none⟩))) (dAcc xs 0) W1:=by
  refine⟨hb1,by rw[hW1];exact(Blk.new _ _ _).alloc _,?_⟩;rw[hW1];have:=Blk.new (W.alloc (.cells #[.nilIface,.int .i64 0,.pointer none,.pointer none] 96)) 96 #[.iface t (.pointer (some ⟨g,0,none⟩)),.int .i64 1,.pointer none,.pointer none];simpa [dAcc]using this
 have HC:=Lib.hid hc;have HO:=Lib.hid hone;have HDD:=Lib.hid hdd;have HN:=Lib.hid hnb;have HW1:=Lib.hid hW1;have hdl: ∀i,dAcc xs i≤128:=dAcc_le (by omega) hdd;have HDL:=Lib.hid hdl;clear hc hone hdd hb1 hnb hW1 hdl;have a1:=asUnary;have a2:=asBinary;have a3:=asSubquery;have a4:=asCall;have a5:=asAggregate;have q1:(t=176)=False:=eq_false (by rcases ht with rfl|rfl<;>decide);have q2:(t=179)=False:=eq_false (by rcases ht with rfl|rfl<;>decide);have q3:(t=173)=False:=eq_false (by rcases ht with rfl|rfl<;>decide);have q4:(t=183)=False:=eq_false (by rcases ht with rfl|rfl<;>decide);have q5:(t=186)=False:=eq_false (by rcases ht with rfl|rfl<;>decide);clear ht;go_enter Tryz.func102,Tryz.ntmps102;go_upto_region 2 with(fail)
 rw[←HW1.out];go_wp2_with fail;go_loopw [19] (fun t19 W'=> ∃i:Nat,t19= .int .i64 (i:Int)∧Hid (i≤xs.length)∧Hid (NB W (.iface t (.pointer (some ⟨g,0,none⟩))) (dAcc xs i) W')) (fun t19 _=>xs.length-(intOf t19).toNat)
 case atStart=>exact⟨0,rfl,Lib.hid (Nat.zero_le _),HN⟩
 case round=>
  obtain⟨i,rfl,hi,hI⟩:=hrel;have hdi:=HDL.out i;have c1:wr.cell? ⟨W.heap.size+1,1,none⟩=some (.int .i64 (dAcc xs i:Int)):=hI.out.z5.cell 1;by_cases hlt:i<xs.length
  ·have p1:((i:Int)<(xs.length:Int))=True:=eq_true (by omega);obtain⟨q,o,rfl,hq,k0,k1,k2,k3⟩:=HC.out i hlt;obtain⟨u,hu⟩: ∃u,u=xs[i]:=⟨_,rfl⟩;rw[←hu]at k0 k1 k2 k3;have hun:=HO.out xs[i] (List.getElem_mem hlt);have hud:=HDD.out xs[i] (List.getElem_mem hlt);rw[←hu]at hun hud;have hsucc:=dAcc_succ hlt;rw[←hu]at hsucc;have j0:wr.cell? ⟨q,o+i*4,none⟩=some u.x:=(hI.out.b.cell (p:=⟨q,_,none⟩) hq).trans k0;have j1:wr.cell? ⟨q,o+i*4+1,none⟩=some (.int .i64 (u.d:Int)):=(hI.out.b.cell (p:=⟨q,_,none⟩) hq).trans k1;have j2:wr.cell? ⟨q,o+i*4+2,none⟩=some u.s:=(hI.out.b.cell (p:=⟨q,_,none⟩) hq).trans k2;have j3:wr.cell? ⟨q,o+i*4+3,none⟩=some u.w:=(hI.out.b.cell (p:=⟨q,_,none⟩) hq).trans k3;have o4:[u.x,.int .i64 (u.d:Int),u.s,u.w].all (·.oneCell')=true:=by simp only[List.all_cons,hun.1,hun.2.1,hun.2.2,List.all_nil,Bool.and_true,Bool.true_and];rfl
   have HSU:=Lib.hid hsucc;clear k0 k1 k2 k3 hq hun hu hsucc;go_wp2_with (refine wpList_store_blk rfl 96 (.tmp 7) (.tmp 22) rfl wr.heap.size _ rfl rfl (Blk.new _ _ _) info_thing rfl o4 ?_);intro W2 hz2 hg2;have hb2:Below wr.heap.size wr W2:=below_grow ((Below.refl wr.heap.size wr).alloc (Nat.le_refl _) _) hg2 (by simp) (Nat.le_refl _);have hnb2:=hI.out.below hb2;have l1:W2.cell? ⟨wr.heap.size,1,none⟩=some (.int .i64 (u.d:Int)):=hz2.cell 1;have l5:W2.cell? ⟨W.heap.size+1,1,none⟩=some (.int .i64 (dAcc xs i:Int)):=hnb2.z5.cell 1;have g5:=hnb2.z5.frozen 1;have HN2:Hid (NB W (.iface t (.pointer (some ⟨g,0,none⟩))) (dAcc xs (i+1)) (W2.setCell ⟨W.heap.size+1,1,none⟩ (.int .i64 (max (dAcc xs i:Int) ((u.d:Int)+1))))):=Lib.hid (by
    have:=hnb2.set1 (d':=dAcc xs (i+1));rw[HSU.out,show ((max (dAcc xs i) (u.d+1):Nat):Int)=max (dAcc xs i:Int) ((u.d:Int)+1)by omega]at this;rw[HSU.out];exact this)
   clear hz2 hg2 hb2 hnb2 c1 j0 j1 j2 j3 o4 hI;go_wp2_with fail;go_roundw
   case rel=>exact⟨i+1,by go_num,Lib.hid hlt,HN2⟩
   case measure=>simp[intOf];omega
  ·have p1:((i:Int)<(xs.length:Int))=False:=eq_false (by omega);have p2:((128:Int)<(dAcc xs i:Int))=False:=eq_false (by omega);have hie:i=xs.length:=by have:=hi.out;omega
   have hd1:dAcc xs i=1:=by rw[hie];exact HX.out.1
   rw[hd1]at hI c1 p2;have HZ5:=Lib.hid hI.out.z5;have HZ4:=Lib.hid hI.out.z4;have HB:=Lib.hid hI.out.b;clear hI hdi hd1 hie;go_wp2_with (first|(refine wpList_load_blk rfl 96 (.tmp 5) rfl (W.heap.size+1) rfl HZ5.out Tryz.underlying96 info_thing ?_)|(refine wpList_store_blk rfl 96 (.tmp 4) (.tmp 118) rfl W.heap.size _ rfl rfl HZ4.out info_thing rfl rfl ?_;intro W3 hz3 hg3;have HZ3:=Lib.hid hz3;have HF:Hid (Below W.heap.size W W3):=Lib.hid (below_grow HB.out hg3 HB.out.size (Nat.le_refl _));clear hz3 hg3));exact bodyPost_ret (results_blk Tryz.results102 rfl HZ3.out Tryz.underlying96 info_thing) rfl ⟨rfl,HF.out⟩
theorem pa_un {W:World} {g:Nat} {op:ByteArray} {kv:Value} {t0:TV} (hz:Blk W g 178 #[.string op,.nilIface]) (hk:KidsS W kv [t0]) (h1:t0.one) (hd:t0.d+1≤128) (hx: ∃tt y,t0.x= .iface tt y):
  Calls Tryz.prog 102 #[.iface 176 (.pointer (some ⟨g,0,none⟩)),kv] W fun e W'=>e= .returned (TV.v ⟨.iface 176 (.pointer (some ⟨g,0,none⟩)),t0.d+1,.pointer none,.pointer none⟩)∧Blk W' g 178 #[.string op,t0.x]∧W.grownBy W' (some g):=by
 obtain⟨tt,y,hx⟩:=hx;obtain⟨xs,hxs⟩: ∃xs:List TV,xs=[t0]:=⟨_,rfl⟩;rw[←hxs]at hk;have hone: ∀t∈xs,t.one:=by rw[hxs];intro t ht;rw[List.mem_singleton.1 ht];exact h1
 have hdd: ∀t∈xs,t.d+1≤128:=by rw[hxs];intro t ht;rw[List.mem_singleton.1 ht];exact hd
 obtain⟨D,hD⟩: ∃D,D=t0.d+1:=⟨_,rfl⟩;have hlast:dAcc xs xs.length=D:=by rw[hxs,hD];simp[dAcc]
 rw[←hD];have hn:xs.length=1:=by rw[hxs];rfl
 have h0: ∀h:0<xs.length,(xs[0]'h).x= .iface tt y:=by subst hxs;intro h;exact hx
 have HX:=Lib.hid (And.intro hlast (And.intro hn h0));have hle:xs.length≤2:=by omega
 have HGZ:=Lib.hid hz;have n1:((0:Int)<(xs.length:Int))=True:=eq_true (by omega);have n2:0<xs.length:=by omega
 rw[hx];clear hxs hlast hn h0 hz h1 hd hx hD;obtain⟨ao,c,rfl,hc⟩:=hk;obtain⟨W1,hW1⟩: ∃W1,W1=(W.alloc (.cells #[.nilIface,.int .i64 0,.pointer none,.pointer none] 96)).alloc (.cells #[.iface 176 (.pointer (some ⟨g,0,none⟩)),.int .i64 1,.pointer none,.pointer none] 96):=⟨_,rfl⟩;have hb1:Below W.heap.size W W1:=by rw[hW1];exact((Below.refl _ W).alloc (Nat.le_refl _) _).alloc (by simp) _
 have hnb:NB W (.iface 176 (.pointer (some ⟨g,0,none⟩))) (dAcc xs 0) W1:=by
  refine⟨hb1,by rw[hW1];exact(Blk.new _ _ _).alloc _,?_⟩;rw[hW1];have:=Blk.new (W.alloc (.cells #[.nilIface,.int .i64 0,.pointer none,.pointer none] 96)) 96 #[.iface 176 (.pointer (some ⟨g,0,none⟩)),.int .i64 1,.pointer none,.pointer none];simpa [dAcc]using this
 have HC:=Lib.hid hc;have HO:=Lib.hid hone;have HDD:=Lib.hid hdd;have HN:=Lib.hid hnb;have HW1:=Lib.hid hW1;have hdl: ∀i,dAcc xs i≤128:=dAcc_le (by omega) hdd;have HDL:=Lib.hid hdl;clear hc hone hdd hb1 hnb hW1 hdl;have a1:=asUnary;have a2:=asBinary;have a3:=asSubquery;have a4:=asCall;have a5:=asAggregate;go_enter Tryz.func102,Tryz.ntmps102;go_upto_region 2 with(fail)
 rw[←HW1.out];go_wp2_with fail;go_loopw [19] (fun t19 W'=> ∃i:Nat,t19= .int .i64 (i:Int)∧Hid (i≤xs.length)∧Hid (NB W (.iface 176 (.pointer (some ⟨g,0,none⟩))) (dAcc xs i) W')) (fun t19 _=>xs.length-(intOf t19).toNat)
 case atStart=>exact⟨0,rfl,Lib.hid (Nat.zero_le _),HN⟩
 case round=>
  obtain⟨i,rfl,hi,hI⟩:=hrel;have hdi:=HDL.out i;have c1:wr.cell? ⟨W.heap.size+1,1,none⟩=some (.int .i64 (dAcc xs i:Int)):=hI.out.z5.cell 1;by_cases hlt:i<xs.length
  ·have p1:((i:Int)<(xs.length:Int))=True:=eq_true (by omega);obtain⟨q,o,rfl,hq,k0,k1,k2,k3⟩:=HC.out i hlt;obtain⟨u,hu⟩: ∃u,u=xs[i]:=⟨_,rfl⟩;rw[←hu]at k0 k1 k2 k3;have hun:=HO.out xs[i] (List.getElem_mem hlt);have hud:=HDD.out xs[i] (List.getElem_mem hlt);rw[←hu]at hun hud;have hsucc:=dAcc_succ hlt;rw[←hu]at hsucc;have j0:wr.cell? ⟨q,o+i*4,none⟩=some u.x:=(hI.out.b.cell (p:=⟨q,_,none⟩) hq).trans k0;have j1:wr.cell? ⟨q,o+i*4+1,none⟩=some (.int .i64 (u.d:Int)):=(hI.out.b.cell (p:=⟨q,_,none⟩) hq).trans k1;have j2:wr.cell? ⟨q,o+i*4+2,none⟩=some u.s:=(hI.out.b.cell (p:=⟨q,_,none⟩) hq).trans k2;have j3:wr.cell? ⟨q,o+i*4+3,none⟩=some u.w:=(hI.out.b.cell (p:=⟨q,_,none⟩) hq).trans k3;have o4:[u.x,.int .i64 (u.d:Int),u.s,u.w].all (·.oneCell')=true:=by simp only[List.all_cons,hun.1,hun.2.1,hun.2.2,List.all_nil,Bool.and_true,Bool.true_and];rfl
   have HSU:=Lib.hid hsucc;clear k0 k1 k2 k3 hq hun hu hsucc;go_wp2_with (refine wpList_store_blk rfl 96 (.tmp 7) (.tmp 22) rfl wr.heap.size _ rfl rfl (Blk.new _ _ _) info_thing rfl o4 ?_);intro W2 hz2 hg2;have hb2:Below wr.heap.size wr W2:=below_grow ((Below.refl wr.heap.size wr).alloc (Nat.le_refl _) _) hg2 (by simp) (Nat.le_refl _);have hnb2:=hI.out.below hb2;have l1:W2.cell? ⟨wr.heap.size,1,none⟩=some (.int .i64 (u.d:Int)):=hz2.cell 1;have l5:W2.cell? ⟨W.heap.size+1,1,none⟩=some (.int .i64 (dAcc xs i:Int)):=hnb2.z5.cell 1;have g5:=hnb2.z5.frozen 1;have HN2:Hid (NB W (.iface 176 (.pointer (some ⟨g,0,none⟩))) (dAcc xs (i+1)) (W2.setCell ⟨W.heap.size+1,1,none⟩ (.int .i64 (max (dAcc xs i:Int) ((u.d:Int)+1))))):=Lib.hid (by
    have:=hnb2.set1 (d':=dAcc xs (i+1));rw[HSU.out,show ((max (dAcc xs i) (u.d+1):Nat):Int)=max (dAcc xs i:Int) ((u.d:Int)+1)by omega]at this;rw[HSU.out];exact this)
   clear hz2 hg2 hb2 hnb2 c1 j0 j1 j2 j3 o4 hI;go_wp2_with fail;go_roundw
   case rel=>exact⟨i+1,by go_num,Lib.hid hlt,HN2⟩
   case measure=>simp[intOf];omega
  ·have p1:((i:Int)<(xs.length:Int))=False:=eq_false (by omega);have p2:((128:Int)<(dAcc xs i:Int))=False:=eq_false (by omega);have hie:i=xs.length:=by have:=hi.out;omega
   have hd1:dAcc xs i=D:=by rw[hie];exact HX.out.1
   rw[hd1]at hI c1 p2;have hgw:=hI.out.b;have hgz:=HGZ.out.below hgw HGZ.out.lt;have hgl:=HGZ.out.lt;obtain⟨q,o,rfl,hq,k0,_⟩:=HC.out 0 n2;rw[HX.out.2.2 n2]at k0;have j0:wr.cell? ⟨q,o,none⟩=some (.iface tt y):=by
    have:=(hgw.cell (p:=⟨q,o+0*4,none⟩) hq).trans k0;simpa using this
   have k1:=hgz.cell 1;have f1:=hgz.frozen 1;simp at k1;have HZ5:Hid (Blk (wr.setCell ⟨g,1,none⟩ (.iface tt y)) (W.heap.size+1) 96 _):=Lib.hid (hI.out.z5.far (p:=⟨g,1,none⟩) (by show W.heap.size+1≠g;omega) _);have HZ4:Hid (Blk (wr.setCell ⟨g,1,none⟩ (.iface tt y)) W.heap.size 96 _):=Lib.hid (hI.out.z4.far (p:=⟨g,1,none⟩) (by show W.heap.size≠g;omega) _);have hgs:Blk (wr.setCell ⟨g,1,none⟩ (.iface tt y)) g 178 #[.string op,.iface tt y]:=by simpa using hgz.set_ 1 (.iface tt y)
   have HFF:Hid (∀W3,(wr.setCell ⟨g,1,none⟩ (.iface tt y)).grownBy W3 (some W.heap.size)→Blk W3 g 178 #[.string op,.iface tt y]∧W.grownBy W3 (some g)):=Lib.hid fun W3 h3=>⟨hgs.grown h3 (by simp;omega),node_grown hgw hgl h3⟩
   clear hI hdi hd1 hie hgw hgz hq k0 hgs hgl;go_wp2_with (first|(refine wpList_load_blk rfl 96 (.tmp 5) rfl (W.heap.size+1) rfl HZ5.out Tryz.underlying96 info_thing ?_)|(refine wpList_store_blk rfl 96 (.tmp 4) (.tmp 118) rfl W.heap.size _ rfl rfl HZ4.out info_thing rfl rfl ?_;intro W3 hz3 hg3;have HZ3:=Lib.hid hz3;have HF:=Lib.hid (HFF.out W3 hg3);clear hz3 hg3));exact bodyPost_ret (results_blk Tryz.results102 rfl HZ3.out Tryz.underlying96 info_thing) rfl ⟨rfl,HF.out⟩
theorem pa_bin {W:World} {g:Nat} {op:ByteArray} {kv:Value} {t0 t1:TV} {z3 z4 z5 z6 z7 z8:Value} (hz:Blk W g 181 #[.string op,.nilIface,.nilIface,z3,z4,z5,z6,z7,z8]) (hk:KidsS W kv [t0,t1]) (h1:t0.one) (h1b:t1.one) (hd:max t0.d t1.d+1≤128) (hx: ∃tt y,t0.x= .iface tt y) (hx1: ∃tt y,t1.x= .iface tt y):
  Calls Tryz.prog 102 #[.iface 179 (.pointer (some ⟨g,0,none⟩)),kv] W fun e W'=>e= .returned (TV.v ⟨.iface 179 (.pointer (some ⟨g,0,none⟩)),max t0.d t1.d+1,.pointer none,.pointer none⟩)∧Blk W' g 181 #[.string op,t0.x,t1.x,z3,z4,z5,z6,z7,z8]∧W.grownBy W' (some g):=by
 obtain⟨tt,y,hx⟩:=hx;obtain⟨t2,y2,hx1⟩:=hx1;obtain⟨xs,hxs⟩: ∃xs:List TV,xs=[t0,t1]:=⟨_,rfl⟩;rw[←hxs]at hk;have hone: ∀t∈xs,t.one:=by
  rw[hxs];intro t ht;simp only[List.mem_cons,List.not_mem_nil,or_false]at ht;rcases ht with rfl|rfl
  ·exact h1
  ·exact h1b
 have hdd: ∀t∈xs,t.d+1≤128:=by
  rw[hxs];intro t ht;simp only[List.mem_cons,List.not_mem_nil,or_false]at ht;rcases ht with rfl|rfl<;>omega
 obtain⟨D,hD⟩: ∃D,D=max t0.d t1.d+1:=⟨_,rfl⟩;have hlast:dAcc xs xs.length=D:=by rw[hxs,hD];simp[dAcc]
 rw[←hD];have hn:xs.length=2:=by rw[hxs];rfl
 have h0: ∀h:0<xs.length,(xs[0]'h).x= .iface tt y:=by subst hxs;intro h;exact hx
 have h01: ∀h:1<xs.length,(xs[1]'h).x= .iface t2 y2:=by subst hxs;intro h;exact hx1
 have HX:=Lib.hid (And.intro hlast (And.intro hn (And.intro h0 h01)));have hle:xs.length≤2:=by omega
 have HGZ:=Lib.hid hz;have n1:((0:Int)<(xs.length:Int))=True:=eq_true (by omega);have n1b:((1:Int)<(xs.length:Int))=True:=eq_true (by omega);have n2:0<xs.length:=by omega
 have n2b:1<xs.length:=by omega
 rw[hx,hx1];clear hxs hlast hn h0 h01 hz h1 h1b hd hx hx1 hD;obtain⟨ao,c,rfl,hc⟩:=hk;obtain⟨W1,hW1⟩: ∃W1,W1=(W.alloc (.cells #[.nilIface,.int .i64 0,.pointer none,.pointer none] 96)).alloc (.cells #[.iface 179 (.pointer (some ⟨g,0,none⟩)),.int .i64 1,.pointer none,.pointer none] 96):=⟨_,rfl⟩;have hb1:Below W.heap.size W W1:=by rw[hW1];exact((Below.refl _ W).alloc (Nat.le_refl _) _).alloc (by simp) _
 have hnb:NB W (.iface 179 (.pointer (some ⟨g,0,none⟩))) (dAcc xs 0) W1:=by
  refine⟨hb1,by rw[hW1];exact(Blk.new _ _ _).alloc _,?_⟩;rw[hW1];have:=Blk.new (W.alloc (.cells #[.nilIface,.int .i64 0,.pointer none,.pointer none] 96)) 96 #[.iface 179 (.pointer (some ⟨g,0,none⟩)),.int .i64 1,.pointer none,.pointer none];simpa [dAcc]using this
 have HC:=Lib.hid hc;have HO:=Lib.hid hone;have HDD:=Lib.hid hdd;have HN:=Lib.hid hnb;have HW1:=Lib.hid hW1;have hdl: ∀i,dAcc xs i≤128:=dAcc_le (by omega) hdd;have HDL:=Lib.hid hdl;clear hc hone hdd hb1 hnb hW1 hdl;have a1:=asUnary;have a2:=asBinary;have a3:=asSubquery;have a4:=asCall;have a5:=asAggregate;go_enter Tryz.func102,Tryz.ntmps102;go_upto_region 2 with(fail)
 rw[←HW1.out];go_wp2_with fail;go_loopw [19] (fun t19 W'=> ∃i:Nat,t19= .int .i64 (i:Int)∧Hid (i≤xs.length)∧Hid (NB W (.iface 179 (.pointer (some ⟨g,0,none⟩))) (dAcc xs i) W')) (fun t19 _=>xs.length-(intOf t19).toNat)
 case atStart=>exact⟨0,rfl,Lib.hid (Nat.zero_le _),HN⟩
 case round=>
  obtain⟨i,rfl,hi,hI⟩:=hrel;have hdi:=HDL.out i;have c1:wr.cell? ⟨W.heap.size+1,1,none⟩=some (.int .i64 (dAcc xs i:Int)):=hI.out.z5.cell 1;by_cases hlt:i<xs.length
  ·have p1:((i:Int)<(xs.length:Int))=True:=eq_true (by omega);obtain⟨q,o,rfl,hq,k0,k1,k2,k3⟩:=HC.out i hlt;obtain⟨u,hu⟩: ∃u,u=xs[i]:=⟨_,rfl⟩;rw[←hu]at k0 k1 k2 k3;have hun:=HO.out xs[i] (List.getElem_mem hlt);have hud:=HDD.out xs[i] (List.getElem_mem hlt);rw[←hu]at hun hud;have hsucc:=dAcc_succ hlt;rw[←hu]at hsucc;have j0:wr.cell? ⟨q,o+i*4,none⟩=some u.x:=(hI.out.b.cell (p:=⟨q,_,none⟩) hq).trans k0;have j1:wr.cell? ⟨q,o+i*4+1,none⟩=some (.int .i64 (u.d:Int)):=(hI.out.b.cell (p:=⟨q,_,none⟩) hq).trans k1;have j2:wr.cell? ⟨q,o+i*4+2,none⟩=some u.s:=(hI.out.b.cell (p:=⟨q,_,none⟩) hq).trans k2;have j3:wr.cell? ⟨q,o+i*4+3,none⟩=some u.w:=(hI.out.b.cell (p:=⟨q,_,none⟩) hq).trans k3;have o4:[u.x,.int .i64 (u.d:Int),u.s,u.w].all (·.oneCell')=true:=by simp only[List.all_cons,hun.1,hun.2.1,hun.2.2,List.all_nil,Bool.and_true,Bool.true_and];rfl
   have HSU:=Lib.hid hsucc;clear k0 k1 k2 k3 hq hun hu hsucc;go_wp2_with (refine wpList_store_blk rfl 96 (.tmp 7) (.tmp 22) rfl wr.heap.size _ rfl rfl (Blk.new _ _ _) info_thing rfl o4 ?_);intro W2 hz2 hg2;have hb2:Below wr.heap.size wr W2:=below_grow ((Below.refl wr.heap.size wr).alloc (Nat.le_refl _) _) hg2 (by simp) (Nat.le_refl _);have hnb2:=hI.out.below hb2;have l1:W2.cell? ⟨wr.heap.size,1,none⟩=some (.int .i64 (u.d:Int)):=hz2.cell 1;have l5:W2.cell? ⟨W.heap.size+1,1,none⟩=some (.int .i64 (dAcc xs i:Int)):=hnb2.z5.cell 1;have g5:=hnb2.z5.frozen 1;have HN2:Hid (NB W (.iface 179 (.pointer (some ⟨g,0,none⟩))) (dAcc xs (i+1)) (W2.setCell ⟨W.heap.size+1,1,none⟩ (.int .i64 (max (dAcc xs i:Int) ((u.d:Int)+1))))):=Lib.hid (by
    have:=hnb2.set1 (d':=dAcc xs (i+1));rw[HSU.out,show ((max (dAcc xs i) (u.d+1):Nat):Int)=max (dAcc xs i:Int) ((u.d:Int)+1)by omega]at this;rw[HSU.out];exact this)
   clear hz2 hg2 hb2 hnb2 c1 j0 j1 j2 j3 o4 hI;go_wp2_with fail;go_roundw
   case rel=>exact⟨i+1,by go_num,Lib.hid hlt,HN2⟩
   case measure=>simp[intOf];omega
  ·have p1:((i:Int)<(xs.length:Int))=False:=eq_false (by omega);have p2:((128:Int)<(dAcc xs i:Int))=False:=eq_false (by omega);have hie:i=xs.length:=by have:=hi.out;omega
   have hd1:dAcc xs i=D:=by rw[hie];exact HX.out.1
   rw[hd1]at hI c1 p2;have hgw:=hI.out.b;have hgz:=HGZ.out.below hgw HGZ.out.lt;have hgl:=HGZ.out.lt;obtain⟨q,o,rfl,hq,k0,_⟩:=HC.out 0 n2;obtain⟨q',o',e',_,k0b,_⟩:=HC.out 1 n2b;injection e' with e'
   injection e' with e1 e2 _
   subst e1 e2;rw[HX.out.2.2.1 n2]at k0;rw[HX.out.2.2.2 n2b]at k0b;have j0:wr.drew.cell? ⟨q,o,none⟩=some (.iface tt y):=by
    have:=(hgw.drew.cell (p:=⟨q,o+0*4,none⟩) hq).trans k0;simpa using this
   have j0b:wr.drew.cell? ⟨q,o+4,none⟩=some (.iface t2 y2):=by
    have:=(hgw.drew.cell (p:=⟨q,o+1*4,none⟩) hq).trans k0b;simpa using this
   have k1:=hgz.cell 1;have f1:=hgz.frozen 1;have k2:=hgz.cell 2;have f2:=hgz.frozen 2;simp at k1 k2;clear hdi hd1 hie hq k0 k0b;go_upto_region 16 with(fail)
   go_region;obtain⟨WX,hWX⟩: ∃WX,WX=((wr.setCell ⟨g,1,none⟩ (.iface tt y)).setCell ⟨g,2,none⟩ (.iface t2 y2)).drew:=⟨_,rfl⟩;have HZ5:Hid (Blk WX (W.heap.size+1) 96 _):=Lib.hid (by rw[hWX];exact((hI.out.z5.far (p:=⟨g,1,none⟩) (by show W.heap.size+1≠g;omega) _).far (p:=⟨g,2,none⟩) (by show W.heap.size+1≠g;omega) _).drew);have HZ4:Hid (Blk WX W.heap.size 96 _):=Lib.hid (by rw[hWX];exact((hI.out.z4.far (p:=⟨g,1,none⟩) (by show W.heap.size≠g;omega) _).far (p:=⟨g,2,none⟩) (by show W.heap.size≠g;omega) _).drew);have hgs:Blk WX g 181 #[.string op,.iface tt y,.iface t2 y2,z3,z4,z5,z6,z7,z8]:=by rw[hWX];simpa using ((hgz.set_ 1 (.iface tt y)).set_ 2 (.iface t2 y2)).drew
   have hgx:W.grownBy WX (some g):=by rw[hWX];exact grow_trans (grow_trans (grow_trans (grown_below hgw _) (grown_set wr g 1 _)) (grown_set _ g 2 _)) (grown_below (Below.refl _ _).drew _)
   have HFF:Hid (∀W3,WX.grownBy W3 (some W.heap.size)→Blk W3 g 181 #[.string op,.iface tt y,.iface t2 y2,z3,z4,z5,z6,z7,z8]∧W.grownBy W3 (some g)):=Lib.hid fun W3 h3=>⟨hgs.grown h3 (by simp;omega),node_grown2 hgx h3⟩
   rw[←hWX];clear hI hgw hgz hgs hgl hgx k1 k2 f1 f2 j0 j0b c1 hWX;go_wp2_with (first|(refine wpList_load_blk rfl 96 (.tmp 5) rfl (W.heap.size+1) rfl HZ5.out Tryz.underlying96 info_thing ?_)|(refine wpList_store_blk rfl 96 (.tmp 4) (.tmp 118) rfl W.heap.size _ rfl rfl HZ4.out info_thing rfl rfl ?_;intro W3 hz3 hg3;have HZ3:=Lib.hid hz3;have HF:=Lib.hid (HFF.out W3 hg3);clear hz3 hg3));exact bodyPost_ret (results_blk Tryz.results102 rfl HZ3.out Tryz.underlying96 info_thing) rfl ⟨rfl,HF.out⟩
end Go.Proofs.YtibcjfjacielbaaGreatDoor
