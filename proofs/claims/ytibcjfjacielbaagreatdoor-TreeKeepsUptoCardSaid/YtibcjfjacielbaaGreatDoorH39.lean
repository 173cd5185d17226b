import Derived.Test.YtibcjfjacielbaaGreatDoorH36
import Derived.Test.YtibcjfjacielbaaGreatDoorH38
/- Part of the proof of YtibcjfjacielbaaGreatDoorCardH: TkO TkP. -/
set_option maxRecDepth 100000
set_option maxHeartbeats 4000000
set_option linter.unusedVariables false
set_option linter.unusedSimpArgs false
namespace Go.Proofs.YtibcjfjacielbaaGreatDoor
open Go.RowKit
theorem Agree.spare {B lo hi:Nat} {W0 W W':World} (h:Agree B W0 W) (hs:Spare lo hi W W') (h':hi≤B∨W0.heap.size≤lo):Agree B W0 W':=
 ⟨Nat.le_trans h.1 hs.1.size,fun k h1 h2=>by
  rcases h' with h'|h'
  ·exact(hs.2.2 k (Nat.le_trans h' h1) (Nat.lt_of_lt_of_le h2 h.1)).trans (h.2 k h1 h2)
  ·exact(hs.1.block k (Nat.lt_of_lt_of_le h2 h')).trans (h.2 k h1 h2)⟩
theorem own_agree {B b n sz:Nat} {W W':World} {e:TypeId} {v:Value} {xs:List Value} (h:W.ownsRow b e sz v n xs) (ha:Agree B W W') (hB:B≤b):W'.ownsRow b e sz v n xs:=by
 refine⟨h.1,?_⟩;rcases h.2 with hn|⟨g,cap,cur,rfl,hb,hg,hr⟩
 ·exact .inl hn
 ·exact .inr ⟨g,cap,cur,rfl,hb,(ha.2 g (Nat.le_trans hB hb) (Array.getElem?_eq_some_iff.1 hg).1).trans hg,hr⟩
theorem Px.agree {B b:Nat} {x:WI} {W W':World} (h:x.Px b W) (ha:Agree B W W') (hB:B≤b):x.Px b W':=
 ⟨⟨own_agree h.1.m ha hB,own_agree h.1.o ha hB,own_agree h.1.i ha hB,own_agree h.1.l ha hB,h.1.oi,h.1.ol,h.1.il⟩,h.2⟩
structure OR (lo:Nat) (W:World) (v:Value) (xs:List WI) (rs:List PR):Prop where
 own:W.ownsRow lo 58 17 v xs.length (xs.flatMap WI.cs)
 px: ∀z∈xs,z.Px lo W
 far:xs.Pairwise WI.Far
 key:xs.map (·.r)=rs
theorem OR.below {lo:Nat} {W W':World} {v:Value} {xs:List WI} {rs:List PR} (h:OR lo W v xs rs) (hb:Below W.heap.size W W'):OR lo W' v xs rs:=⟨own_belowE h.own hb,fun z hz=>(h.px z hz).below hb,h.far,h.key⟩
theorem OR.agree {lo B:Nat} {W W':World} {v:Value} {xs:List WI} {rs:List PR} (h:OR lo W v xs rs) (ha:Agree B W W') (hB:B≤lo):OR lo W' v xs rs:=⟨own_agree h.own ha hB,fun z hz=>Px.agree (h.px z hz) ha hB,h.far,h.key⟩
def WI.rv (x:WI):RV:=⟨x.r,x.m,x.o,x.i,x.l⟩
theorem flat_rv (xs:List WI):(xs.map WI.rv).flatMap rvC=xs.flatMap WI.cs:=by
 induction xs with
 |nil=>rfl
 |cons x xs ih=>rw[List.map_cons,List.flatMap_cons,List.flatMap_cons,ih];rfl
theorem OR.rows {lo:Nat} {W:World} {v:Value} {xs:List WI} {rs:List PR} (h:OR lo W v xs rs):RowsC W v rs:=by
 have h1:=h.own;rw[←flat_rv,show xs.length=(xs.map WI.rv).length by simp]at h1;have:=RowsC.of_own h1 fun x hx=>by
  obtain⟨z,hz,rfl⟩:=List.mem_map.1 hx;exact(h.px z hz).1.ls.lo (Nat.zero_le _)
 rw[List.map_map]at this;rw[←h.key];exact this
theorem OR.spj {lo:Nat} {W:World} {v:Value} {xs:List WI} {rs:List PR} (h:OR lo W v xs rs):SpJ lo lo v xs 0 W:=⟨h.own,fun i hi=>⟨fun h'=>absurd h' (Nat.not_lt_zero _),fun _=>(h.px _ (List.getElem_mem hi)).1⟩⟩
theorem OR.fx {lo hi:Nat} {W0 W:World} {v:Value} {xs:List WI} {rs:List PR} (h:OR lo W0 v xs rs) (hh:W0.heap.size=hi) (hl: ∀r∈rs,LenOK r) (hlo:lo≤hi) (hw:hi≤W.heap.size):Fx W lo hi xs:=by
 subst hh;refine⟨h.far,fun x hx u hu q hq=>?_,fun x hx=>?_,fun x hx=>hl _ (by rw[←h.key];exact List.mem_map.2 ⟨x,hx,rfl⟩),Nat.le_trans hlo hw,hw⟩
 ·have hp:=(h.px x hx).1;simp only[List.mem_cons,List.not_mem_nil,or_false]at hu;rcases hu with rfl|rfl|rfl|rfl
  ·exact(hp.m.lt q hq).2
  ·exact(hp.o.lt q hq).2
  ·exact(hp.i.lt q hq).2
  ·exact(hp.l.lt q hq).2
 ·have hp:=(h.px x hx).1;exact⟨hp.oi,hp.ol,hp.il⟩
theorem OR.len {lo:Nat} {W:World} {v:Value} {xs:List WI} {rs:List PR} (h:OR lo W v xs rs):xs.length=rs.length:=by rw[←h.key,List.length_map]
theorem CopyPost.or {w w':World} {rs:List PR} {e:Ending} (h:CopyPost w rs e w'): ∃ao n c xs,e= .returned (.slice ao n c)∧OR w.heap.size w' (.slice ao n c) xs rs∧Below w.heap.size w w':=by
 obtain⟨vv,xs,rfl,h1,h2,h3,h4,h5⟩:=h;obtain⟨ao,n,c,rfl⟩:=own_sl h2;exact⟨ao,n,c,xs,rfl,⟨h2,h3,h4,h1⟩,h5⟩
theorem RowsPost.or {w w':World} {L:List (Nat×PR)} {rs:List PR} {e:Ending} (h:RowsPost w L e w') (hL:L.map (·.2)=rs): ∃ao n c xs,e= .returned (.slice ao n c)∧OR w.heap.size w' (.slice ao n c) xs rs∧Below w.heap.size w w':=by
 obtain⟨vv,xs,rfl,h1,h2,h3,h4,h5⟩:=h;obtain⟨ao,n,c,rfl⟩:=own_sl h2;refine⟨ao,n,c,xs,rfl,⟨h2,h3,h4,?_⟩,h5⟩;rw[←hL,←h1,List.map_map];rfl
structure OS (lo:Nat) (W:World) (v:Value) (zs:List (SelR×Value)) (ss:List SelR):Prop where
 own:W.ownsRow lo 36 4 v zs.length (zs.flatMap selC)
 x:SelX lo W zs
 key:zs.map (·.1)=ss
theorem OS.below {lo:Nat} {W W':World} {v:Value} {zs:List (SelR×Value)} {ss:List SelR} (h:OS lo W v zs ss) (hb:Below W.heap.size W W'):OS lo W' v zs ss:=⟨own_belowE h.own hb,h.x.below hb,h.key⟩
theorem OS.agree {lo B:Nat} {W W':World} {v:Value} {zs:List (SelR×Value)} {ss:List SelR} (h:OS lo W v zs ss) (ha:Agree B W W') (hB:B≤lo):OS lo W' v zs ss:=⟨own_agree h.own ha hB,⟨fun z hz=>own_agree (h.x.1 z hz) ha hB,h.x.2⟩,h.key⟩
theorem OS.sels {lo:Nat} {W:World} {v:Value} {zs:List (SelR×Value)} {ss:List SelR} (h:OS lo W v zs ss):SelS W v ss:=by
 rw[←h.key];exact SelS.of_own h.own fun z hz=>(MatS.of_own (h.x.1 z hz)).lo (Nat.zero_le _)
theorem SelsPost2.os {w w':World} {L:List (Nat×PR)} {rs:List PR} {e:Ending} (h:SelsPost2 w L e w') (hL:L.map (·.2)=rs): ∃ao n c zs,e= .returned (.slice ao n c)∧OS w.heap.size w' (.slice ao n c) zs (selsOf rs)∧Below w.heap.size w w':=by
 obtain⟨vv,zs,rfl,h1,h2,_,h4,h5⟩:=h;obtain⟨ao,n,c,rfl⟩:=own_sl h2;exact⟨ao,n,c,zs,rfl,⟨h2,h5,by rw[h1,hL]⟩,h4⟩
def cw (z:SelR×Value):WI:=⟨0,{zr 0 0 with ms:=z.1.ms},z.2,.slice none 0 0,.slice none 0 0,.slice none 0 0⟩
theorem OS.spj {lo b:Nat} {W:World} {v cv:Value} {zs:List (SelR×Value)} {ss:List SelR} (h:OS lo W v zs ss) (ho:W.ownsRow b 58 17 cv zs.length ((zs.map cw).flatMap WI.cs)):SpJ lo b cv (zs.map cw) 0 W:=by
 refine⟨by rw[List.length_map];exact ho,fun i hi=>⟨fun h'=>absurd h' (Nat.not_lt_zero _),fun _=>?_⟩⟩;have hi':i<zs.length:=by simpa using hi
 rw[List.getElem_map];exact⟨h.x.1 _ (List.getElem_mem hi'),strO_none _ _,strO_none _ _,strO_none _ _,apart_none _,apart_none _,apart_none _⟩
theorem nil_apart (v:Value):Apart v (.slice none 0 0):=fun g _ h=>by simp[Value.ownBlock]at h
theorem OS.fx {lo hi:Nat} {W0 W:World} {v:Value} {zs:List (SelR×Value)} {ss:List SelR} (h:OS lo W0 v zs ss) (hh:W0.heap.size=hi) (hl: ∀s∈ss,s.ms.length≤1099511627776) (hlo:lo≤hi) (hw:hi≤W.heap.size):Fx W lo hi (zs.map cw):=by
 subst hh;refine⟨?_,fun x hx u hu q hq=>?_,fun x hx=>?_,fun x hx=>?_,Nat.le_trans hlo hw,hw⟩
 ·rw[List.pairwise_map];refine h.x.2.imp fun {a b} hab=>?_
  intro u hu v hv;simp only[cw,List.mem_cons,List.not_mem_nil,or_false]at hu hv;rcases hu with rfl|rfl|rfl|rfl
  ·rcases hv with rfl|rfl|rfl|rfl
   ·exact hab
   ·exact nil_apart _
   ·exact nil_apart _
   ·exact nil_apart _
  ·exact apart_none _
  ·exact apart_none _
  ·exact apart_none _
 ·obtain⟨z,hz,rfl⟩:=List.mem_map.1 hx;simp only[cw,List.mem_cons,List.not_mem_nil,or_false]at hu;rcases hu with rfl|rfl|rfl|rfl
  ·exact((h.x.1 z hz).lt q hq).2
  all_goals simp[Value.ownBlock]at hq
 ·obtain⟨z,hz,rfl⟩:=List.mem_map.1 hx;exact⟨apart_none _,apart_none _,apart_none _⟩
 ·obtain⟨z,hz,rfl⟩:=List.mem_map.1 hx;exact⟨hl _ (by rw[←h.key];exact List.mem_map.2 ⟨z,hz,rfl⟩),by simp[cw,zr],by simp[cw,zr],by simp[cw,zr]⟩
def MapTree (w:World) (L:List (Nat×PR)) (e:Ending) (w':World):Prop:=
 ∃t g L',e= .returned (.agg #[.iface t (.pointer (some ⟨g,0,none⟩))])∧TreeAt w.heap.size w' 1 (.iface t (.pointer (some ⟨g,0,none⟩))) L'∧L'.length=L.length∧Below w.heap.size w w'
theorem tree_Map {T:Nat→World→Prop} (hT:NumT (fun _=>True) T) (hS:SoundC T) {b:Nat} {w:World} {t:TypeId} {g:Nat} {L:List (Nat×PR)} (ht:TreeAt b w 1 (.iface t (.pointer (some ⟨g,0,none⟩))) L) (hR: ∀x∈L,soundRow x.2=true∧LenOK x.2) (hLn:L.length≤1099511627776) (hTw:T w.heap.size w):
  Calls Tryz.prog 35 #[.agg #[.iface t (.pointer (some ⟨g,0,none⟩))],.func (.func 36) #[] #[]] w (MapTree w L):=by
 obtain⟨W1,hW1⟩: ∃W1,W1=(w.alloc (.cells #[.iface t (.pointer (some ⟨g,0,none⟩))] 26)).alloc (.cells #[.nilIface] 26):=⟨_,rfl⟩;have hb1:Below w.heap.size w W1:=by rw[hW1];exact((Below.refl _ w).alloc (Nat.le_refl _) _).alloc (by simp) _
 have hz1:Blk W1 (w.heap.size+1) 26 #[.nilIface]:=by
  rw[hW1];have:=Blk.new (w.alloc (.cells #[.iface t (.pointer (some ⟨g,0,none⟩))] 26)) 26 #[.nilIface];simpa using this
 have hz0:Blk W1 w.heap.size 26 #[.iface t (.pointer (some ⟨g,0,none⟩))]:=by rw[hW1];exact(Blk.new _ _ _).alloc _
 have HC:=Lib.hid (tree_mapped hT hS ht hR hLn W1 hb1 (hT.mono (hT.keep hTw hb1) hb1.size));have HB1:=Lib.hid hb1;have HZ1:=Lib.hid hz1;have c0:W1.cell? ⟨w.heap.size,0,none⟩=some (.iface t (.pointer (some ⟨g,0,none⟩))):=hz0.cell 0;have HW1:=Lib.hid hW1;clear ht hR hLn hTw hb1 hz1 hz0 hW1;go_enter Tryz.func35,Tryz.ntmps35;go_upto_region 1 with(fail)
 rw[←HW1.out];go_wp2_with fail;refine HC.out.mono ?_;rintro e W2 ⟨v,L',rfl,htn,hln,hb2⟩;obtain⟨tt,gg,rfl⟩:=htn.iface;have hz2:=HZ1.out.below hb2 HZ1.out.lt;have k0:=hz2.cell 0;have f0:=hz2.frozen 0;simp at k0;have HB2:Hid (Below w.heap.size w W2):=Lib.hid (HB1.out.trans (hb2.mono HB1.out.size));have hA:=agree_set W2 ⟨w.heap.size+1,0,none⟩ (.iface tt (.pointer (some ⟨gg,0,none⟩)));have HF:Hid (MapTree w L (.returned (.agg #[.iface tt (.pointer (some ⟨gg,0,none⟩))])) (W2.setCell ⟨w.heap.size+1,0,none⟩ (.iface tt (.pointer (some ⟨gg,0,none⟩))))):=Lib.hid ⟨tt,gg,L',rfl,((htn.lo (by have:=HZ1.out.lt;exact this)).agree hA).lo (by simp;omega),hln,HB2.out.setCell (p:=⟨w.heap.size+1,0,none⟩) (by simp) _⟩;have s0:=hz2.lt;clear htn hln hb2 hz2 hA;go_wp2_with fail;refine bodyPost_ret (v:=.agg #[.iface tt (.pointer (some ⟨gg,0,none⟩))]) ?_ rfl HF.out;simp[results,Tryz.results35,go_sem,k0]
def PairR (W6 wx:World) (rs:List PR) (t6 t7:Value):Prop:=
 ∃(lo hi:Nat) (xs:List WI),OR lo wx t6 xs rs∧(∀W:World,hi≤W.heap.size→Fx W lo hi xs)∧W6.heap.size≤lo∧hi≤wx.heap.size∧
  (∃(B:Nat) (W0:World),(∀W,Agree B W0 W→RowsS 0 W t7 rs)∧Agree B W0 wx∧(hi≤B∨W0.heap.size≤lo))∧Below W6.heap.size W6 wx
theorem OR.held {lo:Nat} {W0:World} {v:Value} {xs:List WI} {rs:List PR} (h:OR lo W0 v xs rs): ∀W,Agree lo W0 W→RowsS 0 W v rs:=fun _ ha=>(h.agree ha (Nat.le_refl _)).rows.1
theorem PairR.mk1 {W6 Wa Wb:World} {rs:List PR} {ta tb:Value} {xs ys:List WI} (hl: ∀r∈rs,LenOK r) (ha:OR W6.heap.size Wa ta xs rs) (h1:Below W6.heap.size W6 Wa) (hb:OR Wa.heap.size Wb tb ys rs) (h2:Below Wa.heap.size Wa Wb):PairR W6 Wb rs ta tb:=
 ⟨W6.heap.size,Wa.heap.size,xs,ha.below h2,fun W hW=>ha.fx rfl hl h1.size hW,Nat.le_refl _,h2.size,⟨Wa.heap.size,Wb,hb.held,Agree.refl _ _,.inl (Nat.le_refl _)⟩,h1.trans (h2.mono h1.size)⟩
theorem PairR.mk2 {W6 Wa Wb:World} {rs:List PR} {ta tb:Value} {xs ys:List WI} (hl: ∀r∈rs,LenOK r) (hb:OR W6.heap.size Wb tb ys rs) (h1:Below W6.heap.size W6 Wb) (ha:OR Wb.heap.size Wa ta xs rs) (h2:Below Wb.heap.size Wb Wa):PairR W6 Wa rs ta tb:=
 ⟨Wb.heap.size,Wa.heap.size,xs,ha,fun W hW=>ha.fx rfl hl h2.size hW,h1.size,Nat.le_refl _,⟨W6.heap.size,Wb,hb.held,(Agree.refl _ _).below h2,.inr (Nat.le_refl _)⟩,h1.trans (h2.mono h1.size)⟩
def PairS (W6 wx:World) (ss:List SelR) (t8 t9:Value):Prop:=
 ∃(lo hi:Nat) (zs:List (SelR×Value)),OS lo wx t8 zs ss∧(∀W:World,hi≤W.heap.size→Fx W lo hi (zs.map cw))∧W6.heap.size≤lo∧hi≤wx.heap.size∧
  (∃(B:Nat) (W0:World),(∀W,Agree B W0 W→SelS W t9 ss)∧Agree B W0 wx∧(hi≤B∨W0.heap.size≤lo)∧W6.heap.size≤B)∧Below W6.heap.size W6 wx
theorem OS.held {lo:Nat} {W0:World} {v:Value} {zs:List (SelR×Value)} {ss:List SelR} (h:OS lo W0 v zs ss): ∀W,Agree lo W0 W→SelS W v ss:=fun _ ha=>(h.agree ha (Nat.le_refl _)).sels
theorem PairS.mk1 {W6 Wa Wb:World} {ss:List SelR} {ta tb:Value} {xs ys:List (SelR×Value)} (hl: ∀s∈ss,s.ms.length≤1099511627776) (ha:OS W6.heap.size Wa ta xs ss) (h1:Below W6.heap.size W6 Wa) (hb:OS Wa.heap.size Wb tb ys ss) (h2:Below Wa.heap.size Wa Wb):PairS W6 Wb ss ta tb:=
 ⟨W6.heap.size,Wa.heap.size,xs,ha.below h2,fun W hW=>ha.fx rfl hl h1.size hW,Nat.le_refl _,h2.size,⟨Wa.heap.size,Wb,hb.held,Agree.refl _ _,.inl (Nat.le_refl _),h1.size⟩,h1.trans (h2.mono h1.size)⟩
theorem PairS.mk2 {W6 Wa Wb:World} {ss:List SelR} {ta tb:Value} {xs ys:List (SelR×Value)} (hl: ∀s∈ss,s.ms.length≤1099511627776) (hb:OS W6.heap.size Wb tb ys ss) (h1:Below W6.heap.size W6 Wb) (ha:OS Wb.heap.size Wa ta xs ss) (h2:Below Wb.heap.size Wb Wa):PairS W6 Wa ss ta tb:=
 ⟨Wb.heap.size,Wa.heap.size,xs,ha,fun W hW=>ha.fx rfl hl h2.size hW,h1.size,Nat.le_refl _,⟨W6.heap.size,Wb,hb.held,(Agree.refl _ _).below h2,.inr (Nat.le_refl _),Nat.le_refl _⟩,h1.trans (h2.mono h1.size)⟩
theorem sel_cells {lo:Nat} {W:World} {ao:Option Addr} {n c:Nat} {zs:List (SelR×Value)} {ss:List SelR} (h:OS lo W (.slice ao n c) zs ss):n=zs.length∧ ∀j (hj:j<zs.length),∃g o am nm cm,ao=some ⟨g,o,none⟩∧W.cell? ⟨g,o+j*4+1,none⟩=some (.slice am nm cm)∧zs[j].2= .slice am nm cm:=by
 obtain⟨ao',c',hv,hc⟩:=own_flat selC 4 (fun _=>rfl) zs h.own;injection hv with e1 e2 e3
 subst e1 e3;refine⟨e2,fun j hj=>?_⟩;obtain⟨g,o,ha,_,_,hk⟩:=hc j hj;obtain⟨am,nm,cm,hz⟩:=own_sl (h.x.1 _ (List.getElem_mem hj));exact⟨g,o,am,nm,cm,ha,(hk 1 (by omega)).trans (by rw[←hz];rfl),hz⟩
theorem cw_cells (z:SelR×Value):(cw z).cs=[.int .i64 0,.int .i64 0,.string ⟨#[]⟩,.string ⟨#[]⟩,z.2,.string ⟨#[]⟩,.string ⟨#[]⟩,.string ⟨#[]⟩,.string ⟨#[]⟩,.bool false,.bool false,.bool false,.slice none 0 0,.int .i64 0,.slice none 0 0,.bool false,.slice none 0 0]:=rfl
theorem one17c (am:Option Addr) (nm cm:Nat): ∀u∈[Value.int .i64 0,.int .i64 0,.string ⟨#[]⟩,.string ⟨#[]⟩,.slice am nm cm,.string ⟨#[]⟩,.string ⟨#[]⟩,.string ⟨#[]⟩,.string ⟨#[]⟩,.bool false,.bool false,.bool false,.slice none 0 0,.int .i64 0,.slice none 0 0,.bool false,.slice none 0 0],u.oneCell'=true:=by
 intro u hu;simp only[List.mem_cons,List.not_mem_nil,or_false]at hu;rcases hu with rfl|rfl|rfl|rfl|rfl|rfl|rfl|rfl|rfl|rfl|rfl|rfl|rfl|rfl|rfl|rfl|rfl<;>rfl
theorem cw_take {zs:List (SelR×Value)} {k:Nat} (hk:k<zs.length) {am:Option Addr} {nm cm:Nat} (hz:zs[k].2= .slice am nm cm):((zs.take (k+1)).map cw).flatMap WI.cs=((zs.take k).map cw).flatMap WI.cs++[.int .i64 0,.int .i64 0,.string ⟨#[]⟩,.string ⟨#[]⟩,.slice am nm cm,.string ⟨#[]⟩,.string ⟨#[]⟩,.string ⟨#[]⟩,.string ⟨#[]⟩,.bool false,.bool false,.bool false,.slice none 0 0,.int .i64 0,.slice none 0 0,.bool false,.slice none 0 0]:=by
 rw[List.take_succ_eq_append_getElem hk,List.map_append,List.flatMap_append,List.map_cons,List.map_nil,List.flatMap_cons,List.flatMap_nil,List.append_nil,cw_cells,hz]
theorem law_TreeKeeps {T:Nat→World→Prop} (hT:NumT (fun _=>True) T) (w:World) (ao:Option Addr) (na ca:Nat) (rs:List PR) (h:RowsC w (.slice ao na ca) rs) (hlen:rs.length≤1048576) (hsm: ∀r∈rs,SmallR r) (hTw:T w.heap.size w):
  Calls Tryz.prog 8 #[.slice ao na ca] w (BoolPost w true):=by
 have HS:=Lib.hid (tree_sound hT);have HT:Hid (∀W,Below w.heap.size w W→T W.heap.size W):=Lib.hid fun W h=>hT.mono (hT.keep hTw h) h.size
 have HAW:=Lib.hid (law12_awake hT w hTw);have hna:na=rs.length:=by obtain⟨_,_,hv,_⟩:=h.2;injection hv
 have HLN:Hid (∀r∈rs,LenOK r):=Lib.hid fun r hr=>(hsm r hr).len
 have HSL:Hid (∀s∈selsOf rs,s.ms.length≤1099511627776):=Lib.hid (sels_small hsm);have HSM:=Lib.hid hsm;have HNA:=Lib.hid hna;have HRW:Hid (∀W,Below w.heap.size w W→RowsS 0 W (.slice ao na ca) rs):=Lib.hid fun W hb=>h.1.below hb
 have hna2:na≤1048576:=by omega
 have HN4:Hid (rs.length≤1048576):=Lib.hid hlen;clear h hlen hsm hTw hna;go_enter Tryz.func8,Tryz.ntmps8;go_wp2_with fail;refine HAW.out.mono ?_;rintro e w1 ⟨rfl,hb1⟩;have HB1:=Lib.hid hb1;clear hb1;by_cases hbig:65536<na
 ·have p1:((65536:Int)<(na:Int))=True:=eq_true (by omega);go_wp2_with fail;go_ret;exact⟨rfl,HB1.out⟩
 have p1:((65536:Int)<(na:Int))=False:=eq_false (by omega);go_wp2_with fail;refine(ref_Copy (HRW.out _ HB1.out) (by have:=HN4.out;omega) HLN.out).mono ?_;intro e w2 hp;obtain⟨ao2,n2,c2,xs,rfl,hor,hb2⟩:=hp.or;have HO2:=Lib.hid hor;have HB12:=Lib.hid hb2;have HB2:Hid (Below w.heap.size w w2):=Lib.hid (HB1.out.trans (hb2.mono HB1.out.size));clear hp hor hb2;go_wp2_with fail;refine(tree_Build hT HO2.out.rows HN4.out HSM.out (HT.out _ HB2.out)).mono ?_;rintro e w3 ⟨v,rfl,hroot,hb3⟩;have ov:[v].all (·.oneCell')=true:=by simp[hroot.one]
 have HR3:=Lib.hid hroot;have HB23:=Lib.hid hb3;clear hb3 hroot;go_upto_region 7 with(refine wpList_store_blk rfl 26 (.tmp 4) (.tmp 23) rfl w3.heap.size _ rfl rfl (Blk.new _ _ _) info_tree rfl ov ?_)
 intro W4 hz4 hg4;go_upto_region 7 with(fail)
 have hb34:Below w3.heap.size w3 W4:=below_grow ((Below.refl w3.heap.size w3).alloc (Nat.le_refl _) _) hg4 (by simp) (Nat.le_refl _);have HB24:Hid (Below w2.heap.size w2 W4):=Lib.hid (HB23.out.trans (hb34.mono HB23.out.size));have HB4:Hid (Below w.heap.size w W4):=Lib.hid (HB2.out.trans (HB24.out.mono HB2.out.size));have HR4:Hid (RootAt w2.heap.size W4 v (treeOf rs)):=Lib.hid (HR3.out.below hb34);have HZ4:=Lib.hid hz4;have HB34:=Lib.hid hb34;clear hz4 hg4 hb34;by_cases he:buildErr rs=0
 ·obtain⟨t,g,rfl⟩:=HR4.out.some_ he;have HE:=Lib.hid he;have HTREE:Hid (∀W,Agree w2.heap.size W4 W→TreeAt 0 W 1 (.iface t (.pointer (some ⟨g,0,none⟩))) (treeOf rs)∧W.cell? ⟨w3.heap.size,0,none⟩=some (.iface t (.pointer (some ⟨g,0,none⟩)))):=Lib.hid fun W ha=>by
   refine⟨?_,(ha.cell HB23.out.size HZ4.out.lt).trans (HZ4.out.cell 0)⟩;rcases HR4.out with⟨h,_⟩|h
   ·cases h
   ·exact(h.agree ha).lo (Nat.zero_le _)
  rw[he];clear he HR3 ov;go_wp2_with fail;refine(ref_Same (HO2.out.below HB24.out).rows.1 (HRW.out _ HB4.out) (by have:=HN4.out;omega) HLN.out).mono ?_;rintro e W5 ⟨rfl,hb5⟩;have HB25:Hid (Below w2.heap.size w2 W5):=Lib.hid (HB24.out.trans (hb5.mono HB24.out.size));have HA5:Hid (Agree w2.heap.size W4 W5):=Lib.hid ((Agree.refl _ _).below hb5);clear hb5;go_wp2_with fail;refine(spoil_is (lo:=w1.heap.size) (b:=w1.heap.size) (hi:=w2.heap.size) (HO2.out.below HB25.out).spj (HO2.out.fx rfl HLN.out HB12.out.size HB25.out.size) (by have:=HO2.out.len;have:=HN4.out;omega)).mono ?_;rintro e W6 ⟨rfl,hsp⟩;have HA6:Hid (Agree w2.heap.size W4 W6):=Lib.hid (HA5.out.spare hsp (.inl (Nat.le_refl _)));have HB6:Hid (Below w.heap.size w W6):=Lib.hid (((HB2.out.trans (HB25.out.mono HB2.out.size))).trans (hsp.1.mono HB1.out.size));have c6:W6.drew.cell? ⟨w3.heap.size,0,none⟩=some (.iface t (.pointer (some ⟨g,0,none⟩))):=(HTREE.out W6 HA6.out).2;have HW46:Hid (W4.heap.size≤W6.heap.size):=Lib.hid HA6.out.1;have HTL:=Lib.hid (len_tree HE.out);have HTR:=Lib.hid (rows_tree HE.out);have HTM:Hid (∀x∈treeOf rs,soundRow x.2=true∧LenOK x.2):=Lib.hid fun x hx=>⟨List.all_eq_true.1 (shape_parts (build_ok.1 HE.out).1).2.1 _ (mem_tree HE.out hx),HLN.out _ (mem_tree HE.out hx)⟩
  have HAW6:Hid (∀W,Below W6.heap.size W6 W→Agree w2.heap.size W4 W):=Lib.hid fun W h=>HA6.out.below h
  have HROWS:Hid (∀W,Agree w2.heap.size W4 W→Calls Tryz.prog 29 #[.agg #[.iface t (.pointer (some ⟨g,0,none⟩))]] W (RowsPost W (treeOf rs))):=Lib.hid fun W ha=>tree_Rows (.inr (HTREE.out W ha).1) (by have:=HTL.out;have:=HN4.out;omega) (fun x hx=>(HTM.out x hx).2)
  have HSELS:Hid (∀W,Agree w2.heap.size W4 W→Calls Tryz.prog 16 #[.agg #[.iface t (.pointer (some ⟨g,0,none⟩))]] W (SelsPost2 W (treeOf rs))):=Lib.hid fun W ha=>tree_Selectors2 (.inr (HTREE.out W ha).1) (by have:=HTL.out;have:=HN4.out;omega) (fun x hx=>(HTM.out x hx).2)
  clear hsp HA5;go_upto_region 12 with(fail)
  go_cut [6,7]from 36 to 39 (fun t6 t7 wx=> ∃a6 n6 k6 a7 n7 k7,t6= .slice a6 n6 k6∧t7= .slice a7 n7 k7∧Hid (PairR W6 wx rs (.slice a6 n6 k6) (.slice a7 n7 k7)))
  case first=>
   go_region_law (first|(go_simp;go_at_call 29;(with_reducible refine(HROWS.out _ (HAW6.out _ HBA.out)).mono ?_);rintro e Wb hpb;obtain⟨ab,nb,kb,ys,rfl,horb,hbb⟩:=hpb.or HTR.out;have HORB:=Lib.hid horb;have HBB:=Lib.hid hbb;clear hpb horb hbb)|(go_simp;go_at_call 29;(with_reducible refine(HROWS.out _ (HAW6.out _ (Below.refl _ _).drew)).mono ?_);rintro e Wa hpa;obtain⟨aa,na6,ka,ys6,rfl,hora,hba⟩:=hpa.or HTR.out;have HORA:Hid (OR W6.heap.size Wa (.slice aa na6 ka) ys6 rs):=Lib.hid hora;have HBA:Hid (Below W6.heap.size W6 Wa):=Lib.hid ((Below.refl _ _).drew.trans hba);have ca6:Wa.cell? ⟨w3.heap.size,0,none⟩=some (.iface t (.pointer (some ⟨g,0,none⟩))):=(HTREE.out Wa (HAW6.out _ HBA.out)).2;clear hpa hora hba))
   all_goals
    go_wp2_with fail;go_meet
    first
     |exact⟨_,_,_,_,_,_,rfl,rfl,Lib.hid (PairR.mk1 HLN.out HORA.out HBA.out HORB.out HBB.out)⟩
     |exact⟨_,_,_,_,_,_,rfl,rfl,Lib.hid (PairR.mk2 HLN.out HORA.out HBA.out HORB.out HBB.out)⟩
  case rest=>
   obtain⟨a6,n6,k6,a7,n7,k7,rfl,rfl,HPR⟩:=hcut;obtain⟨W7,rfl⟩: ∃W7,W7=wc:=⟨_,rfl⟩;obtain⟨loA,hiA,xa,hora,hfxA,hloA,hhiA,⟨Bb,Wb,hheld,hagb,hdisj⟩,hb67⟩:=HPR.out;have HORA:=Lib.hid hora;have HFXA:=Lib.hid hfxA;have HAD:=Lib.hid (And.intro hloA (And.intro hhiA hdisj));have HHB:=Lib.hid hheld;have HAGB:=Lib.hid hagb;have HB67:=Lib.hid hb67;have HB7:Hid (Below w.heap.size w W7):=Lib.hid (HB6.out.trans (hb67.mono HB6.out.size));have HAW7:Hid (∀W,Below W7.heap.size W7 W→Agree w2.heap.size W4 W):=Lib.hid fun W h=>(HAW6.out _ HB67.out).below h
   have c7:W7.drew.cell? ⟨w3.heap.size,0,none⟩=some (.iface t (.pointer (some ⟨g,0,none⟩))):=(HTREE.out W7 (HAW6.out _ hb67)).2;clear hora hfxA hloA hhiA hheld hagb hdisj hb67 HPR c6;go_upto_region 13 with(fail)
   go_cut [8,9]from 40 to 43 (fun t8 t9 wx=> ∃a8 n8 k8 a9 n9 k9,t8= .slice a8 n8 k8∧t9= .slice a9 n9 k9∧Hid (PairS W7 wx (selsOf rs) (.slice a8 n8 k8) (.slice a9 n9 k9)))
   case first=>
    go_region_law (first|(go_simp;go_at_call 16;(with_reducible refine(HSELS.out _ (HAW7.out _ HBA.out)).mono ?_);rintro e Wb hpb;obtain⟨ab,nb,kb,ys,rfl,horb,hbb⟩:=hpb.os HTR.out;have HORB:=Lib.hid horb;have HBB:=Lib.hid hbb;clear hpb horb hbb)|(go_simp;go_at_call 16;(with_reducible refine(HSELS.out _ (HAW7.out _ (Below.refl _ _).drew)).mono ?_);rintro e Wa hpa;obtain⟨aa,na6,ka,ys6,rfl,hora,hba⟩:=hpa.os HTR.out;have HOSA:Hid (OS W7.heap.size Wa (.slice aa na6 ka) ys6 (selsOf rs)):=Lib.hid hora;have HBA:Hid (Below W7.heap.size W7 Wa):=Lib.hid ((Below.refl _ _).drew.trans hba);have ca6:Wa.cell? ⟨w3.heap.size,0,none⟩=some (.iface t (.pointer (some ⟨g,0,none⟩))):=(HTREE.out Wa (HAW7.out _ HBA.out)).2;clear hpa hora hba))
    all_goals
     go_wp2_with fail;go_meet
     first
      |exact⟨_,_,_,_,_,_,rfl,rfl,Lib.hid (PairS.mk1 HSL.out HOSA.out HBA.out HORB.out HBB.out)⟩
      |exact⟨_,_,_,_,_,_,rfl,rfl,Lib.hid (PairS.mk2 HSL.out HOSA.out HBA.out HORB.out HBB.out)⟩
   case rest=>
    obtain⟨a8,n8,k8,a9,n9,k9,rfl,rfl,HPS⟩:=hcut;obtain⟨W8,rfl⟩: ∃W8,W8=wc:=⟨_,rfl⟩;obtain⟨loS,hiS,zs,hos,hfxS,hloS,hhiS,⟨By,Wy,hheld,hagy,hdisj,hWB⟩,hb78⟩:=HPS.out;have HOS:=Lib.hid hos;have HFXS:=Lib.hid hfxS;have HSD:=Lib.hid (And.intro hloS (And.intro hhiS (And.intro hdisj hWB)));have HHY:=Lib.hid hheld;have HAGY:=Lib.hid hagy;have HB78:=Lib.hid hb78;have HB8:Hid (Below w.heap.size w W8):=Lib.hid (HB7.out.trans (hb78.mono HB7.out.size));have HMAP:=Lib.hid (tree_Map hT HS.out (HTREE.out W8 (HAW7.out _ hb78)).1 HTM.out (by have:=HTL.out;have:=HN4.out;omega) (HT.out _ HB8.out));have c8:W8.cell? ⟨w3.heap.size,0,none⟩=some (.iface t (.pointer (some ⟨g,0,none⟩))):=(HTREE.out W8 (HAW7.out _ hb78)).2;clear hos hfxS hloS hhiS hheld hagy hdisj hWB hb78 HPS c7;go_wp2_with fail
    (with_reducible refine HMAP.out.mono ?_)
    rintro e W9 ⟨tm,gm,Lm,rfl,htm,hlm,hb9⟩;have HTMM:=Lib.hid htm;have HLM:Hid (Lm.length=na):=Lib.hid (by rw[hlm,HTL.out,←HNA.out]);have HB9:=Lib.hid hb9;clear htm hlm hb9 c8;go_wp2_with (refine wpList_store_blk rfl 26 (.tmp 10) (.tmp 45) rfl W9.heap.size _ rfl rfl (Blk.new _ _ _) info_tree rfl rfl ?_);intro WA hzA hgA;have hb9A:Below W9.heap.size W9 WA:=below_grow ((Below.refl W9.heap.size W9).alloc (Nat.le_refl _) _) hgA (by simp) (Nat.le_refl _);have HB8A:Hid (Below W8.heap.size W8 WA):=Lib.hid (HB9.out.trans (hb9A.mono HB9.out.size));have HM:Hid (∀W,Agree W8.heap.size WA W→TreeAt 0 W 1 (.iface tm (.pointer (some ⟨gm,0,none⟩))) Lm∧W.cell? ⟨W9.heap.size,0,none⟩=some (.iface tm (.pointer (some ⟨gm,0,none⟩)))):=Lib.hid fun W ha=>⟨((HTMM.out.later hb9A).agree ha).lo (Nat.zero_le _),(ha.cell HB9.out.size hzA.lt).trans (hzA.cell 0)⟩
    have HBA:Hid (Below w.heap.size w WA):=Lib.hid (HB8.out.trans (HB8A.out.mono HB8.out.size));have HB7A:Hid (Below W7.heap.size W7 WA):=Lib.hid (HB78.out.trans (HB8A.out.mono HB78.out.size));clear hzA hgA hb9A;go_wp2_with fail;refine(ref_Same (HORA.out.below HB7A.out).rows.1 (HRW.out _ HBA.out) (by have:=HN4.out;omega) HLN.out).mono ?_;rintro e WB ⟨rfl,hbB⟩;have HBAB:=Lib.hid hbB;have HB7B:Hid (Below W7.heap.size W7 WB):=Lib.hid (HB7A.out.trans (hbB.mono HB7A.out.size));have HB8B:Hid (Below W8.heap.size W8 WB):=Lib.hid (HB8A.out.trans (hbB.mono HB8A.out.size));clear hbB;go_wp2_with fail;refine(spoil_is (HORA.out.below HB7B.out).spj (HFXA.out _ (Nat.le_trans HAD.out.2.1 HB7B.out.size)) (by have:=HORA.out.len;have:=HN4.out;omega)).mono ?_;rintro e WC ⟨rfl,hsp⟩;have hA7:hiA≤W7.heap.size:=HAD.out.2.1;have hA8:hiA≤W8.heap.size:=Nat.le_trans hA7 HB78.out.size;have HOSC:Hid (OS loS WC (.slice a8 n8 k8) zs (selsOf rs)):=Lib.hid ((HOS.out.below HB8B.out).agree hsp.2 (Nat.le_trans hA7 HSD.out.1));have HAT:Hid (Agree w2.heap.size W4 WC):=Lib.hid ((HAW7.out _ HB7B.out).spare hsp (.inr (Nat.le_trans HW46.out HAD.out.1)));have HAB:Hid (Agree Bb Wb WC):=Lib.hid ((HAGB.out.below HB7B.out).spare hsp HAD.out.2.2);have HAY:Hid (Agree By Wy WC):=Lib.hid ((HAGY.out.below HB8B.out).spare hsp (.inl (Nat.le_trans hA7 HSD.out.2.2.2)));have HAM:Hid (Agree W8.heap.size WA WC):=Lib.hid (((Agree.refl _ _).below HBAB.out).spare hsp (.inl hA8));have HBC:Hid (Below w.heap.size w WC):=Lib.hid ((HBA.out.trans (HBAB.out.mono HBA.out.size)).trans (hsp.1.mono (Nat.le_trans HB6.out.size HAD.out.1)));have HSC:Hid (W8.heap.size≤WC.heap.size):=Lib.hid (Nat.le_trans HB8B.out.size hsp.1.size);obtain⟨hnz,hcz⟩:=sel_cells HOSC.out;subst hnz;have hzl:zs.length≤1048576:=by
     have h1:=congrArg List.length HOSC.out.key;rw[List.length_map]at h1;have h2:=sels_len rs;have:=HN4.out;omega
    have HZL:=Lib.hid hzl;clear hsp hA7 hA8 hcz;go_wp2_with fail;go_loopw [11,12] (fun t11 t12 W=> ∃k:Nat,t12= .int .i64 (k:Int)∧Hid (k≤zs.length)∧Hid (Below WC.heap.size WC W∧W.ownsRow WC.heap.size 58 17 t11 k (((zs.take k).map cw).flatMap WI.cs))) (fun _ t12 _=>zs.length-(intOf t12).toNat)
    case atStart=>exact⟨0,rfl,Lib.hid (Nat.zero_le _),Lib.hid ⟨Below.refl _ _,World.ownsRow_nil _ _ _ _⟩⟩
    case round=>
     obtain⟨k,rfl,hk,hI⟩:=hrel;obtain⟨a11,n11,k11,rfl⟩:=own_sl hI.out.2;by_cases hlt:k<zs.length
     ·have p2:((k:Int)<(zs.length:Int))=True:=eq_true (by omega);obtain⟨_,hcz⟩:=sel_cells (HOSC.out.below hI.out.1);obtain⟨gs,os,am,nm,cm,rfl,cz,hz⟩:=hcz k hlt;have HZ:=Lib.hid hz;have HOW:Hid (wr.ownsRow WC.heap.size 58 17 (.slice a11 n11 k11) k (((zs.take k).map cw).flatMap WI.cs)):=Lib.hid hI.out.2;have HSZ:Hid (WC.heap.size≤wr.heap.size):=Lib.hid hI.out.1.size;clear hz hcz;go_wp2_with (at_builtin;refine wpList_push2 rfl (.tmp 61) (.tmp 68) 39 rfl WC.heap.size 58 _ 17 240 info_row3 Tryz.underlying39 rfl (by decide) _ k _ rfl HOW.out [.int .i64 0,.int .i64 0,.string ⟨#[]⟩,.string ⟨#[]⟩,.slice am nm cm,.string ⟨#[]⟩,.string ⟨#[]⟩,.string ⟨#[]⟩,.string ⟨#[]⟩,.bool false,.bool false,.bool false,.slice none 0 0,.int .i64 0,.slice none 0 0,.bool false,.slice none 0 0] rfl rfl (one17c _ _ _) (by unfold maxLen;omega) (by omega) HSZ.out ?_);intro v3 W3 r1 r2 _;have HN:Hid (Below WC.heap.size WC W3∧W3.ownsRow WC.heap.size 58 17 v3 (k+1) (((zs.take (k+1)).map cw).flatMap WI.cs)):=Lib.hid ⟨hI.out.1.grown r2 hI.out.1.size (fun q hq=>(HOW.out.lt q hq).1),by rw[cw_take hlt HZ.out,List.map_take];exact r1⟩;obtain⟨a12,n12,k12,rfl⟩:=own_sl r1;clear r1 r2;go_wp2_with fail;go_roundw
      case rel=>exact⟨k+1,by go_num,Lib.hid hlt,HN⟩
      case measure=>simp[intOf];omega
     ·have p2:((k:Int)<(zs.length:Int))=False:=eq_false (by omega);have hke:k=zs.length:=by have:=hk.out;omega
      subst hke;have hown:=hI.out.2;rw[List.take_length]at hown;have HSPOIL:=Lib.hid (spoil_is ((HOSC.out.below hI.out.1).spj hown) (HFXS.out _ (Nat.le_trans HSD.out.2.1 (Nat.le_trans HSC.out hI.out.1.size))) (by rw[List.length_map];omega));clear hown;go_wp2_with fail;refine HSPOIL.out.mono ?_;rintro e WD ⟨rfl,hsp⟩;have HTD:Hid (∀W,Below WD.heap.size WD W→Agree w2.heap.size W4 W):=Lib.hid fun W h=>((HAT.out.below hI.out.1).spare hsp (.inr (Nat.le_trans HW46.out (Nat.le_trans HB67.out.size HSD.out.1)))).below h
      have HBD:Hid (∀W,Below WD.heap.size WD W→RowsS 0 W (.slice a7 n7 k7) rs):=Lib.hid fun W h=>HHB.out W (((HAB.out.below hI.out.1).spare hsp (.inr (Nat.le_trans HAGB.out.1 HSD.out.1))).below h)
      have HYD:Hid (∀W,Below WD.heap.size WD W→SelS W (.slice a9 n9 k9) (selsOf rs)):=Lib.hid fun W h=>HHY.out W (((HAY.out.below hI.out.1).spare hsp HSD.out.2.2.1).below h)
      have HMD:Hid (∀W,Below WD.heap.size WD W→Agree W8.heap.size WA W):=Lib.hid fun W h=>((HAM.out.below hI.out.1).spare hsp (.inl HSD.out.2.1)).below h
      have HWD:Hid (∀W,Below WD.heap.size WD W→Below w.heap.size w W):=Lib.hid fun W h=>by
       have h1:=HBC.out.trans (hI.out.1.mono HBC.out.size);have h2:=h1.trans (hsp.1.mono (Nat.le_trans HB7.out.size HSD.out.1));exact h2.trans (h.mono h2.size)
      have hnl:rs.length≤4294967296:=by have:=HN4.out;omega
      have hsl:(selsOf rs).length≤1099511627776:=by have:=sels_len rs;omega
      clear hsp hI;go_wp2_with fail;refine(ref_Same (HBD.out _ (Below.refl _ _)) (HRW.out _ (HWD.out _ (Below.refl _ _))) hnl HLN.out).mono ?_;rintro e W14 ⟨rfl,hb14⟩;have HB14:=Lib.hid hb14;clear hb14;go_wp2_with fail;refine(ref_Selectors (HRW.out _ (HWD.out _ HB14.out)) hnl HLN.out).mono ?_;rintro e W15 ⟨v15,rfl,hs15,hb15⟩;have HB15:Hid (Below WD.heap.size WD W15):=Lib.hid (HB14.out.trans (hb15.mono HB14.out.size));have HS15:=Lib.hid hs15;obtain⟨a15,k15,rfl,_⟩:=hs15;clear hb15;go_wp2_with fail;refine(law12_sameSelectors_eq (HYD.out _ HB15.out) HS15.out hsl HSL.out).mono ?_;rintro e W16 ⟨rfl,hb16⟩;have HB16:Hid (Below WD.heap.size WD W16):=Lib.hid (HB15.out.trans (hb16.mono HB15.out.size));have c16:W16.cell? ⟨w3.heap.size,0,none⟩=some (.iface t (.pointer (some ⟨g,0,none⟩))):=(HTREE.out W16 (HTD.out _ HB16.out)).2;clear hb16;go_wp2_with fail;refine(HROWS.out _ (HTD.out _ HB16.out)).mono ?_;intro e W17 hp17;obtain⟨a17,n17,k17,x17,rfl,hor17,hb17⟩:=hp17.or HTR.out;have HB17:Hid (Below WD.heap.size WD W17):=Lib.hid (HB16.out.trans (hb17.mono HB16.out.size));have HR17:=Lib.hid hor17.rows.1;clear hp17 hor17 hb17 c16;go_wp2_with fail;refine(ref_Same HR17.out (HRW.out _ (HWD.out _ HB17.out)) hnl HLN.out).mono ?_;rintro e W18 ⟨rfl,hb18⟩;have HB18:Hid (Below WD.heap.size WD W18):=Lib.hid (HB17.out.trans (hb18.mono HB17.out.size));have c18:W18.cell? ⟨W9.heap.size,0,none⟩=some (.iface tm (.pointer (some ⟨gm,0,none⟩))):=(HM.out W18 (HMD.out _ HB18.out)).2;have HNODES:Hid (Calls Tryz.prog 27 #[.agg #[.iface tm (.pointer (some ⟨gm,0,none⟩))]] W18 (IntPost W18 (na:Nat))):=Lib.hid (by
       have:=tree_Nodes (.inr (HM.out W18 (HMD.out _ HB18.out)).1) (by have:=HLM.out;omega);rw[HLM.out]at this;exact this)
      clear hb18;go_wp2_with fail;refine HNODES.out.mono ?_;rintro e W19 ⟨rfl,hb19⟩;have HB19:Hid (Below WD.heap.size WD W19):=Lib.hid (HB18.out.trans (hb19.mono HB18.out.size));have c19:W19.cell? ⟨w3.heap.size,0,none⟩=some (.iface t (.pointer (some ⟨g,0,none⟩))):=(HTREE.out W19 (HTD.out _ HB19.out)).2;clear hb19 c18 HNODES;go_wp2_with fail;refine(HSELS.out _ (HTD.out _ HB19.out)).mono ?_;intro e W20 hp20;obtain⟨a20,n20,k20,z20,rfl,hos20,hb20⟩:=hp20.os HTR.out;have HB20:Hid (Below WD.heap.size WD W20):=Lib.hid (HB19.out.trans (hb20.mono HB19.out.size));have HS20:=Lib.hid hos20.sels;clear hp20 hos20 hb20 c19;go_wp2_with fail;refine(law12_sameSelectors_eq HS20.out (HYD.out _ HB20.out) hsl HSL.out).mono ?_;rintro e W21 ⟨rfl,hb21⟩;have HF:Hid (Below w.heap.size w W21):=Lib.hid (HWD.out _ (HB20.out.trans (hb21.mono HB20.out.size)));clear hb21;go_wp2_with fail;go_ret;exact⟨rfl,HF.out⟩
 ·have hv:=HR4.out.nil_ he;subst hv;have q1:((buildErr rs:Int)==0)=false:=by simpa using he
  have q2:((buildErr rs:Int)=0)=False:=eq_false (by simpa using he);clear ov HR3;go_wp2_with fail;refine(ref_Same (HO2.out.below HB24.out).rows.1 (HRW.out _ HB4.out) (by have:=HN4.out;omega) HLN.out).mono ?_;rintro e W5 ⟨rfl,hb5⟩;have HF:Hid (Below w.heap.size w W5):=Lib.hid (HB4.out.trans (hb5.mono HB4.out.size));clear hb5;go_wp2_with fail;go_ret;exact⟨rfl,HF.out⟩
end Go.Proofs.YtibcjfjacielbaaGreatDoor
