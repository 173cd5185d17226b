import Derived.Test.YtcdoilkjmjbgmaaGreatDoorS39
import Derived.Test.YtcdoilkjmjbgmaaGreatDoorS40
/- Part of the proof of YtcdoilkjmjbgmaaGreatDoorCardY: TwD TkJ TrZh TgR TkR TmA TmB. -/
set_option maxRecDepth 100000
set_option maxHeartbeats 4000000
set_option linter.unusedVariables false
set_option linter.unusedSimpArgs false
namespace Go.Proofs.YtcdoilkjmjbgmaaGreatDoor
open Go.RowKit
open Go.Proofs.Tryz
variable {B b n size p i B0 s g o sz k d lo b1 b2:Nat} {W W' w W3 wr W9 W10 w':World} {e t:TypeId} {vv v3 v m mo l v' t5 t6 v1 v2:Value} {xs ys ks:List Value} {cs:Array Value} {L L1 L2:List (Nat×PR)} {ss:List ByteArray} {r:PR} {rs qs:List PR}
theorem Ah (h:Below W.heap.size W W'):KeepsFrom B W W':=⟨h.size,fun k o _ hk _=>(h.block k (yj.1 hk).1).trans hk⟩
theorem DX (h:W.ownsRow b e size vv n xs) (hg:W.grownBy W' vv.ownBlock):KeepsFrom B W W':=by
 refine⟨hg.size,fun k o _ hk ho=>(hg.block k (yj.1 hk).1 ?_).trans hk⟩;intro e';rcases h.2 with⟨rfl,_⟩|⟨g,cap,cur,rfl,_,Hw,_⟩
 ·simp[Value.ownBlock]at e'
 ·simp[Value.ownBlock]at e';subst e';rw[Hw]at hk;injection hk with hk
  subst hk;cases ho
theorem DY (h:aM W p t cs) (u:Value):KeepsFrom B W (W.setCell ⟨p,i,none⟩ u):=by
 refine⟨by simp,fun k o _ hk ho=>?_⟩;rw[AY W ⟨p,i,none⟩ u k ?_]
 ·exact hk
 ·show k≠p;intro e;rw[e]at hk;rw[show W.heap[p]? =some (.cells cs t (0,0))from h]at hk;injection hk with hk
  subst hk;cases ho
theorem nr.kT {B:Nat} {W W':World} (hB:B≤W.heap.size) (h:Below W.heap.size W W'):nr B W W':=⟨Kept.kT hB h,lI.kT h⟩
theorem WI.Px.below {B:Nat} {x:WI} {W W':World} (h:x.Px B W) (hb:Below W.heap.size W W'):x.Px B W':=⟨h.1.below hb,h.2⟩
theorem tF.below {B p:Nat} {xs:List WI} {W W':World} (h:tF B p xs W) (hb:Below W.heap.size W W'):tF B p xs W':=by
 obtain⟨vv,h1,h2,h3,h4⟩:=h;exact⟨vv,h1.below hb h1.lt,bJ h2 hb,fun z hz=>(h3 z hz).below hb,h4⟩
theorem VQ {pre:List WI} {x:WI} (h1:aM W p 22 #[vv]) (h2:W.ownsRow B 46 17 vv pre.length (pre.flatMap WI.cs)) (h3: ∀z∈pre,z.Px B W) (AH:Below B w W) (hB:B≤p) (FL:x.Px B W) (h4:pre.Pairwise WI.SO) (h5: ∀z∈pre,z.SO x)
  (qe:W3.ownsRow B 46 17 v3 (pre.length+1) (pre.flatMap WI.cs++x.cs)) (Hq:W.grownBy W3 vv.ownBlock):
  KeepsFrom B0 W (W3.setCell ⟨p,0,none⟩ v3)∧nr B W (W3.setCell ⟨p,0,none⟩ v3)∧tF B p (pre++[x]) (W3.setCell ⟨p,0,none⟩ v3)∧Below B w (W3.setCell ⟨p,0,none⟩ v3):=by
 have hz:aM W3 p 22 #[vv]:=h1.grown Hq (cW h2 h1 (by decide)).symm;have hk: ∀t,46≠t→22≠t→lI t W (W3.setCell ⟨p,0,none⟩ v3):=fun t ht ZX g cs hb=>((Fk h2 Hq ht) g cs hb).Hf (by rintro rfl;exact aM.ne_ ((Fk h2 Hq ht) _ cs hb) hz (Ne.symm ZX) rfl) _
 have hbB:Below B W W3:=(aU B W).grown Hq (bR hB (jk h1.lt)) (fun q hq=>(h2.lt q hq).1);have IU: ∀z:WI,z.Px B W→z.Px B (W3.setCell ⟨p,0,none⟩ v3):=fun z h=>⟨(h.1.push h2 Hq).dz hz (by decide) (by decide),h.2⟩
 refine⟨(DX h2 Hq).trans (DY hz _),⟨⟨hbB.setCell (p:=⟨p,0,none⟩) hB _,hk _ (by decide) (by decide)⟩,hk _ (by decide) (by decide)⟩,⟨v3,?_,?_,?_,?_⟩,(AH.trans hbB).setCell (p:=⟨p,0,none⟩) hB _⟩
 ·have:=hz.dz 0 v3;simpa using this
 ·rw[ym,iF];exact aG (by simpa using qe) hz (by decide) v3
 ·intro z hz';rcases qV.1 hz' with hz'|hz'
  ·exact IU z (h3 z hz')
  ·rw[xg.1 hz'];exact IU x FL
 ·exact List.pairwise_append.2 ⟨h4,List.pairwise_singleton _ _,fun z hz y hy=>by rw[xg.1 hy];exact h5 z hz⟩
def jD (w:World) (L:List (Nat×PR)) (e:Ending) (w':World):Prop:=
 ∃(vv:Value) (xs:List WI),e= .returned vv∧xs.map WI.key=L∧w'.ownsRow w.heap.size 46 17 vv xs.length (xs.flatMap WI.cs)∧(∀z∈xs,z.Px w.heap.size w')∧xs.Pairwise WI.SO∧Below w.heap.size w w'
theorem VR {row:Option Nat} (ho:W.ownsRow b e s v n ys) (hg:W.grownBy W' row) (hr: ∀r,row=some r→B0≤r∧ ∃o:Obj,W.heap[r]? =some o∧o.isCells=false):W'.ownsRow b e s v n ys:=by
 refine ho.kept hg ?_;rcases ho.2 with⟨rfl,_⟩|⟨g,cap,cur,rfl,_,Hw,_⟩
 ·exact .inl rfl
 ·refine .inr fun e=>?_
  obtain⟨_,o,Pz,hn⟩:=hr g e.symm;rw[Hw]at Pz;injection Pz with Pz
  subst Pz;cases hn
theorem jD.own (hB:w.heap.size≤B0):OwnFrom B0 (jD w L):=by
 rintro e W W' row ⟨vv,xs,h1,h2,h3,h4,h6,h5⟩ hg hr;exact⟨vv,xs,h1,h2,VR h3 hg hr,fun z hz=>WI.T9 z W W' row (h4 z hz) hg hr,h6,h5.grown hg h5.size fun k e=>bR hB (hr k e).1⟩
theorem Fl:(prog.info? 46).map (fun i=>(i.zero,i.size,i.bytes))=some (some (.agg zc),17,240):=by kernel_rfl
theorem Zb:OwnFrom B (fun(_:Unit) W=>aM W g t cs):=by
 rintro _ W W' row h hg hr;refine aM.grown h hg fun e=>?_
 obtain⟨_,o,ho,hn⟩:=hr g e.symm;rw[show W.heap[g]? =some (.cells cs t (0,0))from h]at ho;injection ho with ho
 subst ho;cases hn
theorem Fm {α:Type} (h:B≤B0) (hB:B≤w.heap.size):OwnFrom B0 (fun(_:α) W=>Below B w W):=by
 rintro _ W W' row hb hg hr;exact hb.grown hg (bR hB hb.size) fun k e=>bR h (hr k e).1
theorem Tz (x:WI) {B:Nat} {W:World} (h:x.Px B W): ∀u∈[.int .i64 x.r.kind,.int .i64 x.r.kids,.string x.r.op,.string x.r.text,x.m,.string x.r.bU,.string x.r.step,.string x.r.off,.string x.r.tim,.bool x.r.bool,.bool x.r.given,.bool x.r.on,x.o,.int .i64 x.r.card,x.i,.bool x.r.without,x.l],u.oneCell'=true:=by
 obtain⟨a1,n1,c1,e1⟩:=df h.1.m;obtain⟨a2,n2,c2,e2⟩:=df h.1.o;obtain⟨a3,n3,c3,e3⟩:=df h.1.i;obtain⟨a4,n4,c4,e4⟩:=df h.1.l;rw[e1,e2,e3,e4];intro u hu;simp only[gL,ll,iX]at hu;rcases hu with rfl|rfl|rfl|rfl|rfl|rfl|rfl|rfl|rfl|rfl|rfl|rfl|rfl|rfl|rfl|rfl|rfl<;>rfl
attribute [local go_sem] Oper.semAt_some
theorem Fo (h:eO b w v L) (hL:L.length≤4294967296) (hR: ∀x∈L,gp x.2):
  Calls prog 17 #[.agg #[v]] w (jD w L):=by
 have cu:Below w.heap.size w (((w.alloc (.cells #[v] 29)).alloc (.cells #[.slice none 0 0] 22)).alloc (.cells #[v] 29)):=(((aU _ w).alloc (aS _) _).alloc (by simp) _).alloc (by simp;omega) _;have ko:=(aM.new ((w.alloc (.cells #[v] 29)).alloc (.cells #[.slice none 0 0] 22)) 29 #[v]);have jK:=(aM.new (w.alloc (.cells #[v] 29)) 22 #[.slice none 0 0]).alloc (.cells #[v] 29);simp only[World.size_alloc]at jK ko;have hs:=fun n=>NA h cu (ko.cell 0) (by simp) hR (by omega) n
 have HS:=ae hs;have fZ:=ae cu;have HC1:=ae jK;have HL:=ae hL;clear h hL hR cu jK ko hs;refine(A9 (n:=5)).1 ?_;refine callsIn_of_wp_marks func17 rfl trivial ?_ rfl;simp only[ntmps17,List.size_toArray,ek,o8,Nat.reduceAdd,Nat.reduceSub,Oe,Of,List.push_toArray,Oh,tw,oh]
 gi_wp2_with fail
 refine⟨trivial,?_⟩;refine(A9.2 (Rj v _)).mono ?_;rintro e w' ⟨rfl,rfl⟩
 gi_wp2_with fail
 refine DW rfl (by omega) (gf:=33) (lb:=#[.pointer (some ⟨w.heap.size+1+1,0,none⟩)]) rfl trivial (enters_of func33 (by kernel_rfl) rfl) (by have:=HS.out 4;simpa using this)
  (fun xs A l o o' h _ _ _=>h) (fun xs A l o o' h _ _ _=>h) (fun h k=>h.trans k) (fun W l o o' hl=>nr.putObj W l o o' (bR fZ.out.size hl)) (fun _=>rfl)
  (fun pre W=>tF w.heap.size (w.heap.size+1) pre W∧Below w.heap.size w W) (fun _ _ _=>False)
  (tF.own.and (Fm (by simp;omega) (aS _))) (fun _ _ _ _ _ hs _ _=>hs) ⟨⟨_,HC1.out,sZ _ _ _ _,fun z hz=>(by cases hz),List.Pairwise.nil⟩,fZ.out⟩
  (fun pre x a' W=>((tF w.heap.size (w.heap.size+1) pre W∧Below w.heap.size w W)∧x.Px w.heap.size W)∧(∀z∈pre,z.SO x)∧ ∃g,a'={tmps:=#[.agg #[v],.pointer (some ⟨w.heap.size,0,none⟩),.slice none 0 0,.pointer (some ⟨w.heap.size+1,0,none⟩),undef,.pointer (some ⟨g,0,none⟩),.agg #[v],.func (.func 33) #[] #[.pointer (some ⟨w.heap.size+1+1,0,none⟩)],.int .i64 (x.d:Int),.agg #[.int .i64 x.r.kind,.int .i64 x.r.kids,.string x.r.op,.string x.r.text,x.m,.string x.r.bU,.string x.r.step,.string x.r.off,.string x.r.tim,.bool x.r.bool,.bool x.r.given,.bool x.r.on,x.o,.int .i64 x.r.card,x.i,.bool x.r.without,x.l],undef,undef,undef,undef,undef],defers:=[]}∧aM W g 46 #[.int .i64 x.r.kind,.int .i64 x.r.kids,.string x.r.op,.string x.r.text,x.m,.string x.r.bU,.string x.r.step,.string x.r.off,.string x.r.tim,.bool x.r.bool,.bool x.r.given,.bool x.r.on,x.o,.int .i64 x.r.card,x.i,.bool x.r.without,x.l]) ?absx ?assign ?body ?done ?stop
 case absx=>
  rintro pre x a' A l o o' ⟨⟨h1,h2⟩,h3,g,h4,h5⟩ hl ho hn;exact⟨⟨xR (tF.own.and (Fm (by simp;omega) (aS _))) pre A l o o' h1 hl ho hn,xR WI.T9 x A l o o' h2 hl ho hn⟩,h3,g,h4,xR Zb () A l o o' h5 hl ho hn⟩
 case stop=>
  rintro D c pre W _ _ h _;exact h.elim
 case assign=>
  rintro l pre x W0 W K cH ⟨hI,AH⟩ hbA FL hK;have HI:=ae (And.intro (hI.below hbA) (And.intro (AH.trans (hbA.mono AH.size)) (show x.Px w.heap.size W from⟨FL.1.lo AH.size,FL.2⟩)));have HFA:Hid (∀z∈pre,z.SO x):=ae (by obtain⟨_,_,_,h3,_⟩:=hI;exact fun z hz=>WI.T8 (h3 z hz) FL);clear hI AH FL hbA cH;simp only[WI.Dw,jM];have h17:=qS.2 (Tz x HI.out.2.2)
  gi_wp2_with (refine uN rfl 46 (.tmp 5) (.tmp 9) rfl W.heap.size #[.int .i64 x.r.kind,.int .i64 x.r.kids,.string x.r.op,.string x.r.text,x.m,.string x.r.bU,.string x.r.step,.string x.r.off,.string x.r.tim,.bool x.r.bool,.bool x.r.given,.bool x.r.on,x.o,.int .i64 x.r.card,x.i,.bool x.r.without,x.l] rfl rfl (aM.new W 46 zc) (by kernel_rfl) rfl h17 ?_;intro W2 aQ uU;have bF:=ae (And.intro aQ uU);clear aQ uU)
  have oe:Below W.heap.size W W2:=ef ((aU _ W).alloc (aS _) _) bF.out.2 (by simp) (aS _);exact hK _ _ (Ah oe) (nr.kT HI.out.2.1.size oe) ⟨⟨⟨HI.out.1.below oe,HI.out.2.1.trans (oe.mono HI.out.2.1.size)⟩,HI.out.2.2.below oe⟩,HFA.out,_,rfl,bF.out.1⟩
 case body=>
  rintro l pre x a' W cH ⟨⟨⟨⟨vv,h1,h2,h3,h4⟩,AH⟩,FL⟩,h5,g,rfl,hg⟩;have hlen:pre.length+1≤4294967296:=by
   have:=cH.length_le;have:=HL.out;simp only[ln,iF,ek,o8]at*
   omega
  have c0:W.cell? ⟨w.heap.size+1,0,none⟩=some vv:=h1.cell 0;have h17:=Tz x FL;have HF:Hid (∀v3 W3,_→_→_):=ae fun v3 W3 qe Hq=>VQ (B0:=(((w.alloc (.cells #[v] 29)).alloc (.cells #[.slice none 0 0] 22)).alloc (.cells #[v] 29)).heap.size) (v3:=v3) (W3:=W3) h1 h2 h3 AH (Nat.le_succ _) FL h4 h5 qe Hq
  have HZ:Hid (∀W3,W.grownBy W3 vv.ownBlock→aM W3 (w.heap.size+1) 22 #[vv]):=ae fun W3 Hq=>h1.grown Hq (cW h2 h1 (by decide)).symm
  have H2:=ae h2;have HG:=ae hg;have Dj:Hid (w.heap.size≤W.heap.size):=ae AH.size;clear h1 h2 h3 h4 h5 AH FL hg cH
  gi_wp2_with (first
   |(refine wY rfl 46 (.tmp 5) rfl g rfl HG.out underlying46 (by kernel_rfl) ?_)
   |(refine De rfl (.tmp 10) (.tmp 12) 22 rfl w.heap.size 46 _ 17 240 Fl underlying22 rfl (by decide) _ pre.length (pre.flatMap WI.cs) rfl H2.out [.int .i64 x.r.kind,.int .i64 x.r.kids,.string x.r.op,.string x.r.text,x.m,.string x.r.bU,.string x.r.step,.string x.r.off,.string x.r.tim,.bool x.r.bool,.bool x.r.given,.bool x.r.on,x.o,.int .i64 x.r.card,x.i,.bool x.r.without,x.l] rfl rfl h17 (by unfold maxLen;omega) (by omega) Dj.out ?_;intro v3 W3 qe Hq _;have qL:=ae qe;have HG3:=ae Hq;obtain⟨a3,n3,c3,hv3⟩:=df qe;subst hv3;have k3:=(HZ.out _ Hq).cell 0;have f3:=(HZ.out _ Hq).frozen 0;simp at k3;clear qe Hq))
  exact HF.out _ _ qL.out HG3.out
 case done=>
  rintro D xs W hD ZF ⟨⟨vv,h1,h2,h3,h4⟩,AH⟩ hK;have c0:W.cell? ⟨w.heap.size+1,0,none⟩=some vv:=h1.cell 0;have HP:Hid (jD w L (.returned vv) W):=ae ⟨vv,xs,rfl,ZF,h2,h3,h4,AH⟩;clear h1 h2 h3 h4 AH
  gi_wp2_with fail
  refine⟨by simp,.inl ⟨_,_,rfl,run_takeDeferred hK,?_⟩⟩;refine⟨_,results_tmp (show f17.results= #[.tmp 2]from rfl) _ _ _,?_⟩;exact OwnFrom.putObj (jD.own fZ.out.size) _ HP.out hD hK rfl
theorem cO.src (h:cO b w v ss):AQ 1 w v ss.length (ss.flatMap qE):=by
 obtain⟨ao,c,rfl,hc⟩:=h;refine⟨ao,c,rfl,rD qE 1 (fun _=>rfl) ss,fun u hu=>?_,?_⟩
 ·obtain⟨m,_,hm⟩:=IB.1 hu;simp only[qE,gL,ll,iX]at hm;rcases hm with rfl;rfl
 ·cases ss with
  |nil=>cases ao with
   |none=>exact .inl ⟨rfl,rfl⟩
   |some a=>exact .inr ⟨a,rfl,fun j u hu=>by simp at hu⟩
  |cons m ms=>
   obtain⟨g,o,rfl,_⟩:=hc 0 (by simp);refine .inr ⟨_,rfl,fun j u hu=>?_⟩;rw[lE];refine pQ qE 1 (fun _=>rfl) (by decide) (m::ms) w g o (fun j hj i hi=>?_) j u hu;obtain⟨g',o',he,_,_,x⟩:=hc j hj;cases he
   match i,hi with
   |0,_=>rw[oj];exact x
theorem sn {i:Value} (h: ∀k (hk:k<17),W.cell? ⟨g,o+k,none⟩=some ((nc r m mo i l)[k]'(by simp[nc];omega))):
  W.cell? ⟨g,o,none⟩=some (.int .i64 r.kind)∧W.cell? ⟨g,o+1,none⟩=some (.int .i64 r.kids)∧W.cell? ⟨g,o+2,none⟩=some (.string r.op)∧W.cell? ⟨g,o+3,none⟩=some (.string r.text)∧W.cell? ⟨g,o+4,none⟩=some m∧W.cell? ⟨g,o+5,none⟩=some (.string r.bU)∧W.cell? ⟨g,o+6,none⟩=some (.string r.step)∧W.cell? ⟨g,o+7,none⟩=some (.string r.off)∧W.cell? ⟨g,o+8,none⟩=some (.string r.tim)∧W.cell? ⟨g,o+9,none⟩=some (.bool r.bool)∧W.cell? ⟨g,o+10,none⟩=some (.bool r.given)∧W.cell? ⟨g,o+11,none⟩=some (.bool r.on)∧W.cell? ⟨g,o+12,none⟩=some mo∧W.cell? ⟨g,o+13,none⟩=some (.int .i64 r.card)∧W.cell? ⟨g,o+14,none⟩=some i∧W.cell? ⟨g,o+15,none⟩=some (.bool r.without)∧W.cell? ⟨g,o+16,none⟩=some l:=
 ⟨h 0 (by omega),h 1 (by omega),h 2 (by omega),h 3 (by omega),h 4 (by omega),h 5 (by omega),h 6 (by omega),h 7 (by omega),h 8 (by omega),h 9 (by omega),h 10 (by omega),h 11 (by omega),h 12 (by omega),h 13 (by omega),h 14 (by omega),h 15 (by omega),h 16 (by omega)⟩
def TA (w:World) (rs:List PR) (k:Nat) (vv:Value) (W:World):Prop:=
 ∃xs:List WI,xs.map (·.r)=rs.take k∧W.ownsRow w.heap.size 46 17 vv xs.length (xs.flatMap WI.cs)∧(∀z∈xs,z.Px w.heap.size W)∧xs.Pairwise WI.SO∧Below w.heap.size w W
def rL (w:World) (rs:List PR) (e:Ending) (w':World):Prop:=
 ∃(vv:Value) (xs:List WI),e= .returned vv∧xs.map (·.r)=rs∧w'.ownsRow w.heap.size 46 17 vv xs.length (xs.flatMap WI.cs)∧(∀z∈xs,z.Px w.heap.size w')∧xs.Pairwise WI.SO∧Below w.heap.size w w'
theorem Rn (w:World) (g i:Nat) (u:Value):w.grownBy (w.setCell ⟨g,i,none⟩ u) (some g):=
 ⟨rfl,by first|rfl|simp,rfl,by simp,fun k _ bW=>AY w ⟨g,i,none⟩ u k (by rintro rfl;exact bW rfl)⟩
structure CS (wr W:World) (cs:Array Value):Prop where
 z:aM W wr.heap.size 46 cs
 b:Below wr.heap.size wr W
theorem CS.list (h:CS wr W cs) (he:e≠46) (hg:(W.alloc (.cells #[] e)).grownBy W3 (some W.heap.size)) (ho:W3.ownsRow W.heap.size e sz v3 n ys):
  CS wr (W3.setCell ⟨wr.heap.size,k,none⟩ v3) (cs.setIfInBounds k v3)∧(W3.setCell ⟨wr.heap.size,k,none⟩ v3).ownsRow W.heap.size e sz v3 n ys∧W.grownBy (W3.setCell ⟨wr.heap.size,k,none⟩ v3) (some wr.heap.size):=by
 have hl:=h.z.lt;have z3:aM W3 wr.heap.size 46 cs:=(h.z.alloc _).grown hg (by intro e;injection e;omega);have cu:Below W.heap.size W W3:=((aU W.heap.size W).alloc (aS _) _).grown hg (by simp) (fun k hk=>by injection hk with hk;omega);exact⟨⟨z3.dz k v3,(h.b.trans (cu.mono h.b.size)).setCell (p:=⟨wr.heap.size,k,none⟩) (aS _) _⟩,aG ho z3 he v3,ee (fu cu _) (Rn W3 wr.heap.size k v3)⟩
theorem sO (W:World) (e:TypeId) (sz:Nat):(W.alloc (.cells #[] e)).ownsRow W.heap.size e sz (.slice (some ⟨W.heap.size,0,none⟩) 0 0) 0 []:=by
 have:=World.ownsRow_made (size:=sz) (base:=W.heap.size) (e:=e) W #[] 0 (aS _) (aV _) (by simp);simpa using this
theorem Ro {xs:List WI} {x:WI} (hm:xs.map (·.r)=rs.take k) (ho:wr.ownsRow w.heap.size 46 17 vv xs.length (xs.flatMap WI.cs)) (hp: ∀z∈xs,z.Px w.heap.size wr) (hf:xs.Pairwise WI.SO) (hb:Below w.heap.size w wr)
  (hk:k<rs.length) (hx:x.r=rs[k]) (Lk:Below wr.heap.size wr W9) (hB:B=wr.heap.size) (FL:x.Px B W9) (hr:W10.ownsRow w.heap.size 46 17 v' (xs.length+1) (xs.flatMap WI.cs++x.cs)) (hg:W9.grownBy W10 vv.ownBlock):TA w rs (k+1) v' W10:=by
 subst hB;have ho9:=bJ ho Lk;have IU: ∀(B:Nat) (z:WI),z.Px B W9→z.Px B W10:=fun B z h=>⟨h.1.push ho9 hg,h.2⟩
 have akq:Below w.heap.size w W10:=(hb.trans (Lk.mono hb.size)).grown hg (bR hb.size Lk.size) (fun q hq=>(ho9.lt q hq).1);refine⟨xs++[x],?_,?_,?_,List.pairwise_append.2 ⟨hf,List.pairwise_singleton _ _,fun z hz y hy=>?_⟩,akq⟩
 ·rw[nQ,hm,mq,mY,hx,jO hk]
 ·rw[ym,iF];simpa using hr
 ·intro z hz;rcases qV.1 hz with hz|hz
  ·exact IU _ z ((hp z hz).below Lk)
  ·rw[xg.1 hz];exact IU _ x ⟨FL.1.lo hb.size,FL.2⟩
 ·rw[xg.1 hy];exact WI.T8 (hp z hz) FL
theorem VS (h:jr 0 w v rs) (hn:rs.length≤4294967296) (hl: ∀r∈rs,gp r):
  Calls prog 30 #[v] w (rL w rs):=by
 obtain⟨ao,c,rfl,hc⟩:=h;have HC:=ae hc;have HL:=ae hl;clear hc hl;go_enter func30,ntmps30;go_wp2_with fail;go_loopw [3,4] (fun t3 t4 W=> ∃k:Nat,t4= .int .i64 (k:Int)∧Hid (k≤rs.length)∧Hid (TA w rs k t3 W)) (fun _ t4 _=>rs.length-(intOf t4).toNat)
 case atStart=>exact⟨0,rfl,ae (aV _),ae ⟨[],rfl,sZ _ _ _ _,fun z hz=>(by cases hz),List.Pairwise.nil,aU _ _⟩⟩
 case round=>
  obtain⟨k,rfl,hk,hI⟩:=hrel;by_cases aA:k<rs.length
  ·have p1:((k:Int)<(rs.length:Int))=True:=aD (by omega);obtain⟨xs,hm,ho,hp,hf,hb⟩:=hI.out;have RZ:xs.length=k:=by have:=cn List.length hm;rw[ln,nO]at this;omega
   obtain⟨g,o,rfl,_,hg,vm,vo,vi,vl,lg,bf⟩:=HC.out k aA;have hlen:=HL.out rs[k] (jj aA);obtain⟨r,hr⟩: ∃r,r=rs[k]:=⟨_,rfl⟩;rw[←hr]at lg bf hlen;have vp: ∀j (hj:j<17),wr.cell? ⟨g,o+k*17+j,none⟩=some ((nc r vm vo vi vl)[j]'(by simp[nc];omega)):=fun j hj=>(hb.cell (p:=⟨g,_,none⟩) hg).trans (bf j hj)
   obtain⟨c0,c1,c2,c3,c4,c5,c6,c7,c8,c9,PC,PD,c12,PE,PF,NY,NZ⟩:=sn vp;have ZT:=ae lg;obtain⟨⟨am,cm,hvm,_⟩,⟨uY,co,hvo,_⟩,⟨ai,ci,hvi,_⟩,⟨al,cl,hvl,_⟩⟩:=lg;subst hvm hvo hvi hvl;obtain⟨a3,n3,k3,rfl⟩:=df ho;have HI:=ae (And.intro hm (And.intro ho (And.intro hp (And.intro hf hb))));have HR:=ae hr;have HXL:=ae RZ;have abb:=ae hlen;have sR:Hid (∀W,Below w.heap.size w W→AQ 3 W (.slice am r.ms.length cm) r.ms.length (r.ms.flatMap vh)∧AQ 1 W (.slice uY r.mls.length co) r.mls.length (r.mls.flatMap qE)∧AQ 1 W (.slice ai r.inc.length ci) r.inc.length (r.inc.flatMap qE)∧AQ 1 W (.slice al r.labels.length cl) r.labels.length (r.labels.flatMap qE)):=ae fun W h=>by
    have h2:=ZT.out.below h;exact⟨h2.1.src,h2.2.1.src,h2.2.2.1.src,h2.2.2.2.src⟩
   have XB:r.ms.length≤1099511627776:=hlen.1;have ti:r.mls.length≤1099511627776:=hlen.2.1;have XC:r.inc.length≤1099511627776:=hlen.2.2.1;have Lv:r.labels.length≤1099511627776:=hlen.2.2.2;clear hI hm ho hp hf bf vp hr RZ hlen;go_wp2_with (refine ax rfl 46 (.tmp 5) (.tmp 15) rfl wr.heap.size _ rfl rfl (aM.new _ _ _) (by kernel_rfl) rfl rfl ?_);intro W1 de qf;have qy:CS wr W1 (et r (.slice am r.ms.length cm) (.slice uY r.mls.length co) (.slice ai r.inc.length ci) (.slice al r.labels.length cl)):=⟨de,ef ((aU _ wr).alloc (aS _) _) qf (by simp) (aS _)⟩;have Dj:Hid (∀W,Below wr.heap.size wr W→Below w.heap.size w W):=ae fun W h=>hb.trans (h.mono hb.size)
   have D6:=ae qy;have m4:(W1.alloc (.cells #[] 65)).cell? ⟨wr.heap.size,4,none⟩=some (.slice am r.ms.length cm):=(de.alloc _).cell 4;have sd:=ae (sO W1 65 3);have WH:=ae (sR.out _ (Dj.out _ (qy.b.alloc qy.b.size (.cells #[] 65)))).1;clear de qf qy c0 c1 c2 c3 c4 c5 c6 c7 c8 c9 PC PD c12 PE PF NY NZ hb;go_wp2_with (at_builtin;refine fY rfl (.tmp 16) (.tmp 18) 39 rfl W1.heap.size 65 _ 3 40 BL underlying39 rfl (by omega) _ 0 [] rfl sd.out _ r.ms.length (r.ms.flatMap vh) rfl WH.out (by unfold maxLen;omega) (by omega) (by simp) ?_);intro v4 W2 Hl hg4;obtain⟨a4,n4,k4,rfl⟩:=df Hl;have z2:aM W2 wr.heap.size 46 _:=(D6.out.z.alloc (.cells #[] 65)).grown hg4 (by have:=D6.out.z.lt;simp[Value.ownBlock];omega);have q4:=z2.cell 4;have f4:=z2.frozen 4;simp[et]at q4;obtain⟨hs4,abq,afo⟩:=D6.out.list (k:=4) (by decide) hg4 Hl;clear z2;go_upto_region 7 with(fail)
   obtain⟨W4,hW4⟩: ∃W4,W4=W2.setCell ⟨wr.heap.size,4,none⟩ (.slice a4 n4 k4):=⟨_,rfl⟩;rw[←hW4]at hs4 abq afo ⊢
   have Hz:=ae hs4;have Ps:=ae abq;have m16:(W4.alloc (.cells #[] 9)).cell? ⟨wr.heap.size,16,none⟩=some (.slice al r.labels.length cl):=by
    have:=(hs4.z.alloc (.cells #[] 9)).cell 16;simpa [et]using this
   have afp:=ae (sO W4 9 1);have HX4:=ae (sR.out _ (Dj.out _ (hs4.b.alloc hs4.b.size (.cells #[] 9)))).2.2.2;clear Hl hg4 hs4 abq afo q4 f4 m4 sd WH hW4;go_wp2_with (at_builtin;refine fY rfl (.tmp 21) (.tmp 23) 42 rfl W4.heap.size 9 _ 1 16 rE underlying42 rfl (by omega) _ 0 [] rfl afp.out _ r.labels.length (r.labels.flatMap qE) rfl HX4.out (by unfold maxLen;omega) (by omega) (by simp) ?_);intro v5 W5 ZH hg5;obtain⟨a5,n5,k5,rfl⟩:=df ZH;have z5:aM W5 wr.heap.size 46 _:=(Hz.out.z.alloc (.cells #[] 9)).grown hg5 (by have:=Hz.out.z.lt;simp[Value.ownBlock];omega);have q16:=z5.cell 16;have f16:=z5.frozen 16;simp[et]at q16;obtain⟨SP,abr,XZ⟩:=Hz.out.list (k:=16) (by decide) hg5 ZH;clear z5;go_upto_region 8 with(fail)
   obtain⟨W6,hW6⟩: ∃W6,W6=W5.setCell ⟨wr.heap.size,16,none⟩ (.slice a5 n5 k5):=⟨_,rfl⟩;rw[←hW6]at SP abr XZ ⊢
   have HM6:=ae (Ps.out.kept XZ (.inr (cW Ps.out Hz.out.z (by decide))));have HS6:=ae SP;have HL6:=ae abr;have arx:Hid (W4.heap.size≤W6.heap.size):=ae XZ.size;have m12:(W6.alloc (.cells #[] 9)).cell? ⟨wr.heap.size,12,none⟩=some (.slice uY r.mls.length co):=by
    have:=(SP.z.alloc (.cells #[] 9)).cell 12;simpa [et]using this
   have afq:=ae (sO W6 9 1);have HX6:=ae (sR.out _ (Dj.out _ (SP.b.alloc SP.b.size (.cells #[] 9)))).2.1;clear ZH hg5 SP abr XZ q16 f16 m16 afp HX4 hW6;go_wp2_with (at_builtin;refine fY rfl (.tmp 26) (.tmp 29) 42 rfl W6.heap.size 9 _ 1 16 rE underlying42 rfl (by omega) _ 0 [] rfl afq.out _ r.mls.length (r.mls.flatMap qE) rfl HX6.out (by unfold maxLen;omega) (by omega) (by simp) ?_);intro v7 W7 ho7 hg7;obtain⟨a7,n7,k7,rfl⟩:=df ho7;have z7:aM W7 wr.heap.size 46 _:=(HS6.out.z.alloc (.cells #[] 9)).grown hg7 (by have:=HS6.out.z.lt;simp[Value.ownBlock];omega);have q12:=z7.cell 12;have f12:=z7.frozen 12;simp[et]at q12;obtain⟨hs7,X0,Ta⟩:=HS6.out.list (k:=12) (by decide) hg7 ho7;clear z7;go_upto_region 9 with(fail)
   obtain⟨W8,hW8⟩: ∃W8,W8=W7.setCell ⟨wr.heap.size,12,none⟩ (.slice a7 n7 k7):=⟨_,rfl⟩;rw[←hW8]at hs7 X0 Ta ⊢
   have HM8:=ae (HM6.out.kept Ta (.inr (cW HM6.out HS6.out.z (by decide))));have HL8:=ae (HL6.out.kept Ta (.inr (cW HL6.out HS6.out.z (by decide))));have HOL:Hid (gR (.slice a7 n7 k7) (.slice a5 n5 k5)):=ae (cQ HL6.out X0 (aS _)).symm;have HS8:=ae hs7;have HO8:=ae X0;have ary:Hid (W6.heap.size≤W8.heap.size):=ae Ta.size;have m14:(W8.alloc (.cells #[] 9)).cell? ⟨wr.heap.size,14,none⟩=some (.slice ai r.inc.length ci):=by
    have:=(hs7.z.alloc (.cells #[] 9)).cell 14;simpa [et]using this
   have afr:=ae (sO W8 9 1);have HX8:=ae (sR.out _ (Dj.out _ (hs7.b.alloc hs7.b.size (.cells #[] 9)))).2.2.1;clear ho7 hg7 hs7 X0 Ta q12 f12 m12 afq HX6 hW8 HM6 HL6;go_wp2_with (at_builtin;refine fY rfl (.tmp 33) (.tmp 36) 42 rfl W8.heap.size 9 _ 1 16 rE underlying42 rfl (by omega) _ 0 [] rfl afr.out _ r.inc.length (r.inc.flatMap qE) rfl HX8.out (by unfold maxLen;omega) (by omega) (by simp) ?_);intro v9 W9 ho9 hg9;obtain⟨a9,n9,k9,rfl⟩:=df ho9;have z9:aM W9 wr.heap.size 46 _:=(HS8.out.z.alloc (.cells #[] 9)).grown hg9 (by have:=HS8.out.z.lt;simp[Value.ownBlock];omega);have q14:=z9.cell 14;have f14:=z9.frozen 14;simp[et]at q14;obtain⟨hs9,Tb,Tc⟩:=HS8.out.list (k:=14) (by decide) hg9 ho9;clear z9;go_upto_region 10 with(fail)
   obtain⟨WA,hWA⟩: ∃WA,WA=W9.setCell ⟨wr.heap.size,14,none⟩ (.slice a9 n9 k9):=⟨_,rfl⟩;rw[←hWA]at hs9 Tb Tc ⊢
   have iI:=D6.out.z.lt;have FL:WI.Px wr.heap.size ⟨0,r,.slice a4 n4 k4,.slice a7 n7 k7,.slice a9 n9 k9,.slice a5 n5 k5⟩ WA:=by
    refine⟨⟨cr (HM8.out.kept Tc (.inr (cW HM8.out HS8.out.z (by decide)))) (jk iI),cr (HO8.out.kept Tc (.inr (cW HO8.out HS8.out.z (by decide)))) HS6.out.b.size,cr Tb HS8.out.b.size,cr (HL8.out.kept Tc (.inr (cW HL8.out HS8.out.z (by decide)))) Hz.out.b.size,cQ HO8.out Tb (aS _),HOL.out,(cQ HL8.out Tb (aS _)).symm⟩,aV _⟩
   have HPX:=ae FL;have hzA:aM WA wr.heap.size 46 #[.int .i64 r.kind,.int .i64 r.kids,.string r.op,.string r.text,.slice a4 n4 k4,.string r.bU,.string r.step,.string r.off,.string r.tim,.bool r.bool,.bool r.given,.bool r.on,.slice a7 n7 k7,.int .i64 r.card,.slice a9 n9 k9,.bool r.without,.slice a5 n5 k5]:=by
    have:=hs9.z;simpa [et]using this
   have HZA:=ae hzA;have ZU:=ae hs9.b;have Zw:Hid (WA.ownsRow w.heap.size 46 17 (.slice a3 n3 k3) xs.length (xs.flatMap WI.cs)):=ae (bJ HI.out.2.1 hs9.b);have HWA:Hid (w.heap.size≤WA.heap.size):=ae (Dj.out _ hs9.b).size;have arz:xs.length≤4294967296:=by have:=HXL.out;omega
   clear ho9 hg9 hs9 Tb Tc q14 f14 m14 afr HX8 hWA HM8 HL8 FL hzA iI;go_wp2_with (first|(refine cG rfl 46 (.tmp 5) rfl wr.heap.size rfl HZA.out underlying46 (by kernel_rfl) ?_)|(at_builtin;refine lT rfl (.tmp 40) (.tmp 42) 22 rfl w.heap.size 46 _ 17 240 Fl underlying22 rfl (by decide) _ xs.length (xs.flatMap WI.cs) rfl Zw.out [.int .i64 r.kind,.int .i64 r.kids,.string r.op,.string r.text,.slice a4 n4 k4,.string r.bU,.string r.step,.string r.off,.string r.tim,.bool r.bool,.bool r.given,.bool r.on,.slice a7 n7 k7,.int .i64 r.card,.slice a9 n9 k9,.bool r.without,.slice a5 n5 k5] rfl rfl (Tz _ HPX.out) (by unfold maxLen;omega) (by omega) HWA.out ?_));intro vB WB hoB hgB _;obtain⟨aB,nB,kB,rfl⟩:=df hoB;have HN:Hid (TA w rs (k+1) (.slice aB nB kB) WB):=ae (Ro HI.out.1 HI.out.2.1 HI.out.2.2.1 HI.out.2.2.2.1 HI.out.2.2.2.2 aA HR.out ZU.out rfl HPX.out hoB hgB);clear hoB hgB;go_wp2_with fail;go_roundw
   case rel=>exact⟨k+1,by go_num,ae aA,HN⟩
   case measure=>simp[intOf];omega
  ·have p1:((k:Int)<(rs.length:Int))=False:=bT (by omega);have uT:k=rs.length:=by have:=hk.out;omega
   subst uT;have HP:Hid (rL w rs (.returned u3) wr):=ae (by
    obtain⟨xs,hm,ho,hp,hf,hb⟩:=hI.out;rw[qO]at hm;exact⟨_,xs,rfl,hm,ho,hp,hf,hb⟩)
   obtain⟨xs,_,ho,_⟩:=hI.out;obtain⟨a3,n3,k3,rfl⟩:=df ho;clear ho;go_wp2_with fail;go_ret;exact HP.out
def rk (B:Nat) (d:Nat) (t5:Value) (W:World) (v:Value) (L:List (Nat×PR)):Prop:= ∃lo w1,dJ lo w1 d v L∧B≤lo∧iZ lo w1 W∧Off lo w1 t5
theorem rk.tree (h:rk B d t5 W v L):dJ B W d v L:=by
 obtain⟨lo,w1,h1,h2,h3,_⟩:=h;exact(h1.agree h3).lo h2
theorem rk.below {B d:Nat} {t5:Value} {W W':World} {v:Value} {L:List (Nat×PR)} (h:rk B d t5 W v L) (hb:Below W.heap.size W W'):rk B d t5 W' v L:=by
 obtain⟨lo,w1,h1,h2,h3,h4⟩:=h;exact⟨lo,w1,h1,h2,h3.below hb,h4⟩
theorem rk.push (h:rk B d t5 W v L) (hg:W.grownBy W' t5.ownBlock) (ht:jx t5 t6∨(t6.ownBlock=some (W.heap.size+1)∧W.grownBy W' none)):rk B d t6 W' v L:=by
 obtain⟨lo,w1,h1,h2,h3,h4⟩:=h;refine⟨lo,w1,h1,h2,h3.grow hg h4,fun q hq=>?_⟩;rcases ht with⟨g,n,m,cap,e1,e2⟩|⟨e1,_⟩
 ·subst e1 e2;exact h4 q (by simpa [Value.ownBlock]using hq)
 ·rw[e1]at hq;injection hq with hq
  have:=h3.1;omega
structure Γ (B:Nat) (w0 w:World) (d:Nat) (x' y:List PR) (n i:Nat) (A:Array Value) (t0 t5:Value) (W:World):Prop where
 le:i≤n
 box:aM W w.heap.size 46 A
 ks: ∃(ks:List Value) (cP:Nat→List (Nat×PR)) (c rem:List PR),ks.length=i∧x'=c++rem∧trees (n-i) rem=true∧((List.range i).flatMap cP).map (·.2)=c∧
  W.ownsRow w.heap.size 27 1 t5 i ks∧(∀j (h:j<ks.length),rk B (d+1) t5 W ks[j] (cP j))∧ey w0 t0 (rem++y)∧ ∀v∈ks,∃t x,v= .iface t x
 below:Below w.heap.size w W
theorem VT {α:Type} (cP:Nat→List α) (i:Nat) (L:List α):((List.range (i+1)).flatMap fun j=>if j=i then L else cP j)=(List.range i).flatMap cP++L:=by
 rw[ff];have h1: ∀n,n≤i→(List.range n).flatMap (fun j=>if j=i then L else cP j)=(List.range n).flatMap cP:=by
  intro n;induction n with
  |zero=>intro _;rfl
  |succ n ih=>
   intro h;rw[ff,ff,ih (by omega),ah (by omega)]
 rw[h1 i (aS _),az rfl]
theorem Zc (h:w.ownsRow b 27 1 v ks.length ks):pw b w v ks:=by
 rcases h.2 with⟨hv,hn⟩|⟨g,cap,cur,hv,hb,_⟩
 ·refine⟨none,0,by rw[hv,hn],fun j hj=>absurd hj (by omega)⟩
 ·subst hv;refine⟨_,_,rfl,fun j hj=>⟨g,0,rfl,hb,(IC h g rfl).2,?_⟩⟩;rw[mr,It h j (by omega),lJ hj]
theorem VU:(prog.info? 27).map (fun i=>(i.zero,i.size,i.bytes))=some (some .nilIface,1,16):=by kernel_rfl
theorem CD : ∀ (m B : Nat) (w0 : World) (x y : List PR) (w : World) (d : Nat) (v : Value), x.length ≤ m → B ≤ w.heap.size → Below w0.heap.size w0 w → ey w0 v (x ++ y) → trees 1 x = true → (∀ r ∈ x, aC r = true ∧ gp r) → dc (x ++ y) = true → (x ++ y).length ≤ 1099511627776 →
    Calls prog 32 #[v] w (j9 B w0 w d x y)
  | 0, B, w0, x, y, w, d, v, hm, _, _, _, ht, _, _, _ => by
    obtain⟨r,x',rfl,_⟩:=sE ht
    simp at hm
  | m + 1, B, w0, x, y, w, d, v, hm, hB, Li, ja, ht, Br, hrg, hlen => by
    obtain⟨r,x',rfl,ZX⟩:=sE ht
    rw[iz]at ZX
    by_cases h40:r.kind=4
    · have sT := Br r (by simp)
      have akr : nk r = 1 := by
        have h1:=(ji sT.1).1
        rw[h40]at h1
        simp[du]at h1
        unfold nk;omega
      rw[akr]at ZX
      obtain⟨q,x2,rfl,htq⟩:=sE ZX
      have ZR : q.kind = 3 := by
        rw[oh,dc,h40]at hrg
        simp[ig]at hrg
        exact hrg.1
      have qy:=Br q (by simp)
      have Wq : nk q = 0 := by
        have h1:=(ji qy.1).1
        rw[ZR]at h1
        simp[du]at h1
        unfold nk;omega
      rw[Wq]at htq
      have mj:x2=[]:=Cn.1 htq
      subst mj
      exact KD hB Li ja sT.1 h40 ZR qy.1 qy.2 (by simp at hlen;omega)
    have H40:=ae h40
    clear h40
    obtain⟨ao,c,rfl,hle⟩:=ja.2
    have hrc:=ja
    obtain⟨_,_,hv,hc⟩:=(ja.below Li).1
    injection hv with e1 e2 e3
    subst e1 e3
    obtain⟨g,o,rfl,_,hg,vm,vo,vi,vl,lg,bf⟩:=hc 0 (by simp)
    simp only[oh,Is,yB,iz]at lg bf
    obtain⟨⟨am,cm,rfl,_⟩,⟨uY,co,rfl,_⟩,⟨ai,ci,rfl,_⟩,⟨al,cl,rfl,_⟩⟩:=id lg
    obtain⟨nm,XB⟩: ∃n,n=r.ms.length:=⟨_,rfl⟩
    obtain⟨no,ti⟩: ∃n,n=r.mls.length:=⟨_,rfl⟩
    obtain⟨ni,XC⟩: ∃n,n=r.inc.length:=⟨_,rfl⟩
    obtain⟨nl,Lv⟩: ∃n,n=r.labels.length:=⟨_,rfl⟩
    rw[←XB,←ti,←XC,←Lv]at lg bf
    obtain⟨zI,hlr⟩:=Br r (by simp)
    have Xm:=wC zI
    have IH:Hid (∀(B:Nat) (w0:World) (x y:List PR) (w:World) (d:Nat) (v:Value),x.length≤m→B≤w.heap.size→Below w0.heap.size w0 w→ey w0 v (x++y)→trees 1 x=true→(∀r∈x,aC r=true∧gp r)→dc (x++y)=true→(x++y).length≤1099511627776→Calls prog 32 #[v] w (j9 B w0 w d x y)):=ae (CD m)
    have c0:w.cell? ⟨g,o,none⟩=some (.int .i64 r.kind):=bf 0 (by omega)
    have c1:w.cell? ⟨g,o+1,none⟩=some (.int .i64 r.kids):=bf 1 (by omega)
    have c2:w.cell? ⟨g,o+2,none⟩=some (.string r.op):=bf 2 (by omega)
    have c3:w.cell? ⟨g,o+3,none⟩=some (.string r.text):=bf 3 (by omega)
    have c4:w.cell? ⟨g,o+4,none⟩=some (.slice am nm cm):=bf 4 (by omega)
    have c5:w.cell? ⟨g,o+5,none⟩=some (.string r.bU):=bf 5 (by omega)
    have c6:w.cell? ⟨g,o+6,none⟩=some (.string r.step):=bf 6 (by omega)
    have c7:w.cell? ⟨g,o+7,none⟩=some (.string r.off):=bf 7 (by omega)
    have c8:w.cell? ⟨g,o+8,none⟩=some (.string r.tim):=bf 8 (by omega)
    have c9:w.cell? ⟨g,o+9,none⟩=some (.bool r.bool):=bf 9 (by omega)
    have PC:w.cell? ⟨g,o+10,none⟩=some (.bool r.given):=bf 10 (by omega)
    have PD:w.cell? ⟨g,o+11,none⟩=some (.bool r.on):=bf 11 (by omega)
    have c12:w.cell? ⟨g,o+12,none⟩=some (.slice uY no co):=bf 12 (by omega)
    have PE:w.cell? ⟨g,o+13,none⟩=some (.int .i64 r.card):=bf 13 (by omega)
    have PF:w.cell? ⟨g,o+14,none⟩=some (.slice ai ni ci):=bf 14 (by omega)
    have NY:w.cell? ⟨g,o+15,none⟩=some (.bool r.without):=bf 15 (by omega)
    have NZ:w.cell? ⟨g,o+16,none⟩=some (.slice al nl cl):=bf 16 (by omega)
    have ZT:=ae lg
    have HRC:=ae hrc
    have Wz:=ae Br
    have HKN:=ae Xm
    have HN4:=ae (And.intro XB (And.intro ti (And.intro XC Lv)))
    clear bf hc ja hrc Br Xm XB ti XC Lv
    obtain⟨L,hL⟩: ∃L,L=(x'++y).length:=⟨_,rfl⟩
    have hLn:(r::x'++y).length=L+1:=by rw[hL];simp
    rw[hLn]at hlen hle HRC ⊢
    have HL:=ae hL
    clear hL hLn
    go_enter func32,ntmps32
    go_upto_region 2 with(refine ax rfl 46 (.tmp 4) (.tmp 9) rfl w.heap.size _ rfl rfl (aM.new _ _ _) aL rfl rfl ?_)
    intro W' hz jm
    go_upto_region 2 with(fail)
    have aY:Below w.heap.size w W':=ef ((aU w.heap.size w).alloc (aS _) _) jm (by simp) (aS _)
    have HZ:=ae hz
    have cF:=ae aY
    have HR1:=HRC
    clear hz jm aY c0 c1 c2 c3 c4 c5 c6 c7 c8 c9 PC PD c12 PE PF NY NZ
    go_cut [0]from 10 to 11 (fun t0 wx=>wx=W'∧Hid (ey w0 t0 (x'++y)))
    case first =>
      by_cases jK:c=1
      · subst jK
        have HT : Hid (ey w0 (.slice (some ⟨g, o, none⟩) 0 0) (x' ++ y)) := ae (by
          have h0:x'++y=[]:=o6.1 (by rw[←HL.out];omega)
          rw[h0];exact ey.none_)
        obtain rfl:L=0:=by omega
        go_wp2_with fail
        go_meet
        exact⟨rfl,HT⟩
      · have HT : Hid (ey w0 (.slice (some ⟨g, o + 17, none⟩) L (c - 1)) (x' ++ y)) := ae (by
          have:=HR1.out.tail (l:=x'++y)
          rw[←HL.out]at this
          exact this)
        have q1:((c:Int)=1)=False:=bT (by omega)
        have q2:(c=1)=False:=bT jK
        go_wp2_with fail
        go_meet
        exact⟨rfl,HT⟩
    case rest =>
      obtain⟨rfl,Xy⟩:=hcut
      obtain⟨a0,k0,FI,_⟩:=Xy.out.2
      subst FI
      rw[←HL.out]at Xy ⊢
      have z0:wc.cell? ⟨w.heap.size,0,none⟩=some (.int .i64 r.kind):=HZ.out.cell 0
      have z1:wc.cell? ⟨w.heap.size,1,none⟩=some (.int .i64 (nk r:Int)):=(HZ.out.cell 1).trans (by rw[←HKN.out];rfl)
      have arA : nk r ≤ 1099511627776 := by
        have h1:=BG x' (nk r) ZX
        have h2:=HL.out
        rw[iF]at h2
        omega
      have HTR:=ae ZX
      have HRG:=ae hrg
      have HLL:=ae lg
      have HM:=ae (show x'.length≤m by simp at hm;omega)
      clear ht ZX hrg lg hm
      by_cases h4:r.kind=4
      · exact absurd h4 H40.out
      · have q4 : (r.kind == 4) = false := by simpa using h4
        have H4:=ae h4
        clear h4
        go_wp2_with fail
        go_loopw [0,5,28] (fun t0 t5 t28 wx=> ∃i:Nat,t28= .int .i64 (i:Int)∧Hid (Γ B w0 w d x' y (nk r) i (et r (.slice am nm cm) (.slice uY no co) (.slice ai ni ci) (.slice al nl cl)) t0 t5 wx)) (fun _ _ t28 _=>nk r-(intOf t28).toNat)
        case atStart=>exact⟨0,rfl,ae ⟨aV _,HZ.out,⟨[],fun _=>[],[],x',rfl,rfl,HTR.out,rfl,sZ _ _ _ _,(fun j h=>absurd h (by simp)),Xy.out,(fun v h=>by cases h)⟩,cF.out⟩⟩
        case round =>
          obtain⟨i,rfl,hI⟩:=hrel
          obtain⟨ks,cP,cc,rem,qJ,WR,Hn,PZ,aP,yK,ja,WJ⟩:=hI.out.ks
          obtain⟨a6,c6,hv6,abt⟩:=ja.2
          subst hv6
          obtain⟨n6,hn6⟩: ∃n,n=(rem++y).length:=⟨_,rfl⟩
          rw[←hn6]at ja abt hI ⊢
          have HN6:=ae hn6
          clear hn6
          by_cases aA:i<nk r
          · have p1 : ((i : Int) < (nk r : Int)) = True := aD (by omega)
            obtain⟨a,P3,R4,Pw,ZV⟩:=yX rem 1 (nk r-i-1) (by rw[show 1+(nk r-i-1)=nk r-i by omega];exact Hn)
            have P4: ∀q∈a,q∈x':=fun q hq=>by rw[WR,R4];simp[hq]
            have Xr : a.length ≤ m := by
              have h1:=HM.out
              rw[WR,R4]at h1
              simp at h1;omega
            have H5 : (a ++ (P3 ++ y)).length ≤ 1099511627776 := by
              have h2:=HL.out
              rw[WR,R4]at h2
              simp at h2 ⊢;omega
            have afs : dc (a ++ (P3 ++ y)) = true := by
              refine r5 (r::cc) _ ?_
              have h3:=HRG.out
              rw[WR,R4]at h3
              simpa [sY]using h3
            have Ua:ey w0 (.slice a6 n6 c6) (a++(P3++y)):=by rw[←sY,←R4];exact ja
            have Bj:=ae (IH.out wr.heap.size w0 a (P3++y) wr (d+1) _ Xr (aS _) (Li.trans (hI.out.below.mono Li.size)) Ua Pw (fun q hq=>Wz.out q (AX _ (P4 q hq))) afs H5)
            have hBw:B≤wr.heap.size:=bR hB hI.out.below.size
            have HK:=ae (And.intro qJ (And.intro WR (And.intro R4 (And.intro ZV (And.intro PZ (And.intro Pw WJ))))))
            have agm:=ae yK
            have FW:=ae aP
            have R9:i≤1099511627776:=by omega
            clear qJ WR Hn PZ aP yK ja WJ R4 Pw ZV P4 Xr H5 afs Ua abt
            go_wp2_with fail
            (with_reducible refine Bj.out.mono ?_)
            rintro e W2 ⟨nv,sv,rfl,htn,PH,aQ⟩
            obtain⟨tt,gg,rfl⟩:=htn.iface
            obtain⟨a7,c7,hv7,_⟩:=PH.2
            subst hv7
            obtain⟨n7,hn7⟩: ∃n,n=(P3++y).length:=⟨_,rfl⟩
            rw[←hn7]at PH ⊢
            have HN7:=ae hn7
            clear hn7
            have TB:Hid (W2.ownsRow w.heap.size 27 1 u5 i ks):=ae (bJ FW.out aQ)
            have nZ:ks.length=i:=HK.out.1
            have HTN:=ae htn
            have HRN:=ae PH
            have bF:=ae aQ
            clear htn PH aQ
            go_wp2_with ((at_builtin;refine lT rfl (.tmp 35) (.tmp 37) 101 rfl w.heap.size 27 .nilIface 1 16 VU underlying101 rfl (by decide) _ _ _ rfl TB.out [.iface tt (.pointer (some ⟨gg,0,none⟩))] rfl rfl (zL rfl) (by unfold maxLen;omega) (by omega) (bR hI.out.below.size bF.out.size) ?_))
            intro v3 W3 vG AN htwo
            have S4 : Hid (Γ B w0 w d x' y (nk r) (i + 1) (et r (.slice am nm cm) (.slice uY no co) (.slice ai ni ci) (.slice al nl cl)) (.slice a7 n7 c7) v3 W3) := ae (by
              obtain⟨_,WR,R4,ZV,PZ,Pw,WJ⟩:=HK.out
              refine⟨aA,(hI.out.box.below bF.out hI.out.box.lt).grown AN (cW TB.out (hI.out.box.below bF.out hI.out.box.lt) (by decide)).symm,⟨ks++[.iface tt (.pointer (some ⟨gg,0,none⟩))],fun j=>if j=i then ng (d+1) a else cP j,cc++a,P3,by simp[nZ],by rw[WR,R4,sY],by rw[show nk r-(i+1)=nk r-i-1 by omega];exact ZV,?_,vG,?_,by rw[←HN7.out]at*;exact HRN.out,?_⟩,?_⟩
              · rw [VT, nQ, Cs Pw, PZ]
              · intro j hj
                show rk B (d+1) v3 W3 _ (if j=i then ng (d+1) a else cP j)
                by_cases hji:j=i
                · subst hji
                  rw[az rfl,List.getElem_append_right (by omega)]
                  simp only[nZ,Nat.sub_self,Is]
                  refine rk.push (t5:=u5) ⟨wr.heap.size,W2,HTN.out,hBw,iZ.refl _ _,fun q hq=>.inl (FW.out.lt q hq).2⟩ AN htwo
                · have hj2 : j < ks.length := by simp at hj; omega
                  rw[ah hji,List.getElem_append_left hj2]
                  exact((agm.out j hj2).below bF.out).push AN htwo
              · intro q hq
                rcases qV.1 hq with hq|hq
                · exact WJ q hq
                · rw [xg.1 hq]; exact ⟨_, _, rfl⟩
              · exact (hI.out.below.trans (bF.out.mono hI.out.below.size)).grown AN (bR hI.out.below.size bF.out.size) (fun q hq => (TB.out.lt q hq).1))
            obtain⟨a8,m8,c8,hv8⟩:=df vG
            subst hv8
            clear vG AN htwo nZ
            go_wp2_with fail
            exact⟨⟨i+1,by go_num,S4⟩,by simp[intOf];omega⟩
          · have Lu : i = nk r := by have := hI.out.le; omega
            have p1:((i:Int)<(nk r:Int))=False:=bT (by omega)
            have abu:rem=[]:=Cn.1 (by rw[show nk r-i=0 by omega]at Hn;exact Hn)
            have hBw:B≤wr.heap.size:=bR hB hI.out.below.size
            have aft:pw B wr u5 ks:=Zc (by rw[qJ];exact cr aP hB)
            have HND:=ae (Rk hBw (HLL.out.below hI.out.below) hlr zI H4.out aft (by rw[qJ,Lu]) WJ)
            have HBX:=ae hI.out.box
            have aks : Hid (∀ v W2, ba B W2 v r ks → Below wr.heap.size wr W2 → j9 B w0 w d (r :: x') y (.returned (.tuple #[v, .slice a6 n6 c6])) W2) := ae fun v W2 hn hb => by
              have hT:=dJ.mk d v r ks cP hn fun j hj=>((yK j hj).tree).later hb
              have td:((List.range ks.length).flatMap cP).map (·.2)=x':=by rw[qJ,PZ,WR,abu,nR]
              have hA:=hT.ng
              rw[mq,td]at hA
              rw[hA]at hT
              exact⟨v,_,rfl,hT,by rw[abu]at ja;exact ja,hI.out.below.trans (hb.mono hI.out.below.size)⟩
            obtain⟨a8,m8,c8,hv8⟩:=df aP
            subst hv8
            clear qJ WR Hn PZ aP yK ja WJ aft abu Lu abt
            go_wp2_with (first|(refine cG rfl 46 (.tmp 4) rfl w.heap.size rfl HBX.out underlying46 aL ?_)|(go_at_call 61;refine HND.out.mono ?_;rintro e W2 ⟨v,rfl,hn,hb⟩;have HF:=ae (aks.out v W2 hn hb);obtain⟨tv,gv,Sb⟩:=hn.iface;subst Sb;clear hn hb))
            go_ret2
            exact HF.out
structure RV where
 r:PR
 m:Value
 o:Value
 i:Value
 l:Value
def rvC (x:RV):List Value:=nc x.r x.m x.o x.i x.l
theorem Zd (x:RV):(rvC x).length=17:=rfl
def X8 (w:World) (xs:List RV):Prop:= ∀x∈xs,bA 0 w x.r x.m x.o x.i x.l
theorem X8.below {w w':World} {xs:List RV} (h:X8 w xs) (hb:Below w.heap.size w w'):X8 w' xs:=fun x hx=>(h x hx).below hb
theorem ey.jt {xs:List RV} (h:w.ownsRow b e 17 v xs.length (xs.flatMap rvC)) (hl:X8 w xs):ey w v (xs.map (·.r)):=by
 obtain⟨ao,c,h1,h2⟩:=wh rvC 17 Zd xs h;have ue: ∃c2,v= .slice ao xs.length c2∧xs.length≤c2:=by
  rcases h.2 with⟨hv,hn⟩|⟨g,cap,cur,hv,_,_,hc,_⟩
  ·rw[h1]at hv;injection hv with e1 e2 e3
   exact⟨0,by rw[h1,e3],by omega⟩
  ·rw[h1]at hv;injection hv with e1 e2 e3
   exact⟨c,h1,by omega⟩
 obtain⟨c2,Pr,hle⟩:=ue;refine⟨⟨ao,c2,by rw[Pr,ln],fun j hj=>?_⟩,ao,c2,by rw[Pr,ln],by rw[ln];exact hle⟩;have KR:j<xs.length:=by simpa using hj
 obtain⟨g,o,a,lb,u,x⟩:=h2 j KR;have e:(xs.map (·.r))[j]=xs[j].r:=by simp
 rw[e];refine⟨g,o,a,aV _,u,xs[j].m,xs[j].o,xs[j].i,xs[j].l,hl _ (jj KR),fun k hk=>?_⟩;rw[x k hk];exact lJ _
structure OR (lo:Nat) (W:World) (v:Value) (xs:List WI) (rs:List PR):Prop where
 own:W.ownsRow lo 46 17 v xs.length (xs.flatMap WI.cs)
 px: ∀z∈xs,z.Px lo W
 Hf:xs.Pairwise WI.SO
 key:xs.map (·.r)=rs
theorem OR.below {lo:Nat} {W W':World} {v:Value} {xs:List WI} {rs:List PR} (h:OR lo W v xs rs) (hb:Below W.heap.size W W'):OR lo W' v xs rs:=⟨bJ h.own hb,fun z hz=>(h.px z hz).below hb,h.Hf,h.key⟩
def WI.rv (x:WI):RV:=⟨x.r,x.m,x.o,x.i,x.l⟩
theorem Ze (xs:List WI):(xs.map WI.rv).flatMap rvC=xs.flatMap WI.cs:=by
 induction xs with
 |nil=>rfl
 |cons x xs ih=>rw[mq,vs,vs,ih];rfl
theorem OR.rows {xs:List WI} (h:OR lo W v xs rs):ey W v rs:=by
 have h1:=h.own;rw[←Ze,show xs.length=(xs.map WI.rv).length by simp]at h1;have:=ey.jt h1 fun x hx=>by
  obtain⟨z,hz,rfl⟩:=tz.1 hx;exact(h.px z hz).1.ls.lo (aV _)
 rw[List.map_map]at this;rw[←h.key];exact this
theorem OR.len {xs:List WI} (h:OR lo W v xs rs):xs.length=rs.length:=by rw[←h.key,ln]
theorem rL.or {e:Ending} (h:rL w rs e w'): ∃ao n c xs,e= .returned (.slice ao n c)∧OR w.heap.size w' (.slice ao n c) xs rs∧Below w.heap.size w w':=by
 obtain⟨vv,xs,rfl,h1,h2,h3,h4,h5⟩:=h;obtain⟨ao,n,c,rfl⟩:=df h2;exact⟨ao,n,c,xs,rfl,⟨h2,h3,h4,h1⟩,h5⟩
theorem jD.or {e:Ending} (h:jD w L e w') (hL:L.map (·.2)=rs): ∃ao n c xs,e= .returned (.slice ao n c)∧OR w.heap.size w' (.slice ao n c) xs rs∧Below w.heap.size w w':=by
 obtain⟨vv,xs,rfl,h1,h2,h3,h4,h5⟩:=h;obtain⟨ao,n,c,rfl⟩:=df h2;refine⟨ao,n,c,xs,rfl,⟨h2,h3,h4,?_⟩,h5⟩;rw[←hL,←h1,List.map_map];rfl
