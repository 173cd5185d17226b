import Derived.Test.YtcdoilkjmjbgmaaGreatDoorR41
/- Part of the proof of YtcdoilkjmjbgmaaGreatDoorCardR: TwD TkJ TgR TkR TkK TsE TsD TsF. -/
set_option maxRecDepth 100000
set_option maxHeartbeats 4000000
set_option linter.unusedVariables false
set_option linter.unusedSimpArgs false
namespace Go.Proofs.YtcdoilkjmjbgmaaGreatDoor
open Go.RowKit
open Tryz
variable {B b n size p i B0 s g o sz k lo b1 b2 nm cm d an ac bn bc:Nat} {W W' w W3 wr W9 W10 w' w0 W1 W2:World} {e t:TypeId} {vv v3 v m mo l v' v1 v2 z0 z1 z2 z3 z4 z5 z6 z7 z8 z9 z10 z11 z12 z13 z14 z15 z16 vm:Value} {xs ys ks:List Value} {cs:Array Value} {L pre:List (Nat×PR)} {ss:List ByteArray} {r:PR} {rs:List PR} {am bm:Option Addr} {P:Program} {ops:Array Oper} {a:Act} {zs:List (qQ×Value)}
theorem Av (h:Below W.heap.size W W'):KeepsFrom B W W':=⟨h.size,fun k o _ hk _=>(h.block k (IF.1 hk).1).trans hk⟩
theorem Ei (h:W.ownsRow b e size vv n xs) (hg:W.grownBy W' vv.ownBlock):KeepsFrom B W W':=by
 refine⟨hg.size,fun k o _ hk ho=>(hg.block k (IF.1 hk).1 ?_).trans hk⟩;intro e';rcases h.2 with⟨rfl,_⟩|⟨g,cap,cur,rfl,_,Is,_⟩
 ·simp[Value.ownBlock]at e'
 ·simp[Value.ownBlock]at e';subst e';rw[Is]at hk;injection hk with hk
  subst hk;cases ho
theorem Ej (h:aK W p t cs) (u:Value):KeepsFrom B W (W.setCell ⟨p,i,none⟩ u):=by
 refine⟨by simp,fun k o _ hk ho=>?_⟩;rw[yJ W ⟨p,i,none⟩ u k ?_]
 ·exact hk
 ·show k≠p;intro e;rw[e]at hk;rw[show W.heap[p]? =some (.cells cs t (0,0))from h]at hk;injection hk with hk
  subst hk;cases ho
theorem ny.jI {B:Nat} {W W':World} (hB:B≤W.heap.size) (h:Below W.heap.size W W'):ny B W W':=⟨Kept.jI hB h,kZ.jI h⟩
theorem WI.Px.below {B:Nat} {x:WI} {W W':World} (h:x.Px B W) (hb:Below W.heap.size W W'):x.Px B W':=⟨h.1.below hb,h.2⟩
theorem tY.below {B p:Nat} {xs:List WI} {W W':World} (h:tY B p xs W) (hb:Below W.heap.size W W'):tY B p xs W':=by
 obtain⟨vv,h1,h2,h3,h4⟩:=h;exact⟨vv,h1.below hb h1.lt,bf h2 hb,fun z hz=>(h3 z hz).below hb,h4⟩
theorem VP {pre:List WI} {x:WI} (h1:aK W p 22 #[vv]) (h2:W.ownsRow B 46 17 vv pre.length (pre.flatMap WI.cs)) (h3: ∀z∈pre,z.Px B W) (AU:Below B w W) (hB:B≤p) (F8:x.Px B W) (h4:pre.Pairwise WI.SX) (h5: ∀z∈pre,z.SX x)
  (lv:W3.ownsRow B 46 17 v3 (pre.length+1) (pre.flatMap WI.cs++x.cs)) (vA:W.grownBy W3 vv.ownBlock):
  KeepsFrom B0 W (W3.setCell ⟨p,0,none⟩ v3)∧ny B W (W3.setCell ⟨p,0,none⟩ v3)∧tY B p (pre++[x]) (W3.setCell ⟨p,0,none⟩ v3)∧Below B w (W3.setCell ⟨p,0,none⟩ v3):=by
 have hz:aK W3 p 22 #[vv]:=h1.grown vA (cI h2 h1 (by decide)).symm;have hk: ∀t,46≠t→22≠t→kZ t W (W3.setCell ⟨p,0,none⟩ v3):=fun t ht ZP g cs hb=>((yp h2 vA ht) g cs hb).FQ (by rintro rfl;exact aK.ne_ ((yp h2 vA ht) _ cs hb) hz (Ne.symm ZP) rfl) _
 have hbB:Below B W W3:=(aV B W).grown vA (bP hB (ju h1.lt)) (fun q hq=>(h2.lt q hq).1);have Jn: ∀z:WI,z.Px B W→z.Px B (W3.setCell ⟨p,0,none⟩ v3):=fun z h=>⟨(h.1.push h2 vA).bT hz (by decide) (by decide),h.2⟩
 refine⟨(Ei h2 vA).trans (Ej hz _),⟨⟨hbB.setCell (p:=⟨p,0,none⟩) hB _,hk _ (by decide) (by decide)⟩,hk _ (by decide) (by decide)⟩,⟨v3,?_,?_,?_,?_⟩,(AU.trans hbB).setCell (p:=⟨p,0,none⟩) hB _⟩
 ·have:=hz.bT 0 v3;simpa using this
 ·rw[yI,iJ];exact aD (by simpa using lv) hz (by decide) v3
 ·intro z hz';rcases qx.1 hz' with hz'|hz'
  ·exact Jn z (h3 z hz')
  ·rw[xD.1 hz'];exact Jn x F8
 ·exact List.pairwise_append.2 ⟨h4,List.pairwise_singleton _ _,fun z hz y hy=>by rw[xD.1 hy];exact h5 z hz⟩
def ll (w:World) (L:List (Nat×PR)) (e:Ending) (w':World):Prop:=
 ∃(vv:Value) (xs:List WI),e= .returned vv∧xs.map WI.key=L∧w'.ownsRow w.heap.size 46 17 vv xs.length (xs.flatMap WI.cs)∧(∀z∈xs,z.Px w.heap.size w')∧xs.Pairwise WI.SX∧Below w.heap.size w w'
theorem VQ {row:Option Nat} (ho:W.ownsRow b e s v n ys) (hg:W.grownBy W' row) (hr: ∀r,row=some r→B0≤r∧ ∃o:Obj,W.heap[r]? =some o∧o.isCells=false):W'.ownsRow b e s v n ys:=by
 refine ho.kept hg ?_;rcases ho.2 with⟨rfl,_⟩|⟨g,cap,cur,rfl,_,Is,_⟩
 ·exact .inl rfl
 ·refine .inr fun e=>?_
  obtain⟨_,o,PV,hn⟩:=hr g e.symm;rw[Is]at PV;injection PV with PV
  subst PV;cases hn
theorem ll.own (hB:w.heap.size≤B0):OwnFrom B0 (ll w L):=by
 rintro e W W' row ⟨vv,xs,h1,h2,h3,h4,h6,h5⟩ hg hr;exact⟨vv,xs,h1,h2,VQ h3 hg hr,fun z hz=>WI.Ug z W W' row (h4 z hz) hg hr,h6,h5.grown hg h5.size fun k e=>bP hB (hr k e).1⟩
theorem FH:(prog.info? 46).map (fun i=>(i.zero,i.size,i.bytes))=some (some (.agg zc),17,240):=by kernel_rfl
theorem YZ:OwnFrom B (fun(_:Unit) W=>aK W g t cs):=by
 rintro _ W W' row h hg hr;refine aK.grown h hg fun e=>?_
 obtain⟨_,o,ho,hn⟩:=hr g e.symm;rw[show W.heap[g]? =some (.cells cs t (0,0))from h]at ho;injection ho with ho
 subst ho;cases hn
theorem FI {α:Type} (h:B≤B0) (hB:B≤w.heap.size):OwnFrom B0 (fun(_:α) W=>Below B w W):=by
 rintro _ W W' row hb hg hr;exact hb.grown hg (bP hB hb.size) fun k e=>bP h (hr k e).1
theorem TK (x:WI) {B:Nat} {W:World} (h:x.Px B W): ∀u∈[.int .i64 x.r.kind,.int .i64 x.r.kids,.string x.r.op,.string x.r.text,x.m,.string x.r.bV,.string x.r.step,.string x.r.off,.string x.r.tim,.bool x.r.bool,.bool x.r.given,.bool x.r.on,x.o,.int .i64 x.r.card,x.i,.bool x.r.without,x.l],u.oneCell'=true:=by
 obtain⟨a1,n1,c1,e1⟩:=cu h.1.m;obtain⟨a2,n2,c2,e2⟩:=cu h.1.o;obtain⟨a3,n3,c3,e3⟩:=cu h.1.i;obtain⟨a4,n4,c4,e4⟩:=cu h.1.l;rw[e1,e2,e3,e4];intro u hu;simp only[gB,kM,iP]at hu;rcases hu with rfl|rfl|rfl|rfl|rfl|rfl|rfl|rfl|rfl|rfl|rfl|rfl|rfl|rfl|rfl|rfl|rfl<;>rfl
attribute [local go_sem] Oper.semAt_some
theorem FJ (h:eU b w v L) (hL:L.length≤4294967296) (hR: ∀x∈L,gD x.2):
  Calls prog 17 #[.agg #[v]] w (ll w L):=by
 have bW:Below w.heap.size w (((w.alloc (.cells #[v] 29)).alloc (.cells #[.slice none 0 0] 22)).alloc (.cells #[v] 29)):=(((aV _ w).alloc (aS _) _).alloc (by simp) _).alloc (by simp;omega) _;have kr:=(aK.new ((w.alloc (.cells #[v] 29)).alloc (.cells #[.slice none 0 0] 22)) 29 #[v]);have jQ:=(aK.new (w.alloc (.cells #[v] 29)) 22 #[.slice none 0 0]).alloc (.cells #[v] 29);simp only[World.size_alloc]at jQ kr;have hs:=fun n=>NM h bW (kr.cell 0) (by simp) hR (by omega) n
 have HS:=aa hs;have iF:=aa bW;have HC1:=aa jQ;have HL:=aa hL;clear h hL hR bW jQ kr hs;refine(Bn (n:=5)).1 ?_;refine callsIn_of_wp_marks func17 rfl trivial ?_ rfl;simp only[ntmps17,List.size_toArray,dZ,nW,Nat.reduceAdd,Nat.reduceSub,OE,OF,List.push_toArray,OH,ry,py]
 gi_wp2_with fail
 refine⟨trivial,?_⟩;refine(Bn.2 (RH v _)).mono ?_;rintro e w' ⟨rfl,rfl⟩
 gi_wp2_with fail
 refine Ef rfl (by omega) (gf:=33) (lb:=#[.pointer (some ⟨w.heap.size+1+1,0,none⟩)]) rfl trivial (enters_of func33 (by kernel_rfl) rfl) (by have:=HS.out 4;simpa using this)
  (fun xs A l o o' h _ _ _=>h) (fun xs A l o o' h _ _ _=>h) (fun h k=>h.trans k) (fun W l o o' hl=>ny.putObj W l o o' (bP iF.out.size hl)) (fun _=>rfl)
  (fun pre W=>tY w.heap.size (w.heap.size+1) pre W∧Below w.heap.size w W) (fun _ _ _=>False)
  (tY.own.and (FI (by simp;omega) (aS _))) (fun _ _ _ _ _ hs _ _=>hs) ⟨⟨_,HC1.out,rh _ _ _ _,fun z hz=>(by cases hz),List.Pairwise.nil⟩,iF.out⟩
  (fun pre x a' W=>((tY w.heap.size (w.heap.size+1) pre W∧Below w.heap.size w W)∧x.Px w.heap.size W)∧(∀z∈pre,z.SX x)∧ ∃g,a'={tmps:=#[.agg #[v],.pointer (some ⟨w.heap.size,0,none⟩),.slice none 0 0,.pointer (some ⟨w.heap.size+1,0,none⟩),undef,.pointer (some ⟨g,0,none⟩),.agg #[v],.func (.func 33) #[] #[.pointer (some ⟨w.heap.size+1+1,0,none⟩)],.int .i64 (x.d:Int),.agg #[.int .i64 x.r.kind,.int .i64 x.r.kids,.string x.r.op,.string x.r.text,x.m,.string x.r.bV,.string x.r.step,.string x.r.off,.string x.r.tim,.bool x.r.bool,.bool x.r.given,.bool x.r.on,x.o,.int .i64 x.r.card,x.i,.bool x.r.without,x.l],undef,undef,undef,undef,undef],defers:=[]}∧aK W g 46 #[.int .i64 x.r.kind,.int .i64 x.r.kids,.string x.r.op,.string x.r.text,x.m,.string x.r.bV,.string x.r.step,.string x.r.off,.string x.r.tim,.bool x.r.bool,.bool x.r.given,.bool x.r.on,x.o,.int .i64 x.r.card,x.i,.bool x.r.without,x.l]) ?absx ?assign ?body ?done ?stop
 case absx=>
  rintro pre x a' A l o o' ⟨⟨h1,h2⟩,h3,g,h4,h5⟩ hl ho hn;exact⟨⟨yn (tY.own.and (FI (by simp;omega) (aS _))) pre A l o o' h1 hl ho hn,yn WI.Ug x A l o o' h2 hl ho hn⟩,h3,g,h4,yn YZ () A l o o' h5 hl ho hn⟩
 case stop=>
  rintro D c pre W _ _ h _;exact h.elim
 case assign=>
  rintro l pre x W0 W K cJ ⟨hI,AU⟩ hbA F8 hK;have HI:=aa (And.intro (hI.below hbA) (And.intro (AU.trans (hbA.mono AU.size)) (show x.Px w.heap.size W from⟨F8.1.lo AU.size,F8.2⟩)));have HFA:Hid (∀z∈pre,z.SX x):=aa (by obtain⟨_,_,_,h3,_⟩:=hI;exact fun z hz=>WI.Uf (h3 z hz) F8);clear hI AU F8 hbA cJ;simp only[WI.DV,jB];have h17:=rq.2 (TK x HI.out.2.2)
  gi_wp2_with (refine vj rfl 46 (.tmp 5) (.tmp 9) rfl W.heap.size #[.int .i64 x.r.kind,.int .i64 x.r.kids,.string x.r.op,.string x.r.text,x.m,.string x.r.bV,.string x.r.step,.string x.r.off,.string x.r.tim,.bool x.r.bool,.bool x.r.given,.bool x.r.on,x.o,.int .i64 x.r.card,x.i,.bool x.r.without,x.l] rfl rfl (aK.new W 46 zc) (by kernel_rfl) rfl h17 ?_;intro W2 aN qZ;have bC:=aa (And.intro aN qZ);clear aN qZ)
  have ot:Below W.heap.size W W2:=fF ((aV _ W).alloc (aS _) _) bC.out.2 (by simp) (aS _);exact hK _ _ (Av ot) (ny.jI HI.out.2.1.size ot) ⟨⟨⟨HI.out.1.below ot,HI.out.2.1.trans (ot.mono HI.out.2.1.size)⟩,HI.out.2.2.below ot⟩,HFA.out,_,rfl,bC.out.1⟩
 case body=>
  rintro l pre x a' W cJ ⟨⟨⟨⟨vv,h1,h2,h3,h4⟩,AU⟩,F8⟩,h5,g,rfl,hg⟩;have hlen:pre.length+1≤4294967296:=by
   have:=cJ.length_le;have:=HL.out;simp only[jW,iJ,dZ,nW]at*
   omega
  have c0:W.cell? ⟨w.heap.size+1,0,none⟩=some vv:=h1.cell 0;have h17:=TK x F8;have HF:Hid (∀v3 W3,_→_→_):=aa fun v3 W3 lv vA=>VP (B0:=(((w.alloc (.cells #[v] 29)).alloc (.cells #[.slice none 0 0] 22)).alloc (.cells #[v] 29)).heap.size) (v3:=v3) (W3:=W3) h1 h2 h3 AU (Nat.le_succ _) F8 h4 h5 lv vA
  have HZ:Hid (∀W3,W.grownBy W3 vv.ownBlock→aK W3 (w.heap.size+1) 22 #[vv]):=aa fun W3 vA=>h1.grown vA (cI h2 h1 (by decide)).symm
  have H2:=aa h2;have HG:=aa hg;have AE:Hid (w.heap.size≤W.heap.size):=aa AU.size;clear h1 h2 h3 h4 h5 AU F8 hg cJ
  gi_wp2_with (first
   |(refine xt rfl 46 (.tmp 5) rfl g rfl HG.out underlying46 (by kernel_rfl) ?_)
   |(refine Dz rfl (.tmp 10) (.tmp 12) 22 rfl w.heap.size 46 _ 17 240 FH underlying22 rfl (by decide) _ pre.length (pre.flatMap WI.cs) rfl H2.out [.int .i64 x.r.kind,.int .i64 x.r.kids,.string x.r.op,.string x.r.text,x.m,.string x.r.bV,.string x.r.step,.string x.r.off,.string x.r.tim,.bool x.r.bool,.bool x.r.given,.bool x.r.on,x.o,.int .i64 x.r.card,x.i,.bool x.r.without,x.l] rfl rfl h17 (by unfold maxLen;omega) (by omega) AE.out ?_;intro v3 W3 lv vA _;have pg:=aa lv;have HG3:=aa vA;obtain⟨a3,n3,c3,SN⟩:=cu lv;subst SN;have k3:=(HZ.out _ vA).cell 0;have f3:=(HZ.out _ vA).frozen 0;simp at k3;clear lv vA))
  exact HF.out _ _ pg.out HG3.out
 case done=>
  rintro D xs W hD Zs ⟨⟨vv,h1,h2,h3,h4⟩,AU⟩ hK;have c0:W.cell? ⟨w.heap.size+1,0,none⟩=some vv:=h1.cell 0;have HP:Hid (ll w L (.returned vv) W):=aa ⟨vv,xs,rfl,Zs,h2,h3,h4,AU⟩;clear h1 h2 h3 h4 AU
  gi_wp2_with fail
  refine⟨by simp,.inl ⟨_,_,rfl,run_takeDeferred hK,?_⟩⟩;refine⟨_,results_tmp (show f17.results= #[.tmp 2]from rfl) _ _ _,?_⟩;exact OwnFrom.putObj (ll.own iF.out.size) _ HP.out hD hK rfl
theorem cU.src (h:cU b w v ss):vM 1 w v ss.length (ss.flatMap qS):=by
 obtain⟨ao,c,rfl,hc⟩:=h;refine⟨ao,c,rfl,rU qS 1 (fun _=>rfl) ss,fun u hu=>?_,?_⟩
 ·obtain⟨m,_,hm⟩:=I8.1 hu;simp only[qS,gB,kM,iP]at hm;rcases hm with rfl;rfl
 ·cases ss with
  |nil=>cases ao with
   |none=>exact .inl ⟨rfl,rfl⟩
   |some a=>exact .inr ⟨a,rfl,fun j u hu=>by simp at hu⟩
  |cons m ms=>
   obtain⟨g,o,rfl,_⟩:=hc 0 (by simp);refine .inr ⟨_,rfl,fun j u hu=>?_⟩;rw[ri];refine qe qS 1 (fun _=>rfl) (by decide) (m::ms) w g o (fun j hj i hi=>?_) j u hu;obtain⟨g',o',he,_,_,x⟩:=hc j hj;cases he
   match i,hi with
   |0,_=>rw[ow];exact x
theorem wB {i:Value} (h: ∀k (hk:k<17),W.cell? ⟨g,o+k,none⟩=some ((lO r m mo i l)[k]'(by simp[lO];omega))):
  W.cell? ⟨g,o,none⟩=some (.int .i64 r.kind)∧W.cell? ⟨g,o+1,none⟩=some (.int .i64 r.kids)∧W.cell? ⟨g,o+2,none⟩=some (.string r.op)∧W.cell? ⟨g,o+3,none⟩=some (.string r.text)∧W.cell? ⟨g,o+4,none⟩=some m∧W.cell? ⟨g,o+5,none⟩=some (.string r.bV)∧W.cell? ⟨g,o+6,none⟩=some (.string r.step)∧W.cell? ⟨g,o+7,none⟩=some (.string r.off)∧W.cell? ⟨g,o+8,none⟩=some (.string r.tim)∧W.cell? ⟨g,o+9,none⟩=some (.bool r.bool)∧W.cell? ⟨g,o+10,none⟩=some (.bool r.given)∧W.cell? ⟨g,o+11,none⟩=some (.bool r.on)∧W.cell? ⟨g,o+12,none⟩=some mo∧W.cell? ⟨g,o+13,none⟩=some (.int .i64 r.card)∧W.cell? ⟨g,o+14,none⟩=some i∧W.cell? ⟨g,o+15,none⟩=some (.bool r.without)∧W.cell? ⟨g,o+16,none⟩=some l:=
 ⟨h 0 (by omega),h 1 (by omega),h 2 (by omega),h 3 (by omega),h 4 (by omega),h 5 (by omega),h 6 (by omega),h 7 (by omega),h 8 (by omega),h 9 (by omega),h 10 (by omega),h 11 (by omega),h 12 (by omega),h 13 (by omega),h 14 (by omega),h 15 (by omega),h 16 (by omega)⟩
def TL (w:World) (rs:List PR) (k:Nat) (vv:Value) (W:World):Prop:=
 ∃xs:List WI,xs.map (·.r)=rs.take k∧W.ownsRow w.heap.size 46 17 vv xs.length (xs.flatMap WI.cs)∧(∀z∈xs,z.Px w.heap.size W)∧xs.Pairwise WI.SX∧Below w.heap.size w W
def sd (w:World) (rs:List PR) (e:Ending) (w':World):Prop:=
 ∃(vv:Value) (xs:List WI),e= .returned vv∧xs.map (·.r)=rs∧w'.ownsRow w.heap.size 46 17 vv xs.length (xs.flatMap WI.cs)∧(∀z∈xs,z.Px w.heap.size w')∧xs.Pairwise WI.SX∧Below w.heap.size w w'
theorem RJ (w:World) (g i:Nat) (u:Value):w.grownBy (w.setCell ⟨g,i,none⟩ u) (some g):=
 ⟨rfl,by first|rfl|simp,rfl,by simp,fun k _ bZ=>yJ w ⟨g,i,none⟩ u k (by rintro rfl;exact bZ rfl)⟩
structure CS (wr W:World) (cs:Array Value):Prop where
 z:aK W wr.heap.size 46 cs
 b:Below wr.heap.size wr W
theorem CS.list (h:CS wr W cs) (he:e≠46) (hg:(W.alloc (.cells #[] e)).grownBy W3 (some W.heap.size)) (ho:W3.ownsRow W.heap.size e sz v3 n ys):
  CS wr (W3.setCell ⟨wr.heap.size,k,none⟩ v3) (cs.setIfInBounds k v3)∧(W3.setCell ⟨wr.heap.size,k,none⟩ v3).ownsRow W.heap.size e sz v3 n ys∧W.grownBy (W3.setCell ⟨wr.heap.size,k,none⟩ v3) (some wr.heap.size):=by
 have hl:=h.z.lt;have z3:aK W3 wr.heap.size 46 cs:=(h.z.alloc _).grown hg (by intro e;injection e;omega);have bW:Below W.heap.size W W3:=((aV W.heap.size W).alloc (aS _) _).grown hg (by simp) (fun k hk=>by injection hk with hk;omega);exact⟨⟨z3.bT k v3,(h.b.trans (bW.mono h.b.size)).setCell (p:=⟨wr.heap.size,k,none⟩) (aS _) _⟩,aD ho z3 he v3,aM (fx bW _) (RJ W3 wr.heap.size k v3)⟩
theorem o6 (W:World) (e:TypeId) (sz:Nat):(W.alloc (.cells #[] e)).ownsRow W.heap.size e sz (.slice (some ⟨W.heap.size,0,none⟩) 0 0) 0 []:=by
 have:=World.ownsRow_made (size:=sz) (base:=W.heap.size) (e:=e) W #[] 0 (aS _) (dQ _) (by simp);simpa using this
theorem RL {xs:List WI} {x:WI} (hm:xs.map (·.r)=rs.take k) (ho:wr.ownsRow w.heap.size 46 17 vv xs.length (xs.flatMap WI.cs)) (hp: ∀z∈xs,z.Px w.heap.size wr) (hf:xs.Pairwise WI.SX) (hb:Below w.heap.size w wr)
  (hk:k<rs.length) (hx:x.r=rs[k]) (P9:Below wr.heap.size wr W9) (hB:B=wr.heap.size) (F8:x.Px B W9) (hr:W10.ownsRow w.heap.size 46 17 v' (xs.length+1) (xs.flatMap WI.cs++x.cs)) (hg:W9.grownBy W10 vv.ownBlock):TL w rs (k+1) v' W10:=by
 subst hB;have ho9:=bf ho P9;have Jn: ∀(B:Nat) (z:WI),z.Px B W9→z.Px B W10:=fun B z h=>⟨h.1.push ho9 hg,h.2⟩
 have ak7:Below w.heap.size w W10:=(hb.trans (P9.mono hb.size)).grown hg (bP hb.size P9.size) (fun q hq=>(ho9.lt q hq).1);refine⟨xs++[x],?_,?_,?_,List.pairwise_append.2 ⟨hf,List.pairwise_singleton _ _,fun z hz y hy=>?_⟩,ak7⟩
 ·rw[mX,hm,kO,rj,hx,jy hk]
 ·rw[yI,iJ];simpa using hr
 ·intro z hz;rcases qx.1 hz with hz|hz
  ·exact Jn _ z ((hp z hz).below P9)
  ·rw[xD.1 hz];exact Jn _ x ⟨F8.1.lo hb.size,F8.2⟩
 ·rw[xD.1 hy];exact WI.Uf (hp z hz) F8
theorem VR (h:lP 0 w v rs) (hn:rs.length≤4294967296) (hl: ∀r∈rs,gD r):
  Calls prog 30 #[v] w (sd w rs):=by
 obtain⟨ao,c,rfl,hc⟩:=h;have HC:=aa hc;have HL:=aa hl;clear hc hl;go_enter func30,ntmps30;go_wp2_with fail;go_loopw [3,4] (fun t3 t4 W=> ∃k:Nat,t4= .int .i64 (k:Int)∧Hid (k≤rs.length)∧Hid (TL w rs k t3 W)) (fun _ t4 _=>rs.length-(intOf t4).toNat)
 case atStart=>exact⟨0,rfl,aa (dQ _),aa ⟨[],rfl,rh _ _ _ _,fun z hz=>(by cases hz),List.Pairwise.nil,aV _ _⟩⟩
 case round=>
  obtain⟨k,rfl,hk,hI⟩:=hrel;by_cases ax:k<rs.length
  ·have p1:((k:Int)<(rs.length:Int))=True:=aA (by omega);obtain⟨xs,hm,ho,hp,hf,hb⟩:=hI.out;have Sl:xs.length=k:=by have:=cz List.length hm;rw[jW,nU]at this;omega
   obtain⟨g,o,rfl,_,hg,vm,vo,vi,vl,lr,bh⟩:=HC.out k ax;have hlen:=HL.out rs[k] (jz ax);obtain⟨r,hr⟩: ∃r,r=rs[k]:=⟨_,rfl⟩;rw[←hr]at lr bh hlen;have vO: ∀j (hj:j<17),wr.cell? ⟨g,o+k*17+j,none⟩=some ((lO r vm vo vi vl)[j]'(by simp[lO];omega)):=fun j hj=>(hb.cell (p:=⟨g,_,none⟩) hg).trans (bh j hj)
   obtain⟨c0,c1,c2,c3,c4,c5,c6,c7,c8,c9,P4,P5,c12,P6,P7,Ox,Oy⟩:=wB vO;have ZN:=aa lr;obtain⟨⟨am,cm,hvm,_⟩,⟨tu,co,hvo,_⟩,⟨ai,ci,hvi,_⟩,⟨al,cl,hvl,_⟩⟩:=lr;subst hvm hvo hvi hvl;obtain⟨a3,n3,k3,rfl⟩:=cu ho;have HI:=aa (And.intro hm (And.intro ho (And.intro hp (And.intro hf hb))));have HR:=aa hr;have HXL:=aa Sl;have aaZ:=aa hlen;have xB:Hid (∀W,Below w.heap.size w W→vM 3 W (.slice am r.ms.length cm) r.ms.length (r.ms.flatMap qR)∧vM 1 W (.slice tu r.mls.length co) r.mls.length (r.mls.flatMap qS)∧vM 1 W (.slice ai r.inc.length ci) r.inc.length (r.inc.flatMap qS)∧vM 1 W (.slice al r.labels.length cl) r.labels.length (r.labels.flatMap qS)):=aa fun W h=>by
    have h2:=ZN.out.below h;exact⟨h2.1.src,h2.2.1.src,h2.2.2.1.src,h2.2.2.2.src⟩
   have IE:r.ms.length≤1099511627776:=hlen.1;have tJ:r.mls.length≤1099511627776:=hlen.2.1;have XD:r.inc.length≤1099511627776:=hlen.2.2.1;have IA:r.labels.length≤1099511627776:=hlen.2.2.2;clear hI hm ho hp hf bh vO hr Sl hlen;go_wp2_with (refine ay rfl 46 (.tmp 5) (.tmp 15) rfl wr.heap.size _ rfl rfl (aK.new _ _ _) (by kernel_rfl) rfl rfl ?_);intro W1 cK nf;have qK:CS wr W1 (dS r (.slice am r.ms.length cm) (.slice tu r.mls.length co) (.slice ai r.inc.length ci) (.slice al r.labels.length cl)):=⟨cK,fF ((aV _ wr).alloc (aS _) _) nf (by simp) (aS _)⟩;have AE:Hid (∀W,Below wr.heap.size wr W→Below w.heap.size w W):=aa fun W h=>hb.trans (h.mono hb.size)
   have Ep:=aa qK;have m4:(W1.alloc (.cells #[] 65)).cell? ⟨wr.heap.size,4,none⟩=some (.slice am r.ms.length cm):=(cK.alloc _).cell 4;have qW:=aa (o6 W1 65 3);have Wz:=aa (xB.out _ (AE.out _ (qK.b.alloc qK.b.size (.cells #[] 65)))).1;clear cK nf qK c0 c1 c2 c3 c4 c5 c6 c7 c8 c9 P4 P5 c12 P6 P7 Ox Oy hb;go_wp2_with (at_builtin;refine gu rfl (.tmp 16) (.tmp 18) 39 rfl W1.heap.size 65 _ 3 40 rV underlying39 rfl (by omega) _ 0 [] rfl qW.out _ r.ms.length (r.ms.flatMap qR) rfl Wz.out (by unfold maxLen;omega) (by omega) (by simp) ?_);intro v4 W2 DH hg4;obtain⟨a4,n4,k4,rfl⟩:=cu DH;have z2:aK W2 wr.heap.size 46 _:=(Ep.out.z.alloc (.cells #[] 65)).grown hg4 (by have:=Ep.out.z.lt;simp[Value.ownBlock];omega);have q4:=z2.cell 4;have f4:=z2.frozen 4;simp[dS]at q4;obtain⟨hs4,abd,af6⟩:=Ep.out.list (k:=4) (by decide) hg4 DH;clear z2;go_upto_region 7 with(fail)
   obtain⟨W4,hW4⟩: ∃W4,W4=W2.setCell ⟨wr.heap.size,4,none⟩ (.slice a4 n4 k4):=⟨_,rfl⟩;rw[←hW4]at hs4 abd af6 ⊢
   have Iv:=aa hs4;have PO:=aa abd;have m16:(W4.alloc (.cells #[] 9)).cell? ⟨wr.heap.size,16,none⟩=some (.slice al r.labels.length cl):=by
    have:=(hs4.z.alloc (.cells #[] 9)).cell 16;simpa [dS]using this
   have af7:=aa (o6 W4 9 1);have HX4:=aa (xB.out _ (AE.out _ (hs4.b.alloc hs4.b.size (.cells #[] 9)))).2.2.2;clear DH hg4 hs4 abd af6 q4 f4 m4 qW Wz hW4;go_wp2_with (at_builtin;refine gu rfl (.tmp 21) (.tmp 23) 42 rfl W4.heap.size 9 _ 1 16 rW underlying42 rfl (by omega) _ 0 [] rfl af7.out _ r.labels.length (r.labels.flatMap qS) rfl HX4.out (by unfold maxLen;omega) (by omega) (by simp) ?_);intro v5 W5 Zv hg5;obtain⟨a5,n5,k5,rfl⟩:=cu Zv;have z5:aK W5 wr.heap.size 46 _:=(Iv.out.z.alloc (.cells #[] 9)).grown hg5 (by have:=Iv.out.z.lt;simp[Value.ownBlock];omega);have ZL:=z5.cell 16;have f16:=z5.frozen 16;simp[dS]at ZL;obtain⟨SY,abe,XX⟩:=Iv.out.list (k:=16) (by decide) hg5 Zv;clear z5;go_upto_region 8 with(fail)
   obtain⟨W6,hW6⟩: ∃W6,W6=W5.setCell ⟨wr.heap.size,16,none⟩ (.slice a5 n5 k5):=⟨_,rfl⟩;rw[←hW6]at SY abe XX ⊢
   have HM6:=aa (PO.out.kept XX (.inr (cI PO.out Iv.out.z (by decide))));have HS6:=aa SY;have HL6:=aa abe;have arW:Hid (W4.heap.size≤W6.heap.size):=aa XX.size;have m12:(W6.alloc (.cells #[] 9)).cell? ⟨wr.heap.size,12,none⟩=some (.slice tu r.mls.length co):=by
    have:=(SY.z.alloc (.cells #[] 9)).cell 12;simpa [dS]using this
   have af8:=aa (o6 W6 9 1);have HX6:=aa (xB.out _ (AE.out _ (SY.b.alloc SY.b.size (.cells #[] 9)))).2.1;clear Zv hg5 SY abe XX ZL f16 m16 af7 HX4 hW6;go_wp2_with (at_builtin;refine gu rfl (.tmp 26) (.tmp 29) 42 rfl W6.heap.size 9 _ 1 16 rW underlying42 rfl (by omega) _ 0 [] rfl af8.out _ r.mls.length (r.mls.flatMap qS) rfl HX6.out (by unfold maxLen;omega) (by omega) (by simp) ?_);intro v7 W7 ho7 hg7;obtain⟨a7,n7,k7,rfl⟩:=cu ho7;have z7:aK W7 wr.heap.size 46 _:=(HS6.out.z.alloc (.cells #[] 9)).grown hg7 (by have:=HS6.out.z.lt;simp[Value.ownBlock];omega);have q12:=z7.cell 12;have f12:=z7.frozen 12;simp[dS]at q12;obtain⟨hs7,XY,Tk⟩:=HS6.out.list (k:=12) (by decide) hg7 ho7;clear z7;go_upto_region 9 with(fail)
   obtain⟨W8,hW8⟩: ∃W8,W8=W7.setCell ⟨wr.heap.size,12,none⟩ (.slice a7 n7 k7):=⟨_,rfl⟩;rw[←hW8]at hs7 XY Tk ⊢
   have HM8:=aa (HM6.out.kept Tk (.inr (cI HM6.out HS6.out.z (by decide))));have HL8:=aa (HL6.out.kept Tk (.inr (cI HL6.out HS6.out.z (by decide))));have HOL:Hid (gZ (.slice a7 n7 k7) (.slice a5 n5 k5)):=aa (cQ HL6.out XY (aS _)).symm;have HS8:=aa hs7;have HO8:=aa XY;have arX:Hid (W6.heap.size≤W8.heap.size):=aa Tk.size;have m14:(W8.alloc (.cells #[] 9)).cell? ⟨wr.heap.size,14,none⟩=some (.slice ai r.inc.length ci):=by
    have:=(hs7.z.alloc (.cells #[] 9)).cell 14;simpa [dS]using this
   have af9:=aa (o6 W8 9 1);have HX8:=aa (xB.out _ (AE.out _ (hs7.b.alloc hs7.b.size (.cells #[] 9)))).2.2.1;clear ho7 hg7 hs7 XY Tk q12 f12 m12 af8 HX6 hW8 HM6 HL6;go_wp2_with (at_builtin;refine gu rfl (.tmp 33) (.tmp 36) 42 rfl W8.heap.size 9 _ 1 16 rW underlying42 rfl (by omega) _ 0 [] rfl af9.out _ r.inc.length (r.inc.flatMap qS) rfl HX8.out (by unfold maxLen;omega) (by omega) (by simp) ?_);intro v9 W9 ho9 hg9;obtain⟨a9,n9,k9,rfl⟩:=cu ho9;have z9:aK W9 wr.heap.size 46 _:=(HS8.out.z.alloc (.cells #[] 9)).grown hg9 (by have:=HS8.out.z.lt;simp[Value.ownBlock];omega);have q14:=z9.cell 14;have f14:=z9.frozen 14;simp[dS]at q14;obtain⟨hs9,Tl,Tm⟩:=HS8.out.list (k:=14) (by decide) hg9 ho9;clear z9;go_upto_region 10 with(fail)
   obtain⟨WA,hWA⟩: ∃WA,WA=W9.setCell ⟨wr.heap.size,14,none⟩ (.slice a9 n9 k9):=⟨_,rfl⟩;rw[←hWA]at hs9 Tl Tm ⊢
   have iE:=Ep.out.z.lt;have F8:WI.Px wr.heap.size ⟨0,r,.slice a4 n4 k4,.slice a7 n7 k7,.slice a9 n9 k9,.slice a5 n5 k5⟩ WA:=by
    refine⟨⟨bY (HM8.out.kept Tm (.inr (cI HM8.out HS8.out.z (by decide)))) (ju iE),bY (HO8.out.kept Tm (.inr (cI HO8.out HS8.out.z (by decide)))) HS6.out.b.size,bY Tl HS8.out.b.size,bY (HL8.out.kept Tm (.inr (cI HL8.out HS8.out.z (by decide)))) Iv.out.b.size,cQ HO8.out Tl (aS _),HOL.out,(cQ HL8.out Tl (aS _)).symm⟩,dQ _⟩
   have HPX:=aa F8;have hzA:aK WA wr.heap.size 46 #[.int .i64 r.kind,.int .i64 r.kids,.string r.op,.string r.text,.slice a4 n4 k4,.string r.bV,.string r.step,.string r.off,.string r.tim,.bool r.bool,.bool r.given,.bool r.on,.slice a7 n7 k7,.int .i64 r.card,.slice a9 n9 k9,.bool r.without,.slice a5 n5 k5]:=by
    have:=hs9.z;simpa [dS]using this
   have HZA:=aa hzA;have HBA:=aa hs9.b;have Zl:Hid (WA.ownsRow w.heap.size 46 17 (.slice a3 n3 k3) xs.length (xs.flatMap WI.cs)):=aa (bf HI.out.2.1 hs9.b);have HWA:Hid (w.heap.size≤WA.heap.size):=aa (AE.out _ hs9.b).size;have arY:xs.length≤4294967296:=by have:=HXL.out;omega
   clear ho9 hg9 hs9 Tl Tm q14 f14 m14 af9 HX8 hWA HM8 HL8 F8 hzA iE;go_wp2_with (first|(refine dA rfl 46 (.tmp 5) rfl wr.heap.size rfl HZA.out underlying46 (by kernel_rfl) ?_)|(at_builtin;refine jM rfl (.tmp 40) (.tmp 42) 22 rfl w.heap.size 46 _ 17 240 FH underlying22 rfl (by decide) _ xs.length (xs.flatMap WI.cs) rfl Zl.out [.int .i64 r.kind,.int .i64 r.kids,.string r.op,.string r.text,.slice a4 n4 k4,.string r.bV,.string r.step,.string r.off,.string r.tim,.bool r.bool,.bool r.given,.bool r.on,.slice a7 n7 k7,.int .i64 r.card,.slice a9 n9 k9,.bool r.without,.slice a5 n5 k5] rfl rfl (TK _ HPX.out) (by unfold maxLen;omega) (by omega) HWA.out ?_));intro vB WB hoB hgB _;obtain⟨aB,nB,kB,rfl⟩:=cu hoB;have HN:Hid (TL w rs (k+1) (.slice aB nB kB) WB):=aa (RL HI.out.1 HI.out.2.1 HI.out.2.2.1 HI.out.2.2.2.1 HI.out.2.2.2.2 ax HR.out HBA.out rfl HPX.out hoB hgB);clear hoB hgB;go_wp2_with fail;go_roundw
   case rel=>exact⟨k+1,by go_num,aa ax,HN⟩
   case measure=>simp[intOf];omega
  ·have p1:((k:Int)<(rs.length:Int))=False:=bU (by omega);have uv:k=rs.length:=by have:=hk.out;omega
   subst uv;have HP:Hid (sd w rs (.returned u3) wr):=aa (by
    obtain⟨xs,hm,ho,hp,hf,hb⟩:=hI.out;rw[qO]at hm;exact⟨_,xs,rfl,hm,ho,hp,hf,hb⟩)
   obtain⟨xs,_,ho,_⟩:=hI.out;obtain⟨a3,n3,k3,rfl⟩:=cu ho;clear ho;go_wp2_with fail;go_ret;exact HP.out
structure RV where
 r:PR
 m:Value
 o:Value
 i:Value
 l:Value
def rvC (x:RV):List Value:=lO x.r x.m x.o x.i x.l
theorem Y0 (x:RV):(rvC x).length=17:=rfl
def XZ (w:World) (xs:List RV):Prop:= ∀x∈xs,bw 0 w x.r x.m x.o x.i x.l
theorem XZ.below {w w':World} {xs:List RV} (h:XZ w xs) (hb:Below w.heap.size w w'):XZ w' xs:=fun x hx=>(h x hx).below hb
theorem eC.gp {xs:List RV} (h:w.ownsRow b e 17 v xs.length (xs.flatMap rvC)) (hl:XZ w xs):eC w v (xs.map (·.r)):=by
 obtain⟨ao,c,h1,h2⟩:=wP rvC 17 Y0 xs h;have uH: ∃c2,v= .slice ao xs.length c2∧xs.length≤c2:=by
  rcases h.2 with⟨hv,hn⟩|⟨g,cap,cur,hv,_,_,hc,_⟩
  ·rw[h1]at hv;injection hv with e1 e2 e3
   exact⟨0,by rw[h1,e3],by omega⟩
  ·rw[h1]at hv;injection hv with e1 e2 e3
   exact⟨c,h1,by omega⟩
 obtain⟨c2,PN,hle⟩:=uH;refine⟨⟨ao,c2,by rw[PN,jW],fun j hj=>?_⟩,ao,c2,by rw[PN,jW],by rw[jW];exact hle⟩;have Lr:j<xs.length:=by simpa using hj
 obtain⟨g,o,a,lb,u,x⟩:=h2 j Lr;have e:(xs.map (·.r))[j]=xs[j].r:=by simp
 rw[e];refine⟨g,o,a,dQ _,u,xs[j].m,xs[j].o,xs[j].i,xs[j].l,hl _ (jz Lr),fun k hk=>?_⟩;rw[x k hk];exact eG _
structure OR (lo:Nat) (W:World) (v:Value) (xs:List WI) (rs:List PR):Prop where
 own:W.ownsRow lo 46 17 v xs.length (xs.flatMap WI.cs)
 px: ∀z∈xs,z.Px lo W
 FQ:xs.Pairwise WI.SX
 key:xs.map (·.r)=rs
theorem OR.below {lo:Nat} {W W':World} {v:Value} {xs:List WI} {rs:List PR} (h:OR lo W v xs rs) (hb:Below W.heap.size W W'):OR lo W' v xs rs:=⟨bf h.own hb,fun z hz=>(h.px z hz).below hb,h.FQ,h.key⟩
def WI.rv (x:WI):RV:=⟨x.r,x.m,x.o,x.i,x.l⟩
theorem Y1 (xs:List WI):(xs.map WI.rv).flatMap rvC=xs.flatMap WI.cs:=by
 induction xs with
 |nil=>rfl
 |cons x xs ih=>rw[kO,vS,vS,ih];rfl
theorem OR.rows {xs:List WI} (h:OR lo W v xs rs):eC W v rs:=by
 have h1:=h.own;rw[←Y1,show xs.length=(xs.map WI.rv).length by simp]at h1;have:=eC.gp h1 fun x hx=>by
  obtain⟨z,hz,rfl⟩:=tS.1 hx;exact(h.px z hz).1.ls.lo (dQ _)
 rw[List.map_map]at this;rw[←h.key];exact this
theorem OR.len {xs:List WI} (h:OR lo W v xs rs):xs.length=rs.length:=by rw[←h.key,jW]
theorem sd.or {e:Ending} (h:sd w rs e w'): ∃ao n c xs,e= .returned (.slice ao n c)∧OR w.heap.size w' (.slice ao n c) xs rs∧Below w.heap.size w w':=by
 obtain⟨vv,xs,rfl,h1,h2,h3,h4,h5⟩:=h;obtain⟨ao,n,c,rfl⟩:=cu h2;exact⟨ao,n,c,xs,rfl,⟨h2,h3,h4,h1⟩,h5⟩
theorem ll.or {e:Ending} (h:ll w L e w') (hL:L.map (·.2)=rs): ∃ao n c xs,e= .returned (.slice ao n c)∧OR w.heap.size w' (.slice ao n c) xs rs∧Below w.heap.size w w':=by
 obtain⟨vv,xs,rfl,h1,h2,h3,h4,h5⟩:=h;obtain⟨ao,n,c,rfl⟩:=cu h2;refine⟨ao,n,c,xs,rfl,⟨h2,h3,h4,?_⟩,h5⟩;rw[←hL,←h1,List.map_map];rfl
theorem VS (h1:lP b1 w v1 rs) (h2:lP b2 w v2 rs) (hn:rs.length≤4294967296) (hl: ∀r∈rs,gD r):
  Calls prog 18 #[v1,v2] w (aG w true):=by
 obtain⟨a1,k1,rfl,jQ⟩:=h1;obtain⟨a2,k2,rfl,kr⟩:=h2;have H1:=aa jQ;have H2:=aa kr;have HL:=aa hl;clear jQ kr hl;go_enter func18,ntmps18;go_wp2_with fail;go_loopw [5] (fun t5 W=> ∃j:Nat,t5= .int .i64 (j:Int)∧Hid (j≤rs.length)∧Hid (Below w.heap.size w W)) (fun t5 _=>rs.length-(intOf t5).toNat)
 case atStart=>exact⟨0,rfl,aa (dQ _),aa (aV _ _)⟩
 case round=>
  obtain⟨j,rfl,hj,hb⟩:=hrel;by_cases ax:j<rs.length
  ·have p1:((j:Int)<(rs.length:Int))=True:=aA (by omega);obtain⟨g,o,rfl,_,hg,vm,vo,vi,vl,lr,bh⟩:=H1.out j ax;obtain⟨g',o',rfl,_,Zt,vm',vo',Xj,vl',abf,vO⟩:=H2.out j ax;have hlen:=HL.out rs[j] (jz ax);generalize rs[j]=r at lr bh abf vO hlen;have SZ:Hid (∀W,Below w.heap.size w W→Calls prog 12 #[jB r vm vo vi vl,jB r vm' vo' Xj vl'] W (aG W true)):=aa fun W h=>sC (lr.below h) (abf.below h) hlen
   obtain⟨⟨am,cm,rfl,_⟩,⟨ao,co,rfl,_⟩,⟨ai,ci,rfl,_⟩,⟨al,cl,rfl,_⟩⟩:=lr;obtain⟨⟨am',cm',rfl,_⟩,⟨ao',co',rfl,_⟩,⟨ai',ci',rfl,_⟩,⟨al',cl',rfl,_⟩⟩:=abf;have yD:Below w.heap.size w wr.drew:=hb.out.drew;obtain⟨c0,c1,c2,c3,c4,c5,c6,c7,c8,c9,P4,P5,c12,P6,P7,Ox,Oy⟩:=wB (W:=wr.drew) (o:=o+j*17) fun k hk=>(yD.cell (p:=⟨g,_,none⟩) hg).trans (bh k hk)
   obtain⟨d0,d1,d2,d3,d4,d5,d6,d7,d8,d9,d10,d11,d12,d13,d14,d15,d16⟩:=wB (W:=wr.drew) (o:=o'+j*17) fun k hk=>(yD.cell (p:=⟨g',_,none⟩) Zt).trans (vO k hk)
   simp only[jB]at SZ;clear bh vO yD hlen hg Zt;go_upto_region 6 with(fail)
   go_region_law (go_simp;go_at_call 12;(with_reducible refine(SZ.out _ hb.out.drew).mono ?_);rintro e W1 ⟨rfl,aW⟩;have cn:Hid (Below w.heap.size w W1):=aa (hb.out.trans ((((aV _ wr).drew).trans aW).mono hb.out.size));clear aW)
   all_goals
    go_wp2_with fail;go_roundw
    case rel=>exact⟨j+1,by go_num,aa ax,cn⟩
    case measure=>simp[intOf];omega
  ·have p1:((j:Int)<(rs.length:Int))=False:=bU (by omega);go_wp2_with fail;go_ret;exact⟨rfl,hb.out⟩
def og (s:qQ):PR:=⟨3,0,⟨#[]⟩,s.name,s.ms,⟨#[]⟩,⟨#[]⟩,s.off,s.tim,false,false,false,[],0,[],false,[]⟩
theorem bF (w:World) (g i:Nat) (u:Value):w.grownBy (w.setCell ⟨g,i,none⟩ u) (some g):=
 ⟨rfl,by first|rfl|simp,rfl,by simp,fun k _ bZ=>yJ w ⟨g,i,none⟩ u k (by rintro rfl;exact bZ rfl)⟩
theorem ag5 (h:aK W g t #[z0,z1,z2,z3,z4,z5,z6,z7,z8,z9,z10,z11,z12,z13,z14,z15,z16]) (v0 v1 v2 v3 v4 v5 v6 v7 v8 v9 v10 v11 v12 v13 v14 v15 v16:Value):
  aK (((((((((((((((((W.setCell ⟨g,0,none⟩ v0).setCell ⟨g,1,none⟩ v1).setCell ⟨g,2,none⟩ v2).setCell ⟨g,3,none⟩ v3).setCell ⟨g,4,none⟩ v4).setCell ⟨g,5,none⟩ v5).setCell ⟨g,6,none⟩ v6).setCell ⟨g,7,none⟩ v7).setCell ⟨g,8,none⟩ v8).setCell ⟨g,9,none⟩ v9).setCell ⟨g,10,none⟩ v10).setCell ⟨g,11,none⟩ v11).setCell ⟨g,12,none⟩ v12).setCell ⟨g,13,none⟩ v13).setCell ⟨g,14,none⟩ v14).setCell ⟨g,15,none⟩ v15).setCell ⟨g,16,none⟩ v16) g t #[v0,v1,v2,v3,v4,v5,v6,v7,v8,v9,v10,v11,v12,v13,v14,v15,v16]∧W.grownBy (((((((((((((((((W.setCell ⟨g,0,none⟩ v0).setCell ⟨g,1,none⟩ v1).setCell ⟨g,2,none⟩ v2).setCell ⟨g,3,none⟩ v3).setCell ⟨g,4,none⟩ v4).setCell ⟨g,5,none⟩ v5).setCell ⟨g,6,none⟩ v6).setCell ⟨g,7,none⟩ v7).setCell ⟨g,8,none⟩ v8).setCell ⟨g,9,none⟩ v9).setCell ⟨g,10,none⟩ v10).setCell ⟨g,11,none⟩ v11).setCell ⟨g,12,none⟩ v12).setCell ⟨g,13,none⟩ v13).setCell ⟨g,14,none⟩ v14).setCell ⟨g,15,none⟩ v15).setCell ⟨g,16,none⟩ v16) (some g):=by
 refine⟨?_,(aM (aM (aM (aM (aM (aM (aM (aM (aM (aM (aM (aM (aM (aM (aM (aM (bF W g 0 v0) (bF _ g 1 v1)) (bF _ g 2 v2)) (bF _ g 3 v3)) (bF _ g 4 v4)) (bF _ g 5 v5)) (bF _ g 6 v6)) (bF _ g 7 v7)) (bF _ g 8 v8)) (bF _ g 9 v9)) (bF _ g 10 v10)) (bF _ g 11 v11)) (bF _ g 12 v12)) (bF _ g 13 v13)) (bF _ g 14 v14)) (bF _ g 15 v15)) (bF _ g 16 v16))⟩;have:=(((((((((((((((((h.bT 0 v0).bT 1 v1).bT 2 v2).bT 3 v3).bT 4 v4).bT 5 v5).bT 6 v6).bT 7 v7).bT 8 v8).bT 9 v9).bT 10 v10).bT 11 v11).bT 12 v12).bT 13 v13).bT 14 v14).bT 15 v15).bT 16 v16);simpa using this
def Gz (w:World) (s:qQ) (e:Ending) (w':World):Prop:= ∃vm,e= .returned (jB (og s) vm (.slice none 0 0) (.slice none 0 0) (.slice none 0 0))∧bw 0 w' (og s) vm (.slice none 0 0) (.slice none 0 0) (.slice none 0 0)∧Below w.heap.size w w'
theorem Pv {s:qQ} (h:eI 0 w (.slice am nm cm) s.ms) (hl:s.ms.length≤1099511627776):
  Calls prog 24 #[.agg #[.string s.name,.slice am nm cm,.string s.off,.string s.tim]] w (Gz w s):=by
 obtain⟨W0,A1⟩: ∃W0,W0=(w.alloc (.cells #[.string s.name,.slice am nm cm,.string s.off,.string s.tim] 60)).alloc (.cells zc 46):=⟨_,rfl⟩;have vr:Below w.heap.size w W0:=by rw[A1];exact((aV _ w).alloc (aS _) _).alloc (by simp) _
 have lB:aK W0 w.heap.size 60 #[.string s.name,.slice am nm cm,.string s.off,.string s.tim]:=by rw[A1];exact(aK.new _ _ _).alloc _
 have cK:aK W0 (w.heap.size+1) 46 zc:=by
  rw[A1];have:=aK.new (w.alloc (.cells #[.string s.name,.slice am nm cm,.string s.off,.string s.tim] 60)) 46 zc;simpa using this
 simp only[zc]at A1;have HW0:=aa A1;have lu:=aa cK;have F9:=aa lB;have AB:=aa vr;have c0:W0.drew.cell? ⟨w.heap.size,0,none⟩=some (.string s.name):=lB.cell 0;have c1:W0.drew.cell? ⟨w.heap.size,1,none⟩=some (.slice am nm cm):=lB.cell 1;have c2:W0.drew.cell? ⟨w.heap.size,2,none⟩=some (.string s.off):=lB.cell 2;have c3:W0.drew.cell? ⟨w.heap.size,3,none⟩=some (.string s.tim):=lB.cell 3;have e0:(W0.alloc (.cells #[] 65)).drew.cell? ⟨w.heap.size,0,none⟩=some (.string s.name):=(lB.alloc _).cell 0;have e1:(W0.alloc (.cells #[] 65)).drew.cell? ⟨w.heap.size,1,none⟩=some (.slice am nm cm):=(lB.alloc _).cell 1;have e2:(W0.alloc (.cells #[] 65)).drew.cell? ⟨w.heap.size,2,none⟩=some (.string s.off):=(lB.alloc _).cell 2;have e3:(W0.alloc (.cells #[] 65)).drew.cell? ⟨w.heap.size,3,none⟩=some (.string s.tim):=(lB.alloc _).cell 3;have l0:=lB.lt;have l1:=cK.lt;have IE:nm=s.ms.length:=by obtain⟨_,_,hv,_⟩:=h;injection hv
 have IA:nm≤1099511627776:=by omega
 have abg:Hid (vM 3 (W0.alloc (.cells #[] 65)).drew (.slice am nm cm) nm (s.ms.flatMap qR)):=aa (by
  have:=(h.src.below vr).below (((aV W0.heap.size W0).alloc (aS _) (.cells #[] 65)).drew);rw[←IE]at this;exact this)
 have xM:Hid ((W0.alloc (.cells #[] 65)).drew.ownsRow W0.heap.size 65 3 (.slice (some ⟨W0.heap.size,0,none⟩) 0 0) 0 []):=aa (by
  have:=World.ownsRow_made (size:=3) (base:=W0.heap.size) (e:=65) W0 #[] 0 (aS _) (dQ _) (by simp);exact bf this (aV _ _).drew)
 have HNM:=aa IE;clear h hl A1 vr lB cK IE;go_enter func24,ntmps24;go_wp2_with fail;rw[←HW0.out];go_region_held3 (fun W=>W.cell? ⟨w.heap.size,0,none⟩=some (.string s.name)∧W.cell? ⟨w.heap.size,1,none⟩=some (.slice am nm cm)∧W.cell? ⟨w.heap.size,2,none⟩=some (.string s.off)∧W.cell? ⟨w.heap.size,3,none⟩=some (.string s.tim)) (first|go_keep) (first|(refine o8 (by rfl) (.tmp 5) (.tmp 7) 39 (by rfl) W0.heap.size 65 _ 3 40 rV underlying39 rfl (by decide) _ 0 [] (by rfl) xM.out _ nm (s.ms.flatMap qR) (by rfl) abg.out (by unfold maxLen;omega) (by omega) (by simp) ?_;intro v3 W3 lv vA;obtain⟨a3,n3,c3,SN⟩:=cu lv;subst SN;have pg:=aa lv;have jU:aK W3 w.heap.size 60 #[.string s.name,.slice am nm cm,.string s.off,.string s.tim]:=(F9.out.alloc _).drew.grown vA (by simp[Value.ownBlock];omega);have fz:aK W3 (w.heap.size+1) 46 zc:=(lu.out.alloc _).drew.grown vA (by simp[Value.ownBlock];omega);have d0:W3.cell? ⟨w.heap.size,0,none⟩=some (.string s.name):=jU.cell 0;have d1:W3.cell? ⟨w.heap.size,1,none⟩=some (.slice am nm cm):=jU.cell 1;have d2:W3.cell? ⟨w.heap.size,2,none⟩=some (.string s.off):=jU.cell 2;have d3:W3.cell? ⟨w.heap.size,3,none⟩=some (.string s.tim):=jU.cell 3;have q0:W3.cell? ⟨w.heap.size+1,0,none⟩=some (.int .i64 0):=fz.cell 0;have f0:=fz.frozen 0;have q1:W3.cell? ⟨w.heap.size+1,1,none⟩=some (.int .i64 0):=fz.cell 1;have f1:=fz.frozen 1;have q2:W3.cell? ⟨w.heap.size+1,2,none⟩=some (.string ⟨#[]⟩):=fz.cell 2;have f2:=fz.frozen 2;have q3:W3.cell? ⟨w.heap.size+1,3,none⟩=some (.string ⟨#[]⟩):=fz.cell 3;have f3:=fz.frozen 3;have q4:W3.cell? ⟨w.heap.size+1,4,none⟩=some (.slice none 0 0):=fz.cell 4;have f4:=fz.frozen 4;have q5:W3.cell? ⟨w.heap.size+1,5,none⟩=some (.string ⟨#[]⟩):=fz.cell 5;have f5:=fz.frozen 5;have q6:W3.cell? ⟨w.heap.size+1,6,none⟩=some (.string ⟨#[]⟩):=fz.cell 6;have f6:=fz.frozen 6;have q7:W3.cell? ⟨w.heap.size+1,7,none⟩=some (.string ⟨#[]⟩):=fz.cell 7;have f7:=fz.frozen 7;have q8:W3.cell? ⟨w.heap.size+1,8,none⟩=some (.string ⟨#[]⟩):=fz.cell 8;have f8:=fz.frozen 8;have q9:W3.cell? ⟨w.heap.size+1,9,none⟩=some (.bool false):=fz.cell 9;have f9:=fz.frozen 9;have q10:W3.cell? ⟨w.heap.size+1,10,none⟩=some (.bool false):=fz.cell 10;have f10:=fz.frozen 10;have q11:W3.cell? ⟨w.heap.size+1,11,none⟩=some (.bool false):=fz.cell 11;have f11:=fz.frozen 11;have q12:W3.cell? ⟨w.heap.size+1,12,none⟩=some (.slice none 0 0):=fz.cell 12;have f12:=fz.frozen 12;have q13:W3.cell? ⟨w.heap.size+1,13,none⟩=some (.int .i64 0):=fz.cell 13;have f13:=fz.frozen 13;have q14:W3.cell? ⟨w.heap.size+1,14,none⟩=some (.slice none 0 0):=fz.cell 14;have f14:=fz.frozen 14;have q15:W3.cell? ⟨w.heap.size+1,15,none⟩=some (.bool false):=fz.cell 15;have f15:=fz.frozen 15;have ZL:W3.cell? ⟨w.heap.size+1,16,none⟩=some (.slice none 0 0):=fz.cell 16;have f16:=fz.frozen 16;have Lx:=aa fz;have HG3:=aa vA;clear lv vA jU fz));have hs:=ag5 Lx.out (.int .i64 3) (.int .i64 0) (.string ⟨#[]⟩) (.string s.name) (.slice a3 n3 c3) (.string ⟨#[]⟩) (.string ⟨#[]⟩) (.string s.off) (.string s.tim) (.bool false) (.bool false) (.bool false) (.slice none 0 0) (.int .i64 0) (.slice none 0 0) (.bool false) (.slice none 0 0);have HS:=aa hs;have re:rn W0.heap.size W3 (.slice a3 n3 c3) s.ms:=by
  have:=pg.out;rw[kP,ry,HNM.out]at this;exact this
 have bW:Below w.heap.size w W3:=AB.out.trans (((((aV W0.heap.size W0).alloc (aS _) (.cells #[] 65)).drew).grown HG3.out (by simp) (fun k hk=>by simp[Value.ownBlock]at hk;omega)).mono AB.out.size);have HF:Hid (∀W,W3.grownBy W (some (w.heap.size+1))→Gz w s (.returned (.agg (dS (og s) (.slice a3 n3 c3) (.slice none 0 0) (.slice none 0 0) (.slice none 0 0)))) W):=aa fun W hg=>
  ⟨.slice a3 n3 c3,rfl,⟨(eI.gp (oG re hg Lx.out (by decide))).lo (dQ _),fW 0 W,fW 0 W,fW 0 W⟩,fF bW hg (by have:=bW.size;omega) (by omega)⟩
 clear hs re bW q0 q1 q2 q3 q4 q5 q6 q7 q8 q9 q10 q11 q12 q13 q14 q15 ZL f0 f1 f2 f3 f4 f5 f6 f7 f8 f9 f10 f11 f12 f13 f14 f15 f16;go_wp2_with fail;exact cB (aZ results24 rfl HS.out.1 underlying46 aQ) rfl (HF.out _ HS.out.2)
theorem NP {o:Oper} {K:Act → World → Prop} {Q:Exit → Act → World → Prop} {E:Prop} 
    (hg : o.guard = none) (s x : Operand) (t : TypeId) (vp : o.op = Op.call { callee := Callee.builtin Builtin.append, args := #[s, x], argTypes := #[t, t] })
    (base : Nat) (e : TypeId) (z : Value) (size bytes : Nat) (jD : (P.info? e).map (fun i => (i.zero, i.size, i.bytes)) = some (some z, size, bytes)) (h1 : P.underlying t = some (.slice e)) (yA : z.cells.size = size) (iE : 0 < size)
    (v : Value) (n : Nat) (xs : List Value) (hs : a.eval s = v) (aL : w0.ownsRow base e size v n xs) (us : List Value) (WV : us.length = size)
    (hx : a.eval x = .slice (some ⟨w0.heap.size, 0, none⟩) 1 1) (PD : ∀ u ∈ us, u.oneCell' = true) (pC : n + 1 ≤ maxLen) (hb : (n + 1) * bytes ≤ 140737488355328) (cN : base ≤ w0.heap.size)
    (hK : ∀ v' w', w'.ownsRow base e size v' (n + 1) (xs ++ us) → w0.grownBy w' v.ownBlock → (ix v v' ∨ (v'.ownBlock = some (w0.heap.size + 1) ∧ w0.grownBy w' none)) → K (a.put o.dst v') w') :
    if Region.wanted o (yielded ops a.tmps)=true then Oper.wp P o a (w0.alloc (.cells us.toArray e)) K Q else E:=by
  have hw:Region.wanted o (yielded ops a.tmps)=true:=by simp[Region.wanted,hg]
  rw[au hw]
  obtain⟨i,hi,hz,H8,H9⟩:=kR jD
  obtain ⟨v', w', hr, r1, r2, r3⟩ := mT (P := P) (w0.alloc (.cells us.toArray e)) base t o.type e i z size bytes h1 hi hz H8 H9 yA iE v n xs (aL.alloc _) ⟨w0.heap.size, 0, none⟩ 1 1 us (by omega)
    (by intro j u hu
        have hj:j<us.length:=(yF.1 hu).1
        rw[ri,kP,vC _ _ _ _ rfl]
        simpa using hu) PD pC hb (by simp;omega) (by omega)
  unfold Oper.wp execOp
  simp only[vp,resolve,invoke,builtin,rB,tR,vQ,I7,kO,rj,hs,hx,hr]
  refine hK v' w' r1 (aM (tN w0 _ _) r2) ?_
  rcases r3 with h|⟨h,h'⟩
  · exact .inl h
  · exact .inr ⟨by simpa using h, aM (tN w0 _ _) h'⟩
theorem Ke:(prog.info? 60).map (fun i=>(i.zero,i.size,i.bytes))=some (some (.agg #[.string ⟨#[]⟩,.slice none 0 0,.string ⟨#[]⟩,.string ⟨#[]⟩]),4,72):=by kernel_rfl
theorem jk.push {p d lo:Nat} {pre:List (Nat×PR)} {W W3:World} {v v' vm:Value} {zs:List (qQ×Value)} {r:PR} (h1:zs.map (·.1)=eR (pre.map (·.2))) (hb:aK W p 51 #[v]) (ho:W.ownsRow (p+1) 60 4 v zs.length (zs.flatMap pO)) (hm: ∀z∈zs,rp (p+1) v W z.2 z.1.ms) (hx:Mg (p+1) W zs)
  (hk:r.kind=3) (hv:rn lo W vm r.ms) (hap: ∀z∈zs,gZ z.2 vm) (AT:p+1≤lo) (ak8: ∀q,v.ownBlock=some q→q<lo)
  (PV:W3.ownsRow (p+1) 60 4 v' (zs.length+1) (zs.flatMap pO++[.string r.text,vm,.string r.off,.string r.tim])) (hg:W.grownBy W3 v.ownBlock) (ht:ix v v'∨(v'.ownBlock=some (W.heap.size+1)∧W.grownBy W3 none)):
  jk p (pre++[(d,r)]) (W3.setCell ⟨p,0,none⟩ v'):=by
 have bW:aK W3 p 51 #[v]:=hb.grown hg (cI ho hb (by decide)).symm;have hmo: ∀{m:Value} {ms:List PM} {B:Nat},rn B W m ms→rn B (W3.setCell ⟨p,0,none⟩ v') m ms:=fun h=>aD (h.kept hg (je h ho (by decide))) bW (by decide) v'
 refine⟨⟨v',zs++[(⟨r.text,r.ms,r.off,r.tim⟩,vm)],?_,?_,?_,?_,?_⟩⟩
 ·rw[mX,mX,kO,rj,kO,rj,nO,au hk,h1]
 ·have:=bW.bT 0 v';simpa using this
 ·rw[yI,iJ];exact aD (by simpa [pO]using PV) bW (by decide) v'
 ·intro z hz;rcases qx.1 hz with hz|hz
  ·exact((hm z hz).push hg ht).bT (vU p)
  ·rw[xD.1 hz];exact(rp.push (t5:=v) ⟨lo,W,eI.gp hv,AT,jj.refl _ _,fun q hq=>.inl (ak8 q hq)⟩ hg ht).bT (vU p)
 ·refine⟨fun z hz=>?_,List.pairwise_append.2 ⟨hx.2,List.pairwise_singleton _ _,fun z hz y hy=>by rw[xD.1 hy];exact hap z hz⟩⟩;rcases qx.1 hz with hz|hz
  ·exact hmo (hx.1 z hz)
  ·rw[xD.1 hz];exact bY (hmo hv) AT
theorem VT (p d:Nat) (t:TypeId) (x:Value) (W:World) (ht:t≠84):
  Calls prog 43 #[.int .i64 (d:Int),.iface t x,.pointer (some ⟨p,0,none⟩)] W fun e W'=>e= .returned (.bool true)∧W=W':=by
 have a1:=fH;have h1:(t=84)=False:=bU ht;clear ht;go_enter func43,ntmps43;go_wp2_with fail;go_ret;exact⟨rfl,rfl⟩
theorem afa (t:ByteArray) (am:Option Addr) (nm cm:Nat) (off tim:ByteArray): ∀u∈[Value.string t,.slice am nm cm,.string off,.string tim],u.oneCell'=true:=by
 intro u hu;simp only[gB,kM,iP]at hu;rcases hu with rfl|rfl|rfl|rfl<;>rfl
theorem Y2 (h1:zs.map (·.1)=eR (pre.map (·.2))) (ho:W.ownsRow (p+1) 60 4 v zs.length (zs.flatMap pO)) (hm: ∀z∈zs,rp (p+1) v W z.2 z.1.ms) (hx:Mg (p+1) W zs) (hk:r.kind=3) (hp:B≤p) (s0:p<W.heap.size)
  (aW:Below W.heap.size W W1) (aN:Below W.heap.size W W2) (hz:aK W2 p 51 #[v]) (zT:W2.ownsRow (p+1) 60 4 v zs.length (zs.flatMap pO)) (hv:rn W1.heap.size W2 vm r.ms) (v3:Value) (W3:World)
  (lv:W3.ownsRow (p+1) 60 4 v3 (zs.length+1) (zs.flatMap pO++[.string r.text,vm,.string r.off,.string r.tim])) (hg:W2.grownBy W3 v.ownBlock) (ht:ix v v3∨(v3.ownBlock=some (W2.heap.size+1)∧W2.grownBy W3 none)):
  sP B (jk p) (fun _ _=>False) pre (d,r) W (.returned (.bool true)) (W3.setCell ⟨p,0,none⟩ v3):=by
 have bW:aK W3 p 51 #[v]:=hz.grown hg (cI zT hz (by decide)).symm;have hl:=aW.size;refine .inl ⟨rfl,jk.push h1 hz zT (fun z hz=>(hm z hz).below aN) (hx.below aN) hk hv (fun z hz=>cQ (hx.1 z hz) hv hl) (by omega) (fun q hq=>by have:=(ho.lt q hq).2;omega) lv hg ht,?_⟩;have hbB:Below B W W3:=(aN.mono (by omega)).grown hg (by have:=aN.size;omega) (fun q hq=>by have:=(zT.lt q hq).1;omega);exact⟨hbB.setCell (p:=⟨p,0,none⟩) hp _,((kZ.jI aN).trans (yp zT hg (by decide))).trans fun g cs hb=>hb.FQ (by rintro rfl;exact aK.ne_ hb bW (by decide) rfl) _⟩
theorem VU (hn:ba b W (.iface 84 (.pointer (some ⟨g,0,none⟩))) r []) (hk:r.kind=3) (hl:gD r) (hI:jk p pre W) (hlen:pre.length≤1099511627776) (hp:B≤p):
  Calls prog 43 #[.int .i64 (d:Int),.iface 84 (.pointer (some ⟨g,0,none⟩)),.pointer (some ⟨p,0,none⟩)] W (sP B (jk p) (fun _ _=>False) pre (d,r) W):=by
 have a1:=fH;obtain⟨v,zs,h1,h2,h3,h4,h5⟩:=hI.ex;have hzl:zs.length≤1099511627776:=by
  have e:=cz List.length h1;rw[jW]at e;have:(eR (pre.map (·.2))).length≤pre.length:=by
   unfold eR;rw[jW];exact bP (List.length_filter_le _ _) (by simp)
  omega
 obtain⟨ao,no,co,rfl⟩:=cu h3;have XW:Hid (∀W',Below W.heap.size W W'→Calls prog 36 #[.iface 84 (.pointer (some ⟨g,0,none⟩))] W' (gq W' r)):=aa fun W' hb=>CW (hn.below hb) hl
 have abh:Hid (∀W' m o i l,bw 0 W' r m o i l→Calls prog 44 #[jB r m o i l] W' (rY W' r)):=aa fun W' m o i l h=>sx h.1 hl.1
 have HK:=aa (And.intro h1 (And.intro hk hp));have HB:=aa h2;have HO:=aa h3;have HM:=aa h4;have WK:=aa h5;have c0:W.drew.cell? ⟨p,0,none⟩=some (.slice ao no co):=h2.cell 0;have s0:=h2.lt;clear hn hk hl hI hlen hp h1 h2 h3 h4 h5;go_enter func43,ntmps43;go_upto_region 3 with(fail)
 go_region_law (first|(refine NP rfl (.tmp 14) (.tmp 21) 51 rfl (p+1) 60 _ 4 72 Ke underlying51 rfl (by decide) _ zs.length (zs.flatMap pO) rfl kt.out [.string r.text,.slice am nm cm,.string r.off,.string r.tim] rfl rfl ak9.out (by unfold maxLen;omega) (by omega) (by omega) ?_;intro v3 W3 lv vA ht3;have HF:=aa (abi.out v3 W3 lv vA ht3);obtain⟨a3,n3,c3,SN⟩:=cu lv;subst SN;have b3:aK W3 p 51 #[.slice ao no co]:=bC.out.grown vA (cI kt.out bC.out (by decide)).symm;have k3:W3.cell? ⟨p,0,none⟩=some (.slice ao no co):=b3.cell 0;have f3:=b3.frozen 0;clear lv vA ht3 b3)|(go_simp;go_at_call 36;(with_reducible refine(XW.out _ (aV _ W).drew).mono ?_);rintro e W1 ⟨vm,vo,vi,vl,rfl,hro,aW⟩;have HR1:=aa (hro.ls.lo (dQ _));have cn:Hid (Below W.heap.size W W1):=aa (((aV _ W).drew).trans aW);have k1:W1.cell? ⟨p,0,none⟩=some (.slice ao no co):=(cn.out.cell (p:=⟨p,0,none⟩) s0).trans (HB.out.cell 0);have s1:p<W1.heap.size:=gU s0 cn.out.size;clear hro aW)|(go_simp;go_at_call 44;(with_reducible refine(abh.out _ _ _ _ _ HR1.out).mono ?_);rintro e W2 ⟨gs,am,nm,cm,rfl,ZA,yA,re,aN⟩;have d0:W2.cell? ⟨gs,0,none⟩=some (.string r.text):=yA.cell 0;have d1:W2.cell? ⟨gs,1,none⟩=some (.slice am nm cm):=yA.cell 1;have d2:W2.cell? ⟨gs,2,none⟩=some (.string r.off):=yA.cell 2;have d3:W2.cell? ⟨gs,3,none⟩=some (.string r.tim):=yA.cell 3;have yE:=yA.lt;have abj:Hid (Below W.heap.size W W2):=aa (cn.out.trans (aN.mono cn.out.size));have bC:Hid (aK W2 p 51 #[.slice ao no co]):=aa (HB.out.below abj.out s0);have kt:Hid (W2.ownsRow (p+1) 60 4 (.slice ao no co) zs.length (zs.flatMap pO)):=aa (bf HO.out abj.out);have k2:W2.cell? ⟨p,0,none⟩=some (.slice ao no co):=bC.out.cell 0;have s2:p<W2.heap.size:=bC.out.lt;have ak9:Hid (∀u∈[Value.string r.text,.slice am nm cm,.string r.off,.string r.tim],u.oneCell'=true):=aa (afa _ _ _ _ _ _);have abi:=aa (Y2 (d:=d) HK.out.1 HO.out HM.out WK.out HK.out.2.1 HK.out.2.2 s0 cn.out abj.out bC.out kt.out re);clear yA aN re))
 all_goals
  go_wp2_with fail;go_ret;exact HF.out
theorem RM (h:ba b w v r ks):(r.kind=3∧ks=[]∧ ∃g,v= .iface 84 (.pointer (some ⟨g,0,none⟩)))∨(r.kind≠3∧ ∃t x,v= .iface t x∧t≠84):=by
 cases h with
 |selector g=>exact .inl ⟨rfl,rfl,g,rfl⟩
 |_=>exact .inr ⟨by simp[zr],_,_,rfl,by decide⟩
theorem NQ (N:Nat) (hN:N≤1099511627776) (hp:w0.heap.size≤p):uK b w0 43 #[.pointer (some ⟨p,0,none⟩)] (jk p) (fun _ _=>False) (fun l=>l.length≤N) gD:=by
 intro n d pre v r ks W hR hn hj _ ax _;simp only[iJ,dZ,nW]at ax;refine so ?_;rcases RM hn with⟨hk,rfl,g,rfl⟩|⟨hk,t,x,rfl,ht⟩
 ·exact VU hn hk hR hj (by omega) hp
 ·refine(VT p d t x W ht).mono ?_;rintro e W' ⟨rfl,rfl⟩;exact .inl ⟨rfl,hj.skip hk,Kept.refl _ _⟩
theorem jk.start (w:World):jk w.heap.size [] (w.alloc (.cells #[.slice none 0 0] 51)):=⟨⟨_,[],rfl,aK.new _ _ _,rh _ _ _ _,(fun z h=>by cases h),(fun z h=>by cases h),List.Pairwise.nil⟩⟩
theorem jk.post (h:jk p L W) (hp:w.heap.size≤p+1) (hb:Below w.heap.size w W): ∃ao n c,aK W p 51 #[.slice ao n c]∧th w L (.returned (.slice ao n c)) W:=by
 obtain⟨v,zs,h1,h2,h3,h4,h5⟩:=h.ex;obtain⟨ao,n,c,rfl⟩:=cu h3;refine⟨ao,n,c,h2,_,zs,rfl,h1,bY h3 hp,fun z hz=>?_,hb,fun z hz=>bY (h5.1 z hz) hp,h5.2⟩;obtain⟨lo,w1,k1,k2,k3,k4⟩:=h4 z hz;exact⟨lo,w1,k1,bP hp k2,k3,k4⟩
theorem Aw (h:eU b w v L) (hL:1+L.length≤1099511627776) (hR: ∀x∈L,gD x.2):
  Calls prog 16 #[.agg #[v]] w (th w L):=by
 have HW:Hid (Calls prog 34 #[v,.int .i64 1,.func (.func 43) #[] #[.pointer (some ⟨w.heap.size+1,0,none⟩)]] ((w.alloc (.cells #[v] 29)).alloc (.cells #[.slice none 0 0] 51)) fun e W'=>e= .returned (.bool true)∧jk (w.heap.size+1) L W'∧Kept w.heap.size ((w.alloc (.cells #[v] 29)).alloc (.cells #[.slice none 0 0] 51)) W'):=
  aa (ym h _ _ (enters_of func43 (by kernel_rfl) rfl) L.length _ jk.fY (NQ _ (by omega) (by omega)) hR (((aV _ w).alloc (aS _) _).alloc (by simp) _)
   (by have:=jk.start (w.alloc (.cells #[v] 29));simpa using this) (aS _) hL)
 have aN:Below w.heap.size w ((w.alloc (.cells #[v] 29)).alloc (.cells #[.slice none 0 0] 51)):=((aV _ w).alloc (aS _) _).alloc (by simp) _;have bC:=aa aN;clear aN;clear h;go_enter func16,ntmps16;go_wp2_with fail;refine HW.out.mono ?_;rintro e w2 ⟨rfl,H8,hk⟩;obtain⟨ao,n,c,F3,ξ⟩:=H8.post (w:=w) (by omega) (bC.out.trans hk.1);have c0:=F3.cell 0;simp at c0;have HP:=aa ξ;clear F3 hk H8 ξ;go_wp2_with fail;go_ret;exact HP.out
theorem sF (h:eU b w v L) (hL:1+L.length≤1099511627776) (hR: ∀x∈L,gD x.2):
  Calls prog 16 #[.agg #[v]] w (sc w L):=(Aw h hL hR).mono fun _ _ h=>h.one
theorem tD {a:qQ} (ha:eI 0 w (.slice am an ac) a.ms) (hb:eI 0 w (.slice bm bn bc) a.ms) (la:a.ms.length≤1099511627776):
  Calls prog 45 #[.agg #[.string a.name,.slice am an ac,.string a.off,.string a.tim],.agg #[.string a.name,.slice bm bn bc,.string a.off,.string a.tim]] w (aG w true):=by
 obtain⟨W0,A1⟩: ∃W0,W0=(w.alloc (.cells #[.string a.name,.slice am an ac,.string a.off,.string a.tim] 60)).alloc (.cells #[.string a.name,.slice bm bn bc,.string a.off,.string a.tim] 60):=⟨_,rfl⟩;have vr:Below w.heap.size w W0:=by rw[A1];exact((aV _ w).alloc (aS _) _).alloc (by simp) _
 have lB:aK W0 w.heap.size 60 #[.string a.name,.slice am an ac,.string a.off,.string a.tim]:=by rw[A1];exact(aK.new _ _ _).alloc _
 have cK:aK W0 (w.heap.size+1) 60 #[.string a.name,.slice bm bn bc,.string a.off,.string a.tim]:=by
  rw[A1];have:=aK.new (w.alloc (.cells #[.string a.name,.slice am an ac,.string a.off,.string a.tim] 60)) 60 #[.string a.name,.slice bm bn bc,.string a.off,.string a.tim];simpa using this
 have HW0:=aa A1;have F9:=aa lB;have lu:=aa cK;have AB:Hid (Below w.heap.size w W0.drew):=aa vr.drew;have HR1:Hid (∀W,Below w.heap.size w W→Calls prog 24 #[.agg #[.string a.name,.slice am an ac,.string a.off,.string a.tim]] W (Gz W a)):=aa fun W h=>Pv (ha.below h) la
 have DC:Hid (∀W,Below w.heap.size w W→Calls prog 24 #[.agg #[.string a.name,.slice bm bn bc,.string a.off,.string a.tim]] W (Gz W a)):=aa fun W h=>Pv (hb.below h) la
 have SZ:Hid (∀W m1 o1 i1 l1 m2 o2 i2 l2,bw 0 W (og a) m1 o1 i1 l1→bw 0 W (og a) m2 o2 i2 l2→Calls prog 12 #[jB (og a) m1 o1 i1 l1,jB (og a) m2 o2 i2 l2] W (aG W true)):=aa fun W m1 o1 i1 l1 m2 o2 i2 l2 h1 h2=>
  sC h1 h2 ⟨la,by simp[og],by simp[og],by simp[og]⟩
 have c0:W0.drew.cell? ⟨w.heap.size,0,none⟩=some (.string a.name):=lB.cell 0;have c1:W0.drew.cell? ⟨w.heap.size,1,none⟩=some (.slice am an ac):=lB.cell 1;have c2:W0.drew.cell? ⟨w.heap.size,2,none⟩=some (.string a.off):=lB.cell 2;have c3:W0.drew.cell? ⟨w.heap.size,3,none⟩=some (.string a.tim):=lB.cell 3;have c4:W0.drew.cell? ⟨w.heap.size+1,0,none⟩=some (.string a.name):=cK.cell 0;have c5:W0.drew.cell? ⟨w.heap.size+1,1,none⟩=some (.slice bm bn bc):=cK.cell 1;have c6:W0.drew.cell? ⟨w.heap.size+1,2,none⟩=some (.string a.off):=cK.cell 2;have c7:W0.drew.cell? ⟨w.heap.size+1,3,none⟩=some (.string a.tim):=cK.cell 3;have l0:=lB.lt;have l1:=cK.lt;clear ha hb la A1 vr lB cK;go_enter func45,ntmps45;go_wp2_with fail;rw[←HW0.out];go_region_held3 (fun W=>W.cell? ⟨w.heap.size,0,none⟩=some (.string a.name)∧W.cell? ⟨w.heap.size,1,none⟩=some (.slice am an ac)∧W.cell? ⟨w.heap.size,2,none⟩=some (.string a.off)∧W.cell? ⟨w.heap.size,3,none⟩=some (.string a.tim)∧W.cell? ⟨w.heap.size+1,0,none⟩=some (.string a.name)∧W.cell? ⟨w.heap.size+1,1,none⟩=some (.slice bm bn bc)∧W.cell? ⟨w.heap.size+1,2,none⟩=some (.string a.off)∧W.cell? ⟨w.heap.size+1,3,none⟩=some (.string a.tim)) (first|go_keep) (first|(go_at_call 24;(with_reducible refine(HR1.out _ AB.out).mono ?_);rintro e W1 ⟨vm1,rfl,hl1,aW⟩;have HL1:=aa hl1;have cn:=aa (AB.out.trans (aW.mono AB.out.size));have uC:Below W0.heap.size W0 W1:=(aV _ _).drew.trans aW;have HBZ:=aa uC;have d0:W1.cell? ⟨w.heap.size,0,none⟩=some (.string a.name):=(uC.cell (p:=⟨w.heap.size,0,none⟩) l0).trans (F9.out.cell 0);have d1:W1.cell? ⟨w.heap.size,1,none⟩=some (.slice am an ac):=(uC.cell (p:=⟨w.heap.size,1,none⟩) l0).trans (F9.out.cell 1);have d2:W1.cell? ⟨w.heap.size,2,none⟩=some (.string a.off):=(uC.cell (p:=⟨w.heap.size,2,none⟩) l0).trans (F9.out.cell 2);have d3:W1.cell? ⟨w.heap.size,3,none⟩=some (.string a.tim):=(uC.cell (p:=⟨w.heap.size,3,none⟩) l0).trans (F9.out.cell 3);have d4:W1.cell? ⟨w.heap.size+1,0,none⟩=some (.string a.name):=(uC.cell (p:=⟨w.heap.size+1,0,none⟩) l1).trans (lu.out.cell 0);have d5:W1.cell? ⟨w.heap.size+1,1,none⟩=some (.slice bm bn bc):=(uC.cell (p:=⟨w.heap.size+1,1,none⟩) l1).trans (lu.out.cell 1);have d6:W1.cell? ⟨w.heap.size+1,2,none⟩=some (.string a.off):=(uC.cell (p:=⟨w.heap.size+1,2,none⟩) l1).trans (lu.out.cell 2);have d7:W1.cell? ⟨w.heap.size+1,3,none⟩=some (.string a.tim):=(uC.cell (p:=⟨w.heap.size+1,3,none⟩) l1).trans (lu.out.cell 3);clear hl1 aW uC)|(go_at_call 24;(with_reducible refine(DC.out _ cn.out).mono ?_);rintro e W2 ⟨vm2,rfl,Az,aN⟩;have HL2:=aa Az;have HL3:=aa (HL1.out.below aN);have bC:=aa (cn.out.trans (aN.mono cn.out.size));have uC:Below W0.heap.size W0 W2:=HBZ.out.trans (aN.mono HBZ.out.size);have afb:=aa uC;have f0:W2.cell? ⟨w.heap.size,0,none⟩=some (.string a.name):=(uC.cell (p:=⟨w.heap.size,0,none⟩) l0).trans (F9.out.cell 0);have f1:W2.cell? ⟨w.heap.size,1,none⟩=some (.slice am an ac):=(uC.cell (p:=⟨w.heap.size,1,none⟩) l0).trans (F9.out.cell 1);have f2:W2.cell? ⟨w.heap.size,2,none⟩=some (.string a.off):=(uC.cell (p:=⟨w.heap.size,2,none⟩) l0).trans (F9.out.cell 2);have f3:W2.cell? ⟨w.heap.size,3,none⟩=some (.string a.tim):=(uC.cell (p:=⟨w.heap.size,3,none⟩) l0).trans (F9.out.cell 3);have f4:W2.cell? ⟨w.heap.size+1,0,none⟩=some (.string a.name):=(uC.cell (p:=⟨w.heap.size+1,0,none⟩) l1).trans (lu.out.cell 0);have f5:W2.cell? ⟨w.heap.size+1,1,none⟩=some (.slice bm bn bc):=(uC.cell (p:=⟨w.heap.size+1,1,none⟩) l1).trans (lu.out.cell 1);have f6:W2.cell? ⟨w.heap.size+1,2,none⟩=some (.string a.off):=(uC.cell (p:=⟨w.heap.size+1,2,none⟩) l1).trans (lu.out.cell 2);have f7:W2.cell? ⟨w.heap.size+1,3,none⟩=some (.string a.tim):=(uC.cell (p:=⟨w.heap.size+1,3,none⟩) l1).trans (lu.out.cell 3);clear Az aN uC)|(go_at_call 12;(with_reducible refine(SZ.out _ _ _ _ _ _ _ _ _ HL3.out HL2.out).mono ?_);rintro e W3 ⟨rfl,bW⟩;have iF:=aa (bC.out.trans (bW.mono bC.out.size));have uC:Below W0.heap.size W0 W3:=afb.out.trans (bW.mono afb.out.size);have g0:W3.cell? ⟨w.heap.size,0,none⟩=some (.string a.name):=(uC.cell (p:=⟨w.heap.size,0,none⟩) l0).trans (F9.out.cell 0);have g1:W3.cell? ⟨w.heap.size,1,none⟩=some (.slice am an ac):=(uC.cell (p:=⟨w.heap.size,1,none⟩) l0).trans (F9.out.cell 1);have g2:W3.cell? ⟨w.heap.size,2,none⟩=some (.string a.off):=(uC.cell (p:=⟨w.heap.size,2,none⟩) l0).trans (F9.out.cell 2);have g3:W3.cell? ⟨w.heap.size,3,none⟩=some (.string a.tim):=(uC.cell (p:=⟨w.heap.size,3,none⟩) l0).trans (F9.out.cell 3);have g4:W3.cell? ⟨w.heap.size+1,0,none⟩=some (.string a.name):=(uC.cell (p:=⟨w.heap.size+1,0,none⟩) l1).trans (lu.out.cell 0);have g5:W3.cell? ⟨w.heap.size+1,1,none⟩=some (.slice bm bn bc):=(uC.cell (p:=⟨w.heap.size+1,1,none⟩) l1).trans (lu.out.cell 1);have g6:W3.cell? ⟨w.heap.size+1,2,none⟩=some (.string a.off):=(uC.cell (p:=⟨w.heap.size+1,2,none⟩) l1).trans (lu.out.cell 2);have g7:W3.cell? ⟨w.heap.size+1,3,none⟩=some (.string a.tim):=(uC.cell (p:=⟨w.heap.size+1,3,none⟩) l1).trans (lu.out.cell 3);clear bW uC));go_wp2_with fail;go_ret;exact⟨rfl,iF.out⟩
theorem qs {xs:List qQ} (h1:Bb w v1 xs) (h2:Bb w v2 xs) (hn:xs.length≤1099511627776) (l1: ∀s∈xs,s.ms.length≤1099511627776):
  Calls prog 20 #[v1,v2] w (aG w true):=by
 obtain⟨a1,c1,rfl,jQ⟩:=h1;obtain⟨a2,c2,rfl,kr⟩:=h2;have H1:=aa jQ;have H2:=aa kr;have L1:=aa l1;clear jQ kr l1;go_enter func20,ntmps20;go_wp2_with fail;go_loopw [5] (fun t5 wr=> ∃j:Nat,Hid (j≤xs.length)∧t5= .int .i64 (j:Int)∧Hid (Below w.heap.size w wr)) (fun t5 _=>xs.length-(intOf t5).toNat)
 case atStart=>exact⟨0,aa (dQ _),rfl,aa (aV _ _)⟩
 case round=>
  obtain⟨j,hj,rfl,hB⟩:=hrel;by_cases ax:j<xs.length
  ·have p1:((j:Int)<(xs.length:Int))=True:=aA (by omega);obtain⟨g1,o1,u1,rfl,nf,pa,e0,e1,e2,e3⟩:=H1 j ax;obtain⟨g2,o2,u2,rfl,qZ,qt,f0,f1,f2,f3⟩:=H2 j ax;have lx:=L1 _ (jz ax);generalize hX:xs[j]=x at pa e0 e1 e2 e3 lx qt f0 f1 f2 f3;obtain⟨am,ac,rfl,_⟩:=id pa;obtain⟨bm,bc,rfl,_⟩:=id qt;obtain⟨an,han⟩: ∃n,n=x.ms.length:=⟨_,rfl⟩;obtain⟨bn,LG⟩: ∃n,n=x.ms.length:=⟨_,rfl⟩;rw[←han]at pa e1;rw[←LG]at qt f1;have HC:=aa fun(W:World) (h:Below w.heap.size w W)=>tD (pa.below h) (qt.below h) lx
   have ej:g1<wr.drew.heap.size:=gU nf hB.size;have xu:g2<wr.drew.heap.size:=gU qZ hB.size;have c0:wr.drew.cell? ⟨g1,o1+j*4,none⟩=some (.string x.name):=(hB.cell (p:=⟨g1,o1+j*4,none⟩) nf).trans e0;have C0:=aa c0;have c1:wr.drew.cell? ⟨g1,o1+j*4+1,none⟩=some (.slice am an ac):=(hB.cell (p:=⟨g1,o1+j*4+1,none⟩) nf).trans e1;have C1:=aa c1;have c2:wr.drew.cell? ⟨g1,o1+j*4+2,none⟩=some (.string x.off):=(hB.cell (p:=⟨g1,o1+j*4+2,none⟩) nf).trans e2;have C2:=aa c2;have c3:wr.drew.cell? ⟨g1,o1+j*4+3,none⟩=some (.string x.tim):=(hB.cell (p:=⟨g1,o1+j*4+3,none⟩) nf).trans e3;have C3:=aa c3;have c4:wr.drew.cell? ⟨g2,o2+j*4,none⟩=some (.string x.name):=(hB.cell (p:=⟨g2,o2+j*4,none⟩) qZ).trans f0;have C4:=aa c4;have c5:wr.drew.cell? ⟨g2,o2+j*4+1,none⟩=some (.slice bm bn bc):=(hB.cell (p:=⟨g2,o2+j*4+1,none⟩) qZ).trans f1;have C5:=aa c5;have c6:wr.drew.cell? ⟨g2,o2+j*4+2,none⟩=some (.string x.off):=(hB.cell (p:=⟨g2,o2+j*4+2,none⟩) qZ).trans f2;have C6:=aa c6;have c7:wr.drew.cell? ⟨g2,o2+j*4+3,none⟩=some (.string x.tim):=(hB.cell (p:=⟨g2,o2+j*4+3,none⟩) qZ).trans f3;have C7:=aa c7;have hj0:(0:Int)≤(j:Int):=Int.natCast_nonneg j;clear hX pa qt han LG lx e0 e1 e2 e3 f0 f1 f2 f3;go_wp2_with fail;go_region_held3 (fun W=>W.cell? ⟨g1,o1+j*4,none⟩=some (.string x.name)∧W.cell? ⟨g1,o1+j*4+1,none⟩=some (.slice am an ac)∧W.cell? ⟨g1,o1+j*4+2,none⟩=some (.string x.off)∧W.cell? ⟨g1,o1+j*4+3,none⟩=some (.string x.tim)∧W.cell? ⟨g2,o2+j*4,none⟩=some (.string x.name)∧W.cell? ⟨g2,o2+j*4+1,none⟩=some (.slice bm bn bc)∧W.cell? ⟨g2,o2+j*4+2,none⟩=some (.string x.off)∧W.cell? ⟨g2,o2+j*4+3,none⟩=some (.string x.tim)) (first|go_keep) (first|(go_at_call 45;(with_reducible refine(HC.out _ hB.out.drew).mono ?_);rintro e W2 ⟨rfl,aN⟩;have d0:W2.cell? ⟨g1,o1+j*4,none⟩=some (.string x.name):=(aN.cell (p:=⟨g1,o1+j*4,none⟩) ej).trans C0;have d1:W2.cell? ⟨g1,o1+j*4+1,none⟩=some (.slice am an ac):=(aN.cell (p:=⟨g1,o1+j*4+1,none⟩) ej).trans C1;have d2:W2.cell? ⟨g1,o1+j*4+2,none⟩=some (.string x.off):=(aN.cell (p:=⟨g1,o1+j*4+2,none⟩) ej).trans C2;have d3:W2.cell? ⟨g1,o1+j*4+3,none⟩=some (.string x.tim):=(aN.cell (p:=⟨g1,o1+j*4+3,none⟩) ej).trans C3;have d4:W2.cell? ⟨g2,o2+j*4,none⟩=some (.string x.name):=(aN.cell (p:=⟨g2,o2+j*4,none⟩) xu).trans C4;have d5:W2.cell? ⟨g2,o2+j*4+1,none⟩=some (.slice bm bn bc):=(aN.cell (p:=⟨g2,o2+j*4+1,none⟩) xu).trans C5;have d6:W2.cell? ⟨g2,o2+j*4+2,none⟩=some (.string x.off):=(aN.cell (p:=⟨g2,o2+j*4+2,none⟩) xu).trans C6;have d7:W2.cell? ⟨g2,o2+j*4+3,none⟩=some (.string x.tim):=(aN.cell (p:=⟨g2,o2+j*4+3,none⟩) xu).trans C7;have bC:=aa (hB.drew.trans (aN.mono hB.size));clear aN));go_wp2_with fail;exact⟨⟨j+1,aa ax,by go_num,bC⟩,by simp[intOf];omega⟩
  ·have p1:((j:Int)<(xs.length:Int))=False:=bU (by omega);go_wp2_with fail;go_ret;exact⟨rfl,hB⟩
