import Derived.Test.YtibcjfjacielbaaGreatDoorP39
import Derived.Test.YtibcjfjacielbaaGreatDoorP40
import Derived.Test.YtibcjfjacielbaaGreatDoorP41
import Derived.Test.YtibcjfjacielbaaGreatDoorP42
import Derived.Test.YtibcjfjacielbaaGreatDoorP43
import Derived.BigRegionIn
import Derived.Test.YtibcjfjacielbaaGreatDoorP37
import Derived.Test.YtibcjfjacielbaaGreatDoorP44
/- Part of the proof of YtibcjfjacielbaaGreatDoorCardP: PaX TrU TwA TwB. -/
set_option maxRecDepth 100000
set_option maxHeartbeats 4000000
set_option linter.unusedVariables false
set_option linter.unusedSimpArgs false
namespace Go.Proofs.YtibcjfjacielbaaGreatDoor
def Lean4 (r:PR):Prop:=r={zr r.kind r.kids with op:=r.op,text:=r.text}
def Mode.fine:Mode→Prop
 | .loop _ y=> ∀r∈y.rows,Lean4 r
 |_=>True
theorem mkU_fine {s:List UInt8} {x z:Th} (h:mkU s x=some z) (hx: ∀r∈x.rows,Lean4 r): ∀r∈z.rows,Lean4 r:=by
 unfold mkU at h;split at h
 ·injection h with h
  subst h;intro r hr;rcases List.mem_cons.1 hr with rfl|hr
  ·rfl
  ·exact hx r hr
 ·cases h
theorem mkB_fine {s:List UInt8} {x y z:Th} (h:mkB s x y=some z) (hx: ∀r∈x.rows,Lean4 r) (hy: ∀r∈y.rows,Lean4 r): ∀r∈z.rows,Lean4 r:=by
 unfold mkB at h;split at h
 ·injection h with h
  subst h;intro r hr;rcases List.mem_cons.1 hr with rfl|hr
  ·rfl
  ·rcases List.mem_append.1 hr with hr|hr
   ·exact hx r hr
   ·exact hy r hr
 ·cases h
theorem pars_fine: ∀(n:Nat) (m:Mode) (ts:List Tok) (o:Nat) (x:Th) (r:List Tok) (o':Nat),pars n m ts o=some (x,r,o')→m.fine→ ∀r∈x.rows,Lean4 r:=by
 intro n;induction n with
 |zero=>intro m ts o x r o' h;simp[pars]at h
 |succ n ih=>
  intro m ts o x r o' h hm;cases m with
  |bin least=>
   simp only[pars]at h;split at h
   ·cases h
   ·rename_i x1 ts1 o1 h1;exact ih _ _ _ _ _ _ h (ih _ _ _ _ _ _ h1 trivial)
  |loop least y=>
   simp only[pars]at h;split at h
   ·injection h with h;injection h with h1 h2
    subst h1;exact hm
   ·split at h
    ·cases h
    ·split at h
     ·cases h
     ·rename_i y1 ts2 o2 h1;split at h
      ·cases h
      ·rename_i z hz;exact ih _ _ _ _ _ _ h (mkB_fine hz hm (ih _ _ _ _ _ _ h1 trivial))
  |una=>
   simp only[pars]at h;split at h
   ·split at h
    ·cases h
    ·rename_i x1 ts1 o1 h1;split at h
     ·cases h
     ·rename_i z hz;injection h with h;injection h with h1' h2
      subst h1';exact mkU_fine hz (ih _ _ _ _ _ _ h1 trivial)
   ·exact ih _ _ _ _ _ _ h trivial
  |pow=>
   simp only[pars]at h;split at h
   ·cases h
   ·rename_i x1 ts1 o1 h1;split at h
    ·cases h
    ·split at h
     ·injection h with h;injection h with h1' h2
      subst h1';exact ih _ _ _ _ _ _ h1 trivial
     ·split at h
      ·cases h
      ·split at h
       ·cases h
       ·rename_i y ts2 o2 h2';split at h
        ·cases h
        ·rename_i z hz;injection h with h;injection h with h1' h2
         subst h1';exact mkB_fine hz (ih _ _ _ _ _ _ h1 trivial) (ih _ _ _ _ _ _ h2' trivial)
  |prim=>
   simp only[pars]at h;split at h
   ·injection h with h;injection h with h1' h2
    subst h1';intro r hr;rw[List.mem_singleton.1 hr];rfl
   ·split at h
    ·split at h
     ·cases h
     ·split at h
      ·cases h
      ·rename_i x1 ts1 o1 h1;split at h
       ·injection h with h;injection h with h1' h2
        subst h1';exact ih _ _ _ _ _ _ h1 trivial
       ·cases h
    ·split at h
     ·injection h with h;injection h with h1' h2
      subst h1';intro r hr;rw[List.mem_singleton.1 hr];rfl
     ·cases h
def four (r:PR):Int×Int×List UInt8×List UInt8:=(r.kind,r.kids,r.op.data.toList,r.text.data.toList)
theorem four_inj: ∀(a b:List PR),(∀r∈a,Lean4 r)→(∀r∈b,Lean4 r)→a.map four=b.map four→a=b:=by
 intro a;induction a with
 |nil=>intro b _ _ h;cases b with
  |nil=>rfl
  |cons y b=>cases h
 |cons x a ih=>
  intro b ha hb h;cases b with
  |nil=>cases h
  |cons y b=>
   simp only[List.map_cons,List.cons.injEq]at h;obtain⟨h1,h2⟩:=h;have hx:Lean4 x:=ha x (by simp);have hy:Lean4 y:=hb y (by simp);simp only[four,Prod.mk.injEq]at h1;obtain⟨e1,e2,e3,e4⟩:=h1;have f3:x.op=y.op:=ByteArray.ext (Array.toList_inj.1 e3);have f4:x.text=y.text:=ByteArray.ext (Array.toList_inj.1 e4);have hxy:x=y:=by rw[hx,hy,e1,e2,f3,f4]
   rw[hxy,ih b (fun r hr=>ha r (by simp[hr])) (fun r hr=>hb r (by simp[hr])) h2]
end Go.Proofs.YtibcjfjacielbaaGreatDoor
set_option linter.unusedVariables false
set_option linter.unusedSimpArgs false
namespace Go.Proofs.YtibcjfjacielbaaGreatDoor
open Go.RowKit
def LenOK (r:PR):Prop:=r.ms.length≤1099511627776∧r.mls.length≤1099511627776∧r.inc.length≤1099511627776∧r.labels.length≤1099511627776
theorem tree_rowOf {b:Nat} {w:World} {v:Value} {r:PR} {ks:List Value} (h:NodeAt b w v r ks) (hl:LenOK r):Calls Tryz.prog 60 #[v] w (RowPost w r):=by
 cases h with
 |number g hb hg t c0=>exact rowOf_number g hb hg t c0
 |text g hb hg t c0=>exact rowOf_text g hb hg t c0
 |selector g hb hg t off tim vm ms hm c0 c1 c2 c3=>
  obtain⟨ao,c,rfl,_⟩:=id hm;exact rowOf_selector g hb hg t off tim _ _ _ ms hl.1 hm c0 c1 c2 c3
 |range g hb hg d p c0 c1=>exact rowOf_range g hb hg d p c0 c1
 |subquery g hb hg d s off tim t x c0 c1 c2 c3 c4=>exact rowOf_subquery g hb hg d s off tim t x c0 c1 c2 c3 c4
 |unary g hb hg o t x c0 c1=>exact rowOf_unary g hb hg o t x c0 c1
 |binary g hb hg o t u x y bo gi on vl vi ls inc card hl' hi c0 c1 c2 c3 c4 c5 c6 c7 c8=>
  obtain⟨ao,c,rfl,_⟩:=id hl';obtain⟨ai,ci,rfl,_⟩:=id hi;exact rowOf_binary g hb hg o t u x y bo gi on _ _ _ _ _ _ ls inc card hl.2.1 hl.2.2.1 hl' hi c0 c1 c2 c3 c4 c5 c6 c7 c8
 |call g hb hg o va ks hk c0 c1=>exact rowOf_call g hb hg o va ks hk c0 c1
 |aggr g hb hg o t x wo vl ls hl' c0 c1 c2 c3 c4=>
  obtain⟨ao,c,rfl,_⟩:=id hl';exact rowOf_aggr g hb hg o t x wo _ _ _ ls hl.2.2.2 hl' c0 c1 c2 c3 c4
 |aggr2 g hb hg o t u x y wo vl ls hl' c0 c1 c2 c3 c4=>
  obtain⟨ao,c,rfl,_⟩:=id hl';exact rowOf_aggr2 g hb hg o t u x y wo _ _ _ ls hl.2.2.2 hl' c0 c1 c2 c3 c4
structure WI where
 d:Nat
 r:PR
 m:Value
 o:Value
 i:Value
 l:Value
def WI.key (x:WI):Nat×PR:=(x.d,x.r)
def WI.encs (x:WI):Array Value:=#[.int .i64 (x.d:Int),rowV x.r x.m x.o x.i x.l]
def WI.Px (B:Nat) (x:WI) (W:World):Prop:=RowOwn B W x.r x.m x.o x.i x.l∧x.d≤1099511627776
def KeptW (B:Nat) (A C:World):Prop:=Kept B A C∧KeepT 111 A C
theorem KeptW.trans {B:Nat} {U V W:World} (h:KeptW B U V) (k:KeptW B V W):KeptW B U W:=⟨h.1.trans k.1,h.2.trans k.2⟩
def YJ (bx l:Nat) (J:List WI→World→Prop) (pre:List (Nat×PR)) (W:World):Prop:=Blk W bx 111 #[.func (.yield l) #[] #[]]∧ ∃xs:List WI,xs.map WI.key=pre∧J xs W
def YX (Jx:List WI→World→Prop) (pre:List (Nat×PR)) (W:World):Prop:= ∃xs:List WI,xs.map WI.key=pre∧Jx xs W
theorem room_wide (k:Nat):Fence.wide.room k:=fun d h=>by cases h
theorem roundIn_any {m m':Nat} {P:Program} {l:Nat} {f:FuncId} {tmps:Array Value} {assign body:Code} {w:World} {R:Ending→World→Prop} (h:RoundIn Fence.wide m P l f tmps assign body w R):RoundIn Fence.wide m' P l f tmps assign body w R:=
 ⟨h.1,fun c cs _=>h.2 c cs (room_wide _)⟩
def Rounds (B m l:Nat) (L:List (Nat×PR)) (J Jx:List WI→World→Prop):Prop:=
 ∀pre x A0 A,(pre++[x]).map WI.key<+:L→J pre A0→Below A0.heap.size A0 A→WI.Px A0.heap.size x A→YieldAt Fence.wide m Tryz.prog l (WI.encs x) A fun e C=>(e= .returned (.bool true)∧J (pre++[x]) C∧KeptW B A C)∨(e= .returned (.bool false)∧Jx (pre++[x]) C)
theorem visit_fin {B bx l d:Nat} {J Jx:List WI→World→Prop} {pre:List (Nat×PR)} {xs:List WI} {r:PR} {W W1 W2:World} {x:WI} {e:Ending} (hk:xs.map WI.key=pre) (hx:x.key=(d,r)) (hbx:Blk W1 bx 111 #[.func (.yield l) #[] #[]]) (hB:B≤W.heap.size) (hb:Below W.heap.size W W1)
  (h:(e= .returned (.bool true)∧J (xs++[x]) W2∧KeptW B W1 W2)∨(e= .returned (.bool false)∧Jx (xs++[x]) W2)):VisPost B (YJ bx l J) (YX Jx) pre (d,r) W e W2:=by
 rcases h with⟨rfl,h1,h2⟩|⟨rfl,h1⟩
 ·exact .inl ⟨rfl,⟨h2.2 _ _ hbx,xs++[x],by rw[List.map_append,hk,List.map_cons,List.map_nil,hx],h1⟩,(Kept.of_below hB hb).trans h2.1⟩
 ·exact .inr ⟨rfl,xs++[x],by rw[List.map_append,hk,List.map_cons,List.map_nil,hx],h1⟩
theorem visPost_bool {B:Nat} {J Jx:List (Nat×PR)→World→Prop} {pre:List (Nat×PR)} {x:Nat×PR} {W W':World} {e:Ending} (h:VisPost B J Jx pre x W e W'): ∃bb,e= .returned (.bool bb):=by
 rcases h with⟨rfl,_⟩|⟨rfl,_⟩<;>exact⟨_,rfl⟩
theorem row_visits {b bx l m:Nat} {w0:World} (J Jx:List WI→World→Prop) {L:List (Nat×PR)} (hY:Rounds w0.heap.size m l L J Jx):
  Visits b w0 67 #[.pointer (some ⟨bx,0,none⟩)] (YJ bx l J) (YX Jx) (· <+:L) LenOK:=by
 intro n d pre v r ks W hR hn hj hW hlt hd;obtain⟨hbx,xs,hk,hjx⟩:=hj;have HB0:=Lib.hid hbx;have HROW:Hid (∀k W',Below W.heap.size W W'→CallsIn Fence.wide k Tryz.prog 60 #[v] W' (RowPost W' r)):=Lib.hid fun k W' hb=>callsIn_wide.2 (tree_rowOf (hn.below hb) hR)
 have HY:Hid (∀m' W1 vm vo vi vl,Below W.heap.size W W1→RowOwn W.heap.size W1 r vm vo vi vl→ ∃fn tmps assign body,(Instr.yield l #[.int .i64 (d:Int),rowV r vm vo vi vl]).run Tryz.prog W1= .ok (.round l fn tmps assign body) W1∧RoundIn Fence.wide m' Tryz.prog l fn tmps assign body W1 (VisPost w0.heap.size (YJ bx l J) (YX Jx) pre (d,r) W)):=Lib.hid fun m' W1 vm vo vi vl hb ho=>by
  obtain⟨fn,tmps,assign,body,h1,h2⟩:=hY xs ⟨d,r,vm,vo,vi,vl⟩ W W1 (by rw[List.map_append,hk];exact hlt) hjx hb ⟨ho,hd⟩;exact⟨fn,tmps,assign,body,h1,(roundIn_any h2).mono fun e W2 h=>visit_fin hk rfl (HB0.out.below hb HB0.out.lt) hW.size hb h⟩
 have c0:W.drew.cell? ⟨bx,0,none⟩=some (.func (.yield l) #[] #[]):=hbx.cell 0;have s0:=hbx.lt;clear hR hn hbx hjx hk hY hW hlt hd;refine callsIn_of_wp Tryz.func67 rfl trivial ?_ rfl;simp only[Tryz.ntmps67,List.size_toArray,List.length_cons,List.length_nil,Nat.reduceAdd,Nat.reduceSub,Array.replicate_succ,Array.replicate_zero,List.push_toArray,List.append_toArray,List.nil_append,List.cons_append]
 gi_wp2_with fail
 refine wpIn_region_any (by kernel_rfl) ?_;rename_i KK hKK;have HKK:=Lib.hid hKK;clear hKK;change wpAnyIn _ _ _ _ _ _ _ _ _ (World.drew _);refine wpAnyIn_take (i:=1) (v:=.int .i64 (d:Int)) rfl rfl (by kernel_rfl) (by kernel_rfl) (by kernel_rfl) (fun _ _ _ h=>h) ⟨Or.inl ⟨by rfl,by intro w;go_simp⟩,fun _=>rfl⟩ ?_;refine wpAnyIn_take (i:=2) (v:=v) rfl rfl (by kernel_rfl) (by kernel_rfl) (by kernel_rfl) (fun _ _ _ h=>h) ⟨Or.inl ⟨by rfl,by intro w;go_simp⟩,fun _=>rfl⟩ ?_;refine wpAnyIn_ready (rs:=[0,3]) (by kernel_rfl) (by simp) ?_;refine AllReadyIn.cons rfl (fun K hK=>?_) (AllReadyIn.cons rfl (fun K hK=>?_) AllReadyIn.nil)
 ·go_simp
  refine hK _ _ ?_;clear hK K;refine wpAnyIn_ready (rs:=[3]) (by kernel_rfl) (by simp) ?_;refine AllReadyIn.cons rfl (fun K hK=>?_) AllReadyIn.nil;go_simp;refine⟨trivial,fun h=>(by cases h),?_⟩;refine(HROW.out _ _ (Below.refl _ W).drew).mono ?_;rintro e W1 ⟨vm,vo,vi,vl,rfl,ho,hb1⟩;obtain⟨fn,tmps,assign,body,hy,hR⟩:=HY.out (n-1) W1 vm vo vi vl ((Below.refl _ W).drew.trans hb1) ho;have k1:W1.cell? ⟨bx,0,none⟩=some (.func (.yield l) #[] #[]):=((((Below.refl _ W).drew.trans hb1).cell (p:=⟨bx,0,none⟩) s0)).trans (HB0.out.cell 0);clear ho hb1;refine hK _ _ ?_;clear hK K;refine wpAnyIn_ready (rs:=[4]) (by kernel_rfl) (by simp) ?_;refine AllReadyIn.cons rfl (fun K hK=>?_) AllReadyIn.nil;go_simp;refine⟨fun h=>(by cases h),?_⟩;refine hR.mono ?_;clear hR hy;rintro e W2 hv;have HV:=Lib.hid hv;obtain⟨bb,rfl⟩:=visPost_bool hv;clear hv;refine hK _ _ ?_;clear hK K;refine wpAnyIn_ready (rs:=[5]) (by kernel_rfl) (by simp) ?_;refine AllReadyIn.cons rfl (fun K hK=>?_) AllReadyIn.nil;go_simp;refine hK _ _ ?_;clear hK K;refine wpAnyIn_done (by kernel_rfl) ?_ _;refine HKK.out _ _ ?_
  gi_wp2_with fail
  go_ret;exact HV.out
 ·go_simp
  refine⟨trivial,fun h=>(by cases h),?_⟩;refine(HROW.out _ _ (Below.refl _ W).drew).mono ?_;rintro e W1 ⟨vm,vo,vi,vl,rfl,ho,hb1⟩;obtain⟨fn,tmps,assign,body,hy,hR⟩:=HY.out (n-1) W1 vm vo vi vl ((Below.refl _ W).drew.trans hb1) ho;have k1:W1.cell? ⟨bx,0,none⟩=some (.func (.yield l) #[] #[]):=((((Below.refl _ W).drew.trans hb1).cell (p:=⟨bx,0,none⟩) s0)).trans (HB0.out.cell 0);clear ho hb1;refine hK _ _ ?_;clear hK K;refine wpAnyIn_ready (rs:=[0]) (by kernel_rfl) (by simp) ?_;refine AllReadyIn.cons rfl (fun K hK=>?_) AllReadyIn.nil;go_simp;refine hK _ _ ?_;clear hK K;refine wpAnyIn_ready (rs:=[4]) (by kernel_rfl) (by simp) ?_;refine AllReadyIn.cons rfl (fun K hK=>?_) AllReadyIn.nil;go_simp;refine⟨fun h=>(by cases h),?_⟩;refine hR.mono ?_;clear hR hy;rintro e W2 hv;have HV:=Lib.hid hv;obtain⟨bb,rfl⟩:=visPost_bool hv;clear hv;refine hK _ _ ?_;clear hK K;refine wpAnyIn_ready (rs:=[5]) (by kernel_rfl) (by simp) ?_;refine AllReadyIn.cons rfl (fun K hK=>?_) AllReadyIn.nil;go_simp;refine hK _ _ ?_;clear hK K;refine wpAnyIn_done (by kernel_rfl) ?_ _;refine HKK.out _ _ ?_
  gi_wp2_with fail
  go_ret;exact HV.out
theorem walk_rootX {b:Nat} {w0 W:World} {v:Value} {L:List (Nat×PR)} (h:RootAt b w0 v L) (fv:Nat) (lb:Array Value) (eg: ∀args w,(callFunc fv args).run Tryz.prog w= .ok (.enter fv args) w) (J Jx:List (Nat×PR)→World→Prop)
  (hJ: ∀s A B,J s A→Below A.heap.size A B→J s B) {R:PR→Prop} (hV:Visits b w0 fv lb J Jx (· <+:L) R) (hR: ∀x∈L,R x.2) (hW:Below w0.heap.size w0 W) (h0:J [] W) (hL:1+L.length≤1099511627776) (n:Nat):
  CallsIn Fence.wide n Tryz.prog 57 #[v,.int .i64 1,.func (.func fv) #[] lb] W (WalkPost w0.heap.size J Jx [] L W):=by
 rcases h with⟨rfl,rfl⟩|h
 ·refine callsIn_wide.2 ((walk_nil 1 _ W).mono ?_);rintro e W' ⟨rfl,rfl⟩;exact .inl ⟨rfl,h0,Kept.refl _ _⟩
 ·exact tree_walk fv lb eg _ J _ hJ hV h hR n [] W hW h0 (fun q hq _=>by simpa using hq) hL
theorem YJ.keep {bx l:Nat} {J:List WI→World→Prop} (hJ: ∀s A B,J s A→Below A.heap.size A B→J s B) (s:List (Nat×PR)) (A B:World) (h:YJ bx l J s A) (hb:Below A.heap.size A B):YJ bx l J s B:=by
 obtain⟨h1,xs,h2,h3⟩:=h;exact⟨h1.below hb h1.lt,xs,h2,hJ _ _ _ h3 hb⟩
theorem walk_stops {b tb:Nat} {w0 w:World} {v:Value} {L:List (Nat×PR)} (h:RootAt b w0 v L) (hw0:Below w0.heap.size w0 w) (hc:w.cell? ⟨tb,0,none⟩=some v) (htb:tb<w.heap.size) (hR: ∀x∈L,LenOK x.2) (hL:1+L.length≤1099511627776) (n:Nat):
  Stops Fence.wide n Tryz.prog 66 #[.pointer (some ⟨tb,0,none⟩)] WI.encs (fun pre=>pre.map WI.key<+:L) WI.Px (KeptW w0.heap.size) (fun xs _=>xs.map WI.key=L) (fun pre _=>pre.map WI.key<+:L∧pre≠[]) w:=by
 intro l J Jx W hW hJ _ hY h0;have hb2:Below w0.heap.size w0 (W.alloc (.cells #[.func (.yield l) #[] #[]] 111)):=(hw0.trans (hW.mono hw0.size)).alloc (Nat.le_trans hw0.size hW.size) _;have hw:=fun k=>walk_rootX h 67 #[.pointer (some ⟨W.heap.size,0,none⟩)] (enters_of Tryz.func67 (by kernel_rfl) rfl) (YJ W.heap.size l J) (YX Jx) (YJ.keep hJ) (row_visits (m:=n-1) J Jx hY) hR hb2 ⟨Blk.new _ _ _,[],rfl,hJ _ _ _ h0 ((Below.refl _ W).alloc (Nat.le_refl _) _)⟩ hL k
 have HW:=Lib.hid hw;have c0:W.cell? ⟨tb,0,none⟩=some v:=(hW.cell (p:=⟨tb,0,none⟩) htb).trans hc;have s0:tb<W.heap.size:=Nat.lt_of_lt_of_le htb hW.size;clear h hw0 hc htb hR hL hW hJ hY h0 hb2 hw;refine callsIn_of_wp Tryz.func66 rfl trivial ?_ rfl;simp only[Tryz.ntmps66,List.size_toArray,List.length_cons,List.length_nil,Nat.reduceAdd,Nat.reduceSub,Array.replicate_succ,Array.replicate_zero,List.push_toArray,List.append_toArray,List.nil_append,List.cons_append]
 gi_wp2_with fail
 refine⟨trivial,fun h=>(by cases h),?_⟩;refine(HW.out _).mono ?_;rintro e W1 (⟨rfl,hj,_⟩|⟨rfl,q,hq,hqn,hx⟩)
 ·have HJ1:=Lib.hid hj;clear hj HW
  gi_wp2_with fail
  go_end0
  obtain⟨_,xs,hk,hj⟩:=HJ1.out;exact⟨⟨_,rfl⟩,.inl ⟨xs,by simpa using hk,hj⟩⟩
 ·have HX1:=Lib.hid hx;clear hx HW
  gi_wp2_with fail
  go_end0
  obtain⟨xs,hk,hj⟩:=HX1.out;refine⟨⟨_,rfl⟩,.inr ⟨xs,⟨by rw[hk];simpa using hq,?_⟩,hj⟩⟩;rintro rfl;exact hqn (by simpa using hk.symm)
theorem tree_Walk (v:Value) (w:World):Calls Tryz.prog 23 #[.agg #[v]] w fun e w'=>e= .returned (.func (.func 66) #[] #[.pointer (some ⟨w.heap.size,0,none⟩)])∧w'=w.alloc (.cells #[v] 26):=by
 go_enter Tryz.func23,Tryz.ntmps23;go_wp2_with fail;go_ret;exact⟨rfl,rfl⟩
end Go.Proofs.YtibcjfjacielbaaGreatDoor
