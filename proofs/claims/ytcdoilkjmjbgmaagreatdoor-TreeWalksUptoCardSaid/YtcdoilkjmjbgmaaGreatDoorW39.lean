import Derived.Test.YtcdoilkjmjbgmaaGreatDoorW38
import Derived.BigRegionIn
import Derived.Test.YtcdoilkjmjbgmaaGreatDoorW37
import Derived.Test.YtcdoilkjmjbgmaaGreatDoorW34
/- Part of the proof of YtcdoilkjmjbgmaaGreatDoorCardX: TwA InB TwC TsA TwD TkJ TrZg TrZk TrZr TgR TkR TsD. -/
set_option maxRecDepth 100000
set_option maxHeartbeats 4000000
set_option linter.unusedVariables false
set_option linter.unusedSimpArgs false
namespace Go.Proofs.YtcdoilkjmjbgmaaGreatDoor
open Go.RowKit
open Go.Proofs.Tryz
variable {m m' B bx d b n p B0 size s g sz k c gs lo:Nat} {P:Program} {l x o i vv i' u t5 t6 v mo v3 v' kv SV:Value} {tmps:Array Value} {w W W1 W2 W' w0 w' A A' wr W3 W9 W10 wc WM:World} {R:Ending→World→Prop} {pre L:List (Nat×PR)} {r q:PR} {e:Ending} {ops:Array Oper} {rest:List Oper} {a:Act} {Q:Exit→Act→World→Prop} {xs ys ks:List Value} {t:TypeId} {ms:List PM} {zs:List (rk×Value)} {ss:List ByteArray} {rs y:List PR}
structure WI where
 d:Nat
 r:PR
 m:Value
 o:Value
 i:Value
 l:Value
def WI.key (x:WI):Nat×PR:=(x.d,x.r)
def WI.DK (x:WI):Array Value:=#[.int .i64 (x.d:Int),jP x.r x.m x.o x.i x.l]
def WI.Px (B:Nat) (x:WI) (W:World):Prop:=dA B W x.r x.m x.o x.i x.l∧x.d≤1099511627776
def mG (B:Nat) (A C:World):Prop:=Kept B A C∧gU 76 A C
theorem mG.trans {B:Nat} {U V W:World} (h:mG B U V) (k:mG B V W):mG B U W:=⟨h.1.trans k.1,h.2.trans k.2⟩
def YJ (bx l:Nat) (J:List WI→World→Prop) (pre:List (Nat×PR)) (W:World):Prop:=aH W bx 76 #[.func (.yield l) #[] #[]]∧ ∃xs:List WI,xs.map WI.key=pre∧J xs W
def YX (Jx:List WI→World→Prop) (pre:List (Nat×PR)) (W:World):Prop:= ∃xs:List WI,xs.map WI.key=pre∧Jx xs W
theorem room_wide (k:Nat):Fence.wide.room k:=fun d h=>by cases h
theorem KS {l:Nat} {f:FuncId} {assign body:Code} (h:RoundIn Fence.wide m P l f tmps assign body w R):RoundIn Fence.wide m' P l f tmps assign body w R:=
 ⟨h.1,fun c cs _=>h.2 c cs (room_wide _)⟩
def acH (B m l:Nat) (L:List (Nat×PR)) (J Jx:List WI→World→Prop):Prop:=
 ∀pre x A0 A,(pre++[x]).map WI.key<+:L→J pre A0→Below A0.heap.size A0 A→WI.Px A0.heap.size x A→YieldAt Fence.wide m prog l (WI.DK x) A fun e C=>(e= .returned (.bool true)∧J (pre++[x]) C∧mG B A C)∨(e= .returned (.bool false)∧Jx (pre++[x]) C)
theorem Rw {l:Nat} {J Jx:List WI→World→Prop} {xs:List WI} {x:WI} (hk:xs.map WI.key=pre) (hx:x.key=(d,r)) (Lf:aH W1 bx 76 #[.func (.yield l) #[] #[]]) (hB:B≤W.heap.size) (hb:Below W.heap.size W W1)
  (h:(e= .returned (.bool true)∧J (xs++[x]) W2∧mG B W1 W2)∨(e= .returned (.bool false)∧Jx (xs++[x]) W2)):AI B (YJ bx l J) (YX Jx) pre (d,r) W e W2:=by
 rcases h with⟨rfl,h1,h2⟩|⟨rfl,h1⟩
 ·exact .inl ⟨rfl,⟨h2.2 _ _ Lf,xs++[x],by rw[mZ,hk,mv,oI,hx],h1⟩,(Kept.ia hB hb).trans h2.1⟩
 ·exact .inr ⟨rfl,xs++[x],by rw[mZ,hk,mv,oI,hx],h1⟩
theorem wZ {J Jx:List (Nat×PR)→World→Prop} {x:Nat×PR} (h:AI B J Jx pre x W e W'): ∃bb,e= .returned (.bool bb):=by
 rcases h with⟨rfl,_⟩|⟨rfl,_⟩<;>exact⟨_,rfl⟩
theorem Nz {l:Nat} (J Jx:List WI→World→Prop) {L:List (Nat×PR)} (hY:acH w0.heap.size m l L J Jx):
  xI b w0 35 #[.pointer (some ⟨bx,0,none⟩)] (YJ bx l J) (YX Jx) (· <+:L) iO:=by
 intro n d pre v r ks W hR hn hj hW au hd;obtain⟨Lf,xs,hk,hjx⟩:=hj;have PL:=aa Lf;have afV:Hid (∀k W',Below W.heap.size W W'→CallsIn Fence.wide k prog 36 #[v] W' (gM W' r)):=aa fun k W' hb=>oJ.2 (Nq (hn.below hb) hR)
 have HY:Hid (∀m' W1 vm vo vi vl,Below W.heap.size W W1→dA W.heap.size W1 r vm vo vi vl→ ∃fn tmps assign body,(Instr.yield l #[.int .i64 (d:Int),jP r vm vo vi vl]).run prog W1= .ok (.round l fn tmps assign body) W1∧RoundIn Fence.wide m' prog l fn tmps assign body W1 (AI w0.heap.size (YJ bx l J) (YX Jx) pre (d,r) W)):=aa fun m' W1 vm vo vi vl hb ho=>by
  obtain⟨fn,tmps,assign,body,h1,h2⟩:=hY xs ⟨d,r,vm,vo,vi,vl⟩ W W1 (by rw[mZ,hk];exact au) hjx hb ⟨ho,hd⟩;exact⟨fn,tmps,assign,body,h1,(KS h2).mono fun e W2 h=>Rw hk rfl (PL.out.below hb PL.out.lt) hW.size hb h⟩
 have c0:W.drew.cell? ⟨bx,0,none⟩=some (.func (.yield l) #[] #[]):=Lf.cell 0;have s0:=Lf.lt;clear hR hn Lf hjx hk hY hW au hd;refine callsIn_of_wp func35 rfl trivial ?_ rfl;simp only[ntmps35,List.size_toArray,dI,oB,Nat.reduceAdd,Nat.reduceSub,Oo,Oq,List.push_toArray,Ou,vy,pJ]
 gi_wp2_with fail
 refine wpIn_region_any (by kernel_rfl) ?_;rename_i KK yr;have HKK:=aa yr;clear yr;change wpAnyIn _ _ _ _ _ _ _ _ _ (World.drew _);refine wpAnyIn_take (i:=1) (v:=.int .i64 (d:Int)) rfl rfl (by kernel_rfl) (by kernel_rfl) (by kernel_rfl) (fun _ _ _ h=>h) ⟨Or.inl ⟨by rfl,by intro w;go_simp⟩,fun _=>rfl⟩ ?_;refine wpAnyIn_take (i:=2) (v:=v) rfl rfl (by kernel_rfl) (by kernel_rfl) (by kernel_rfl) (fun _ _ _ h=>h) ⟨Or.inl ⟨by rfl,by intro w;go_simp⟩,fun _=>rfl⟩ ?_;refine wpAnyIn_ready (rs:=[0,3]) (by kernel_rfl) (by simp) ?_;refine AllReadyIn.cons rfl (fun K hK=>?_) (AllReadyIn.cons rfl (fun K hK=>?_) AllReadyIn.nil)
 ·go_simp
  refine hK _ _ ?_;clear hK K;refine wpAnyIn_ready (rs:=[3]) (by kernel_rfl) (by simp) ?_;refine AllReadyIn.cons rfl (fun K hK=>?_) AllReadyIn.nil;go_simp;refine⟨trivial,fun h=>(by cases h),?_⟩;refine(afV.out _ _ (aS _ W).drew).mono ?_;rintro e W1 ⟨vm,vo,vi,vl,rfl,ho,aU⟩;obtain⟨fn,tmps,assign,body,hy,hR⟩:=HY.out (n-1) W1 vm vo vi vl ((aS _ W).drew.trans aU) ho;have k1:W1.cell? ⟨bx,0,none⟩=some (.func (.yield l) #[] #[]):=((((aS _ W).drew.trans aU).cell (p:=⟨bx,0,none⟩) s0)).trans (PL.out.cell 0);clear ho aU;refine hK _ _ ?_;clear hK K;refine wpAnyIn_ready (rs:=[4]) (by kernel_rfl) (by simp) ?_;refine AllReadyIn.cons rfl (fun K hK=>?_) AllReadyIn.nil;go_simp;refine⟨fun h=>(by cases h),?_⟩;refine hR.mono ?_;clear hR hy;rintro e W2 hv;have HV:=aa hv;obtain⟨bb,rfl⟩:=wZ hv;clear hv;refine hK _ _ ?_;clear hK K;refine wpAnyIn_ready (rs:=[5]) (by kernel_rfl) (by simp) ?_;refine AllReadyIn.cons rfl (fun K hK=>?_) AllReadyIn.nil;go_simp;refine hK _ _ ?_;clear hK K;refine wpAnyIn_done (by kernel_rfl) ?_ _;refine HKK.out _ _ ?_
  gi_wp2_with fail
  go_ret;exact HV.out
 ·go_simp
  refine⟨trivial,fun h=>(by cases h),?_⟩;refine(afV.out _ _ (aS _ W).drew).mono ?_;rintro e W1 ⟨vm,vo,vi,vl,rfl,ho,aU⟩;obtain⟨fn,tmps,assign,body,hy,hR⟩:=HY.out (n-1) W1 vm vo vi vl ((aS _ W).drew.trans aU) ho;have k1:W1.cell? ⟨bx,0,none⟩=some (.func (.yield l) #[] #[]):=((((aS _ W).drew.trans aU).cell (p:=⟨bx,0,none⟩) s0)).trans (PL.out.cell 0);clear ho aU;refine hK _ _ ?_;clear hK K;refine wpAnyIn_ready (rs:=[0]) (by kernel_rfl) (by simp) ?_;refine AllReadyIn.cons rfl (fun K hK=>?_) AllReadyIn.nil;go_simp;refine hK _ _ ?_;clear hK K;refine wpAnyIn_ready (rs:=[4]) (by kernel_rfl) (by simp) ?_;refine AllReadyIn.cons rfl (fun K hK=>?_) AllReadyIn.nil;go_simp;refine⟨fun h=>(by cases h),?_⟩;refine hR.mono ?_;clear hR hy;rintro e W2 hv;have HV:=aa hv;obtain⟨bb,rfl⟩:=wZ hv;clear hv;refine hK _ _ ?_;clear hK K;refine wpAnyIn_ready (rs:=[5]) (by kernel_rfl) (by simp) ?_;refine AllReadyIn.cons rfl (fun K hK=>?_) AllReadyIn.nil;go_simp;refine hK _ _ ?_;clear hK K;refine wpAnyIn_done (by kernel_rfl) ?_ _;refine HKK.out _ _ ?_
  gi_wp2_with fail
  go_ret;exact HV.out
theorem Hn {F:Fence} {o:Oper} (Sc:o.guard=none) (hab:o.about P w a.eval=none) (sX: ∀c,o.op≠.defer c)
  (hr:(execOp a.eval o).run P w= .ok .skip w') (h:wpListIn F m P ops Q rest (a.put o.dst undef) w'):wpListIn F m P ops Q (o::rest) a w:=by
 refine wpListIn_plain Sc fun K hK=>?_
 unfold Oper.wpIn;refine⟨fun f hf=>(by rw[hab]at hf;cases hf),?_⟩;rw[Oper.semAt_plain F _ _ sX,hr];exact hK _ _ h
theorem mW {F:Fence} {o:Oper} (Sc:o.guard=none) (ty:TypeId) (x y:Operand) (ho:o.op= .store ty x y)
  (g:Nat) (cells:Array Value) (hx:a.eval x= .pointer (some ⟨g,0,none⟩)) (hy:a.eval y= .agg cells)
  {t:TypeId} {Xg:Array Value} (hb:aH w g t Xg) (hi:(P.info? ty).map (·.size)=some cells.size)
  (hold:Xg.size=cells.size) (h1:cells.toList.all (·.oneCell')=true)
  (h: ∀W,aH W g t cells→w.grownBy W (some g)→wpListIn F m P ops Q rest (a.put o.dst undef) W):wpListIn F m P ops Q (o::rest) a w:=by
 refine Hn (w':=w.setRow g cells) Sc (by simp[Oper.about,ho]) (by rw[ho];intro c hc;cases hc) ?_ (h _ (setRow_heap w g Xg cells t (0,0) hb) (wL w g cells));unfold execOp;simp only[ho,hx,hy,Instr.storeAt,Instr.sureAddr,vA,Bf,A7,run_storeVar_row w g t ty Xg cells hb hi hold (by rw[←Array.all_toList];exact h1)]
theorem dA.push {m:Value} (h:dA B w r m o i l) (ho:w.ownsRow b 46 17 vv n xs) (hg:w.grownBy w' vv.ownBlock):dA B w' r m o i l:=
 ⟨h.m.kept hg (cI h.m ho (by decide)),h.o.kept hg (cI h.o ho (by decide)),h.i.kept hg (cI h.i ho (by decide)),h.l.kept hg (cI h.l ho (by decide)),h.oi,h.ol,h.il⟩
theorem dA.dw {i:Nat} {m:Value} {cs:Array Value} (h:dA B w r m o i' l) (hp:aH w p t cs) (h1:9≠t) (h2:65≠t):dA B (w.setCell ⟨p,i,none⟩ u) r m o i' l:=
 ⟨aF h.m hp h2 u,aF h.o hp h1 u,aF h.i hp h1 u,aF h.l hp h1 u,h.oi,h.ol,h.il⟩
def WI.cs (x:WI):List Value:=lF x.r x.m x.o x.i x.l
def WI.XP (x y:WI):Prop:= ∀u∈[x.m,x.o,x.i,x.l],∀v∈[y.m,y.o,y.i,y.l],cJ u v
theorem WI.acI {z x:WI} (h:z.Px B A) (h':x.Px A.heap.size A'):z.XP x:=by
 intro u hu v hv;simp only[gq,kE,iN]at hu hv;rcases hu with rfl|rfl|rfl|rfl<;>rcases hv with rfl|rfl|rfl|rfl
 ·exact cO h.1.m h'.1.m (aP _)
 ·exact cO h.1.m h'.1.o (aP _)
 ·exact cO h.1.m h'.1.i (aP _)
 ·exact cO h.1.m h'.1.l (aP _)
 ·exact cO h.1.o h'.1.m (aP _)
 ·exact cO h.1.o h'.1.o (aP _)
 ·exact cO h.1.o h'.1.i (aP _)
 ·exact cO h.1.o h'.1.l (aP _)
 ·exact cO h.1.i h'.1.m (aP _)
 ·exact cO h.1.i h'.1.o (aP _)
 ·exact cO h.1.i h'.1.i (aP _)
 ·exact cO h.1.i h'.1.l (aP _)
 ·exact cO h.1.l h'.1.m (aP _)
 ·exact cO h.1.l h'.1.o (aP _)
 ·exact cO h.1.l h'.1.i (aP _)
 ·exact cO h.1.l h'.1.l (aP _)
def I5 (B p:Nat) (xs:List WI) (W:World):Prop:=
 ∃vv,aH W p 22 #[vv]∧W.ownsRow B 46 17 vv xs.length (xs.flatMap WI.cs)∧(∀z∈xs,z.Px B W)∧xs.Pairwise WI.XP
theorem I5.own:OwnFrom B0 (I5 B p):=by
 rintro xs W W' row ⟨vv,h1,h2,h3,h4⟩ hg hr;have hc: ∀(g:Nat) (cs:Array Value) (t:TypeId),aH W g t cs→some g≠row:=fun g cs t hb e=>by
  obtain⟨_,o,ho,hn⟩:=hr g e.symm;rw[show W.heap[g]? =some (.cells cs t (0,0))from hb]at ho;injection ho with ho
  subst ho;cases hn
 have hk: ∀{b s n:Nat} {e:TypeId} {v:Value} {ys:List Value},W.ownsRow b e s v n ys→W'.ownsRow b e s v n ys:=fun {b s n e v ys} ho=>by
  refine ho.kept hg ?_;rcases ho.2 with⟨rfl,_⟩|⟨g,cap,cur,rfl,_,Ig,_⟩
  ·exact .inl rfl
  ·exact .inr (hc g cur e Ig)
 exact⟨vv,h1.grown hg (hc _ _ _ h1),hk h2,fun z hz=>⟨⟨hk (h3 z hz).1.m,hk (h3 z hz).1.o,hk (h3 z hz).1.i,hk (h3 z hz).1.l,(h3 z hz).1.oi,(h3 z hz).1.ol,(h3 z hz).1.il⟩,(h3 z hz).2⟩,h4⟩
theorem ya {α:Type} {I:α→World→Prop} (h:OwnFrom B I) (x:α):Abides B (I x):=fun A l o o' hp hl ho hn=>OwnFrom.putObj h o' hp hl ho hn
theorem WI.Ul:OwnFrom B0 (WI.Px B):=by
 rintro x W W' row h1 hg hr;have hk: ∀{b s n:Nat} {e:TypeId} {v:Value} {ys:List Value},W.ownsRow b e s v n ys→W'.ownsRow b e s v n ys:=fun {b s n e v ys} ho=>by
  refine ho.kept hg ?_;rcases ho.2 with⟨rfl,_⟩|⟨g,cap,cur,rfl,_,Ig,_⟩
  ·exact .inl rfl
  ·refine .inr fun e=>?_
   obtain⟨_,o,PK,hn⟩:=hr g e.symm;rw[Ig]at PK;injection PK with PK
   subst PK;cases hn
 exact⟨⟨hk h1.1.m,hk h1.1.o,hk h1.1.i,hk h1.1.l,h1.1.oi,h1.1.ol,h1.1.il⟩,h1.2⟩
theorem mG.putObj {B:Nat} (W:World) (l:Nat) (o o':Obj) (hB:B≤l) (hl:W.heap[l]? =some o) (ho:o.isCells=false) (_:o.isWalk=false):mG B W (W.putObj l o'):=by
 have hk: ∀t,gU t W (W.putObj l o'):=fun t g cs hb=>by
  refine hb.grown (grownBy_putObj' W l o') ?_;intro e;injection e with e
  subst e;rw[show W.heap[g]? =some (.cells cs t (0,0))from hb]at hl;injection hl with hl
  subst hl;cases ho
 exact⟨⟨(aS _ W).grown (grownBy_putObj' W l o') (bn hB (jt (u7.1 hl).1)) (fun k e=>by injection e with e;omega),hk _⟩,hk _⟩
def A1 (x:rk×Value):List Value:=[.string x.1.name,x.2,.string x.1.off,.string x.1.tim]
def vp (B:Nat) (t5:Value) (W:World) (v:Value) (ms:List PM):Prop:= ∃lo w1,fU lo w1 v ms∧B≤lo∧iH lo w1 W∧Off lo w1 t5
theorem vp.below {B:Nat} {t5:Value} {W W':World} {v:Value} {ms:List PM} (h:vp B t5 W v ms) (hb:Below W.heap.size W W'):vp B t5 W' v ms:=by
 obtain⟨lo,w1,h1,h2,h3,h4⟩:=h;exact⟨lo,w1,h1,h2,h3.below hb,h4⟩
theorem vp.push (h:vp B t5 W v ms) (hg:W.grownBy W' t5.ownBlock) (ht:fl t5 t6∨(t6.ownBlock=some (W.heap.size+1)∧W.grownBy W' none)):vp B t6 W' v ms:=by
 obtain⟨lo,w1,h1,h2,h3,h4⟩:=h;refine⟨lo,w1,h1,h2,h3.grow hg h4,fun q hq=>?_⟩;rcases ht with⟨g,n,m,cap,e1,e2⟩|⟨e1,_⟩
 ·subst e1 e2;exact h4 q (by simpa [Value.ownBlock]using hq)
 ·rw[e1]at hq;injection hq with hq
  have:=h3.1;omega
theorem vp.dw {i:Nat} (h:vp B t5 W v ms) (hp:p<B):vp B t5 (W.setCell ⟨p,i,none⟩ u) v ms:=by
 obtain⟨lo,w1,h1,h2,h3,h4⟩:=h;refine⟨lo,w1,h1,h2,⟨by simpa using h3.1,fun k hk hl=>?_⟩,h4⟩;rw[vr W ⟨p,i,none⟩ u k (by show k≠p;omega)];exact h3.2 k hk hl
theorem Rx {e:TypeId} (h:w.ownsRow b e size v n xs) (hg:w.grownBy w' v.ownBlock) (bC:e≠t):gU t w w':=
 fun g cs hb=>hb.grown hg (dL h hb bC).symm
def LY (B:Nat) (W:World) (zs:List (rk×Value)):Prop:=(∀z∈zs,xy B W z.2 z.1.ms)∧zs.Pairwise fun x y=>cJ x.2 y.2
theorem LY.below (h:LY B W zs) (hb:Below W.heap.size W W'):LY B W' zs:=⟨fun z hz=>aD (h.1 z hz) hb,h.2⟩
structure vN (p:Nat) (L:List (Nat×PR)) (W:World):Prop where
 ex: ∃(v:Value) (zs:List (rk×Value)),zs.map (·.1)=jT (L.map (·.2))∧aH W p 51 #[v]∧W.ownsRow (p+1) 60 4 v zs.length (zs.flatMap A1)∧(∀z∈zs,vp (p+1) v W z.2 z.1.ms)∧LY (p+1) W zs
theorem vN.fN (s:List (Nat×PR)) (A B:World) (h:vN p s A) (hb:Below A.heap.size A B):vN p s B:=by
 obtain⟨v,zs,h1,h2,h3,h4,h5⟩:=h.ex;exact⟨⟨v,zs,h1,h2.below hb h2.lt,aD h3 hb,fun z hz=>(h4 z hz).below hb,h5.below hb⟩⟩
theorem zF (L:List PR) (r:PR):jT (L++[r])=jT L++(if r.kind=3 then[⟨r.text,r.ms,r.off,r.tim⟩]else[]):=by
 unfold jT;rw[List.filter_append,mZ];by_cases h:r.kind=3<;>simp[h]
def VY (w:World) (L:List (Nat×PR)) (e:Ending) (w':World):Prop:=
 ∃(v:Value) (zs:List (rk×Value)),e= .returned v∧zs.map (·.1)=jT (L.map (·.2))∧w'.ownsRow w.heap.size 60 4 v zs.length (zs.flatMap A1)∧(∀z∈zs,vp w.heap.size v w' z.2 z.1.ms)∧Below w.heap.size w w'
def pw (w:World) (L:List (Nat×PR)) (e:Ending) (w':World):Prop:=
 ∃(v:Value) (zs:List (rk×Value)),e= .returned v∧zs.map (·.1)=jT (L.map (·.2))∧w'.ownsRow w.heap.size 60 4 v zs.length (zs.flatMap A1)∧(∀z∈zs,vp w.heap.size v w' z.2 z.1.ms)∧Below w.heap.size w w'∧LY w.heap.size w' zs
theorem pw.one (h:pw w L e w'):VY w L e w':=by
 obtain⟨v,zs,h1,h2,h3,h4,h5,_⟩:=h;exact⟨v,zs,h1,h2,h3,h4,h5⟩
def abK (w:World) (v:Value) (ss:List rk):Prop:=
 ∃ao c,v= .slice ao ss.length c∧ ∀j (h:j<ss.length),∃g o vm,ao=some ⟨g,o,none⟩∧g<w.heap.size∧fU 0 w vm ss[j].ms∧w.cell? ⟨g,o+j*4,none⟩=some (.string ss[j].name)∧w.cell? ⟨g,o+j*4+1,none⟩=some vm∧w.cell? ⟨g,o+j*4+2,none⟩=some (.string ss[j].off)∧w.cell? ⟨g,o+j*4+3,none⟩=some (.string ss[j].tim)
theorem abK.below {w w':World} {v:Value} {ss:List rk} (h:abK w v ss) (hb:Below w.heap.size w w'):abK w' v ss:=by
 obtain⟨ao,c,h1,h2⟩:=h;refine⟨ao,c,h1,fun j hj=>?_⟩;obtain⟨g,o,vm,a,l,m,x,y,z,u⟩:=h2 j hj;exact⟨g,o,vm,a,gO l hb.size,m.below hb,(hb.cell (p:=⟨g,_,none⟩) l).trans x,(hb.cell (p:=⟨g,_,none⟩) l).trans y,(hb.cell (p:=⟨g,_,none⟩) l).trans z,(hb.cell (p:=⟨g,_,none⟩) l).trans u⟩
theorem lA (h:Below W.heap.size W W'):KeepsFrom B W W':=⟨h.size,fun k o _ hk _=>(h.block k (u7.1 hk).1).trans hk⟩
theorem D9 {e:TypeId} (h:W.ownsRow b e size vv n xs) (hg:W.grownBy W' vv.ownBlock):KeepsFrom B W W':=by
 refine⟨hg.size,fun k o _ hk ho=>(hg.block k (u7.1 hk).1 ?_).trans hk⟩;intro e';rcases h.2 with⟨rfl,_⟩|⟨g,cap,cur,rfl,_,Ig,_⟩
 ·simp[Value.ownBlock]at e'
 ·simp[Value.ownBlock]at e';subst e';rw[Ig]at hk;injection hk with hk
  subst hk;cases ho
theorem Ea {i:Nat} {cs:Array Value} (h:aH W p t cs) (u:Value):KeepsFrom B W (W.setCell ⟨p,i,none⟩ u):=by
 refine⟨by simp,fun k o _ hk ho=>?_⟩;rw[vr W ⟨p,i,none⟩ u k ?_]
 ·exact hk
 ·show k≠p;intro e;rw[e]at hk;rw[show W.heap[p]? =some (.cells cs t (0,0))from h]at hk;injection hk with hk
  subst hk;cases ho
theorem mG.ia {B:Nat} {W W':World} (hB:B≤W.heap.size) (h:Below W.heap.size W W'):mG B W W':=⟨Kept.ia hB h,gU.ia h⟩
theorem WI.Px.below {B:Nat} {x:WI} {W W':World} (h:x.Px B W) (hb:Below W.heap.size W W'):x.Px B W':=⟨h.1.below hb,h.2⟩
theorem I5.below {B p:Nat} {xs:List WI} {W W':World} (h:I5 B p xs W) (hb:Below W.heap.size W W'):I5 B p xs W':=by
 obtain⟨vv,h1,h2,h3,h4⟩:=h;exact⟨vv,h1.below hb h1.lt,aD h2 hb,fun z hz=>(h3 z hz).below hb,h4⟩
def wD (w:World) (L:List (Nat×PR)) (e:Ending) (w':World):Prop:=
 ∃(vv:Value) (xs:List WI),e= .returned vv∧xs.map WI.key=L∧w'.ownsRow w.heap.size 46 17 vv xs.length (xs.flatMap WI.cs)∧(∀z∈xs,z.Px w.heap.size w')∧xs.Pairwise WI.XP∧Below w.heap.size w w'
theorem VZ {row:Option Nat} {e:TypeId} (ho:W.ownsRow b e s v n ys) (hg:W.grownBy W' row) (hr: ∀r,row=some r→B0≤r∧ ∃o:Obj,W.heap[r]? =some o∧o.isCells=false):W'.ownsRow b e s v n ys:=by
 refine ho.kept hg ?_;rcases ho.2 with⟨rfl,_⟩|⟨g,cap,cur,rfl,_,Ig,_⟩
 ·exact .inl rfl
 ·refine .inr fun e=>?_
  obtain⟨_,o,PK,hn⟩:=hr g e.symm;rw[Ig]at PK;injection PK with PK
  subst PK;cases hn
theorem wD.own (hB:w.heap.size≤B0):OwnFrom B0 (wD w L):=by
 rintro e W W' row ⟨vv,xs,h1,h2,h3,h4,h6,h5⟩ hg hr;exact⟨vv,xs,h1,h2,VZ h3 hg hr,fun z hz=>WI.Ul z W W' row (h4 z hz) hg hr,h6,h5.grown hg h5.size fun k e=>bn hB (hr k e).1⟩
theorem Ry:(prog.info? 46).map (fun i=>(i.zero,i.size,i.bytes))=some (some (.agg zc),17,240):=by kernel_rfl
theorem GI {cs:Array Value} :OwnFrom B (fun(_:Unit) W=>aH W g t cs):=by
 rintro _ W W' row h hg hr;refine aH.grown h hg fun e=>?_
 obtain⟨_,o,ho,hn⟩:=hr g e.symm;rw[show W.heap[g]? =some (.cells cs t (0,0))from h]at ho;injection ho with ho
 subst ho;cases hn
theorem aaa (x:WI) {B:Nat} {W:World} (h:x.Px B W): ∀u∈[.int .i64 x.r.kind,.int .i64 x.r.kids,.string x.r.op,.string x.r.text,x.m,.string x.r.bQ,.string x.r.step,.string x.r.off,.string x.r.tim,.bool x.r.bool,.bool x.r.given,.bool x.r.on,x.o,.int .i64 x.r.card,x.i,.bool x.r.without,x.l],u.oneCell'=true:=by
 obtain⟨a1,n1,c1,e1⟩:=bA h.1.m;obtain⟨a2,n2,c2,e2⟩:=bA h.1.o;obtain⟨a3,n3,c3,e3⟩:=bA h.1.i;obtain⟨a4,n4,c4,e4⟩:=bA h.1.l;rw[e1,e2,e3,e4];intro u hu;simp only[gq,kE,iN]at hu;rcases hu with rfl|rfl|rfl|rfl|rfl|rfl|rfl|rfl|rfl|rfl|rfl|rfl|rfl|rfl|rfl|rfl|rfl<;>rfl
attribute [local go_sem] Oper.semAt_some
theorem cL.src (h:cL b w v ss):AW 1 w v ss.length (ss.flatMap lK):=by
 obtain⟨ao,c,rfl,hc⟩:=h;refine⟨ao,c,rfl,rO lK 1 (fun _=>rfl) ss,fun u hu=>?_,?_⟩
 ·obtain⟨m,_,hm⟩:=IP.1 hu;simp only[lK,gq,kE,iN]at hm;rcases hm with rfl;rfl
 ·cases ss with
  |nil=>cases ao with
   |none=>exact .inl ⟨rfl,rfl⟩
   |some a=>exact .inr ⟨a,rfl,fun j u hu=>by simp at hu⟩
  |cons m ms=>
   obtain⟨g,o,rfl,_⟩:=hc 0 (by simp);refine .inr ⟨_,rfl,fun j u hu=>?_⟩;rw[mB];refine qn lK 1 (fun _=>rfl) (by decide) (m::ms) w g o (fun j hj i hi=>?_) j u hu;obtain⟨g',o',he,_,_,x⟩:=hc j hj;cases he
   match i,hi with
   |0,_=>rw[oC];exact x
theorem Pk {o:Nat} {m:Value} (h: ∀k (hk:k<17),W.cell? ⟨g,o+k,none⟩=some ((lF r m mo i l)[k]'(by simp[lF];omega))):
  W.cell? ⟨g,o,none⟩=some (.int .i64 r.kind)∧W.cell? ⟨g,o+1,none⟩=some (.int .i64 r.kids)∧W.cell? ⟨g,o+2,none⟩=some (.string r.op)∧W.cell? ⟨g,o+3,none⟩=some (.string r.text)∧W.cell? ⟨g,o+4,none⟩=some m∧W.cell? ⟨g,o+5,none⟩=some (.string r.bQ)∧W.cell? ⟨g,o+6,none⟩=some (.string r.step)∧W.cell? ⟨g,o+7,none⟩=some (.string r.off)∧W.cell? ⟨g,o+8,none⟩=some (.string r.tim)∧W.cell? ⟨g,o+9,none⟩=some (.bool r.bool)∧W.cell? ⟨g,o+10,none⟩=some (.bool r.given)∧W.cell? ⟨g,o+11,none⟩=some (.bool r.on)∧W.cell? ⟨g,o+12,none⟩=some mo∧W.cell? ⟨g,o+13,none⟩=some (.int .i64 r.card)∧W.cell? ⟨g,o+14,none⟩=some i∧W.cell? ⟨g,o+15,none⟩=some (.bool r.without)∧W.cell? ⟨g,o+16,none⟩=some l:=
 ⟨h 0 (by omega),h 1 (by omega),h 2 (by omega),h 3 (by omega),h 4 (by omega),h 5 (by omega),h 6 (by omega),h 7 (by omega),h 8 (by omega),h 9 (by omega),h 10 (by omega),h 11 (by omega),h 12 (by omega),h 13 (by omega),h 14 (by omega),h 15 (by omega),h 16 (by omega)⟩
def TQ (w:World) (rs:List PR) (k:Nat) (vv:Value) (W:World):Prop:=
 ∃xs:List WI,xs.map (·.r)=rs.take k∧W.ownsRow w.heap.size 46 17 vv xs.length (xs.flatMap WI.cs)∧(∀z∈xs,z.Px w.heap.size W)∧xs.Pairwise WI.XP∧Below w.heap.size w W
def rU (w:World) (rs:List PR) (e:Ending) (w':World):Prop:=
 ∃(vv:Value) (xs:List WI),e= .returned vv∧xs.map (·.r)=rs∧w'.ownsRow w.heap.size 46 17 vv xs.length (xs.flatMap WI.cs)∧(∀z∈xs,z.Px w.heap.size w')∧xs.Pairwise WI.XP∧Below w.heap.size w w'
theorem Rz (w:World) (g i:Nat) (u:Value):w.grownBy (w.setCell ⟨g,i,none⟩ u) (some g):=
 ⟨rfl,by first|rfl|simp,rfl,by simp,fun k _ bC=>vr w ⟨g,i,none⟩ u k (by rintro rfl;exact bC rfl)⟩
structure CS (wr W:World) (cs:Array Value):Prop where
 z:aH W wr.heap.size 46 cs
 b:Below wr.heap.size wr W
theorem CS.list {cs:Array Value} {e:TypeId} (h:CS wr W cs) (he:e≠46) (hg:(W.alloc (.cells #[] e)).grownBy W3 (some W.heap.size)) (ho:W3.ownsRow W.heap.size e sz v3 n ys):
  CS wr (W3.setCell ⟨wr.heap.size,k,none⟩ v3) (cs.setIfInBounds k v3)∧(W3.setCell ⟨wr.heap.size,k,none⟩ v3).ownsRow W.heap.size e sz v3 n ys∧W.grownBy (W3.setCell ⟨wr.heap.size,k,none⟩ v3) (some wr.heap.size):=by
 have hl:=h.z.lt;have z3:aH W3 wr.heap.size 46 cs:=(h.z.alloc _).grown hg (by intro e;injection e;omega);have cr:Below W.heap.size W W3:=((aS W.heap.size W).alloc (aP _) _).grown hg (by simp) (fun k hk=>by injection hk with hk;omega);exact⟨⟨z3.dw k v3,(h.b.trans (cr.mono h.b.size)).setCell (p:=⟨wr.heap.size,k,none⟩) (aP _) _⟩,aF ho z3 he v3,dh (eB cr _) (Rz W3 wr.heap.size k v3)⟩
theorem sU (W:World) (e:TypeId) (sz:Nat):(W.alloc (.cells #[] e)).ownsRow W.heap.size e sz (.slice (some ⟨W.heap.size,0,none⟩) 0 0) 0 []:=by
 have:=World.ownsRow_made (size:=sz) (base:=W.heap.size) (e:=e) W #[] 0 (aP _) (aT _) (by simp);simpa using this
theorem RA {xs:List WI} {x:WI} (hm:xs.map (·.r)=rs.take k) (ho:wr.ownsRow w.heap.size 46 17 vv xs.length (xs.flatMap WI.cs)) (hp: ∀z∈xs,z.Px w.heap.size wr) (hf:xs.Pairwise WI.XP) (hb:Below w.heap.size w wr)
  (hk:k<rs.length) (hx:x.r=rs[k]) (PU:Below wr.heap.size wr W9) (hB:B=wr.heap.size) (LH:x.Px B W9) (hr:W10.ownsRow w.heap.size 46 17 v' (xs.length+1) (xs.flatMap WI.cs++x.cs)) (hg:W9.grownBy W10 vv.ownBlock):TQ w rs (k+1) v' W10:=by
 subst hB;have ho9:=aD ho PU;have aab: ∀(B:Nat) (z:WI),z.Px B W9→z.Px B W10:=fun B z h=>⟨h.1.push ho9 hg,h.2⟩
 have alb:Below w.heap.size w W10:=(hb.trans (PU.mono hb.size)).grown hg (bn hb.size PU.size) (fun q hq=>(ho9.lt q hq).1);refine⟨xs++[x],?_,?_,?_,List.pairwise_append.2 ⟨hf,List.pairwise_singleton _ _,fun z hz y hy=>?_⟩,alb⟩
 ·rw[mZ,hm,mv,oI,hx,jM hk]
 ·rw[yv,fT];simpa using hr
 ·intro z hz;rcases tE.1 hz with hz|hz
  ·exact aab _ z ((hp z hz).below PU)
  ·rw[u9.1 hz];exact aab _ x ⟨LH.1.lo hb.size,LH.2⟩
 ·rw[u9.1 hy];exact WI.acI (hp z hz) LH
theorem V0 (h:oM 0 w v rs) (hn:rs.length≤4294967296) (hl: ∀r∈rs,iO r):
  Calls prog 30 #[v] w (rU w rs):=by
 obtain⟨ao,c,rfl,hc⟩:=h;have HC:=aa hc;have HL:=aa hl;clear hc hl;go_enter func30,ntmps30;go_wp2_with fail;go_loopw [3,4] (fun t3 t4 W=> ∃k:Nat,t4= .int .i64 (k:Int)∧Hid (k≤rs.length)∧Hid (TQ w rs k t3 W)) (fun _ t4 _=>rs.length-(intOf t4).toNat)
 case atStart=>exact⟨0,rfl,aa (aT _),aa ⟨[],rfl,ur _ _ _ _,fun z hz=>(by cases hz),List.Pairwise.nil,aS _ _⟩⟩
 case round=>
  obtain⟨k,rfl,hk,hI⟩:=hrel;by_cases au:k<rs.length
  ·have p1:((k:Int)<(rs.length:Int))=True:=az (by omega);obtain⟨xs,hm,ho,hp,hf,hb⟩:=hI.out;have NZ:xs.length=k:=by have:=bT List.length hm;rw[kG,nZ]at this;omega
   obtain⟨g,o,rfl,_,hg,vm,vo,vi,vl,mj,aZ⟩:=HC.out k au;have hlen:=HL.out rs[k] (gj au);obtain⟨r,hr⟩: ∃r,r=rs[k]:=⟨_,rfl⟩;rw[←hr]at mj aZ hlen;have Qb: ∀j (hj:j<17),wr.cell? ⟨g,o+k*17+j,none⟩=some ((lF r vm vo vi vl)[j]'(by simp[lF];omega)):=fun j hj=>(hb.cell (p:=⟨g,_,none⟩) hg).trans (aZ j hj)
   obtain⟨c0,c1,c2,c3,c4,c5,c6,c7,c8,c9,WY,WZ,c12,S5,Li,S6,Iq⟩:=Pk Qb;have ζ:=aa mj;obtain⟨⟨am,cm,η,_⟩,⟨uf,co,hvo,_⟩,⟨ai,ci,hvi,_⟩,⟨al,cl,hvl,_⟩⟩:=mj;subst η hvo hvi hvl;obtain⟨a3,n3,k3,rfl⟩:=bA ho;have HI:=aa (And.intro hm (And.intro ho (And.intro hp (And.intro hf hb))));have HR:=aa hr;have HXL:=aa NZ;have tg:=aa hlen;have xb:Hid (∀W,Below w.heap.size w W→AW 3 W (.slice am r.ms.length cm) r.ms.length (r.ms.flatMap og)∧AW 1 W (.slice uf r.mls.length co) r.mls.length (r.mls.flatMap lK)∧AW 1 W (.slice ai r.inc.length ci) r.inc.length (r.inc.flatMap lK)∧AW 1 W (.slice al r.labels.length cl) r.labels.length (r.labels.flatMap lK)):=aa fun W h=>by
    have h2:=ζ.out.below h;exact⟨h2.1.src,h2.2.1.src,h2.2.2.1.src,h2.2.2.2.src⟩
   have S9:r.ms.length≤1099511627776:=hlen.1;have tw:r.mls.length≤1099511627776:=hlen.2.1;have XQ:r.inc.length≤1099511627776:=hlen.2.2.1;have Lz:r.labels.length≤1099511627776:=hlen.2.2.2;clear hI hm ho hp hf aZ Qb hr NZ hlen;go_wp2_with (refine ay rfl 46 (.tmp 5) (.tmp 15) rfl wr.heap.size _ rfl rfl (aH.new _ _ _) (by kernel_rfl) rfl rfl ?_);intro W1 db pD;have oz:CS wr W1 (dN r (.slice am r.ms.length cm) (.slice uf r.mls.length co) (.slice ai r.inc.length ci) (.slice al r.labels.length cl)):=⟨db,ic ((aS _ wr).alloc (aP _) _) pD (by simp) (aP _)⟩;have zO:Hid (∀W,Below wr.heap.size wr W→Below w.heap.size w W):=aa fun W h=>hb.trans (h.mono hb.size)
   have yt:=aa oz;have m4:(W1.alloc (.cells #[] 65)).cell? ⟨wr.heap.size,4,none⟩=some (.slice am r.ms.length cm):=(db.alloc _).cell 4;have qB:=aa (sU W1 65 3);have WV:=aa (xb.out _ (zO.out _ (oz.b.alloc oz.b.size (.cells #[] 65)))).1;clear db pD oz c0 c1 c2 c3 c4 c5 c6 c7 c8 c9 WY WZ c12 S5 Li S6 Iq hb;go_wp2_with (at_builtin;refine fX rfl (.tmp 16) (.tmp 18) 39 rfl W1.heap.size 65 _ 3 40 wj underlying39 rfl (by omega) _ 0 [] rfl qB.out _ r.ms.length (r.ms.flatMap og) rfl WV.out (by unfold maxLen;omega) (by omega) (by simp) ?_);intro v4 W2 Du XR;obtain⟨a4,n4,k4,rfl⟩:=bA Du;have z2:aH W2 wr.heap.size 46 _:=(yt.out.z.alloc (.cells #[] 65)).grown XR (by have:=yt.out.z.lt;simp[Value.ownBlock];omega);have q4:=z2.cell 4;have f4:=z2.frozen 4;simp[dN]at q4;obtain⟨Sw,abL,afW⟩:=yt.out.list (k:=4) (by decide) XR Du;clear z2;go_upto_region 7 with(fail)
   obtain⟨W4,hW4⟩: ∃W4,W4=W2.setCell ⟨wr.heap.size,4,none⟩ (.slice a4 n4 k4):=⟨_,rfl⟩;rw[←hW4]at Sw abL afW ⊢
   have Hu:=aa Sw;have PG:=aa abL;have m16:(W4.alloc (.cells #[] 9)).cell? ⟨wr.heap.size,16,none⟩=some (.slice al r.labels.length cl):=by
    have:=(Sw.z.alloc (.cells #[] 9)).cell 16;simpa [dN]using this
   have afX:=aa (sU W4 9 1);have HX4:=aa (xb.out _ (zO.out _ (Sw.b.alloc Sw.b.size (.cells #[] 9)))).2.2.2;clear Du XR Sw abL afW q4 f4 m4 qB WV hW4;go_wp2_with (at_builtin;refine fX rfl (.tmp 21) (.tmp 23) 42 rfl W4.heap.size 9 _ 1 16 kW underlying42 rfl (by omega) _ 0 [] rfl afX.out _ r.labels.length (r.labels.flatMap lK) rfl HX4.out (by unfold maxLen;omega) (by omega) (by simp) ?_);intro v5 W5 ZU hg5;obtain⟨a5,n5,k5,rfl⟩:=bA ZU;have z5:aH W5 wr.heap.size 46 _:=(Hu.out.z.alloc (.cells #[] 9)).grown hg5 (by have:=Hu.out.z.lt;simp[Value.ownBlock];omega);have q16:=z5.cell 16;have f16:=z5.frozen 16;simp[dN]at q16;obtain⟨Ta,abM,Yi⟩:=Hu.out.list (k:=16) (by decide) hg5 ZU;clear z5;go_upto_region 8 with(fail)
   obtain⟨W6,hW6⟩: ∃W6,W6=W5.setCell ⟨wr.heap.size,16,none⟩ (.slice a5 n5 k5):=⟨_,rfl⟩;rw[←hW6]at Ta abM Yi ⊢
   have HM6:=aa (PG.out.kept Yi (.inr (dL PG.out Hu.out.z (by decide))));have HS6:=aa Ta;have HL6:=aa abM;have ati:Hid (W4.heap.size≤W6.heap.size):=aa Yi.size;have m12:(W6.alloc (.cells #[] 9)).cell? ⟨wr.heap.size,12,none⟩=some (.slice uf r.mls.length co):=by
    have:=(Ta.z.alloc (.cells #[] 9)).cell 12;simpa [dN]using this
   have afY:=aa (sU W6 9 1);have HX6:=aa (xb.out _ (zO.out _ (Ta.b.alloc Ta.b.size (.cells #[] 9)))).2.1;clear ZU hg5 Ta abM Yi q16 f16 m16 afX HX4 hW6;go_wp2_with (at_builtin;refine fX rfl (.tmp 26) (.tmp 29) 42 rfl W6.heap.size 9 _ 1 16 kW underlying42 rfl (by omega) _ 0 [] rfl afY.out _ r.mls.length (r.mls.flatMap lK) rfl HX6.out (by unfold maxLen;omega) (by omega) (by simp) ?_);intro v7 W7 ho7 hg7;obtain⟨a7,n7,k7,rfl⟩:=bA ho7;have z7:aH W7 wr.heap.size 46 _:=(HS6.out.z.alloc (.cells #[] 9)).grown hg7 (by have:=HS6.out.z.lt;simp[Value.ownBlock];omega);have q12:=z7.cell 12;have f12:=z7.frozen 12;simp[dN]at q12;obtain⟨hs7,Yj,Tq⟩:=HS6.out.list (k:=12) (by decide) hg7 ho7;clear z7;go_upto_region 9 with(fail)
   obtain⟨W8,hW8⟩: ∃W8,W8=W7.setCell ⟨wr.heap.size,12,none⟩ (.slice a7 n7 k7):=⟨_,rfl⟩;rw[←hW8]at hs7 Yj Tq ⊢
   have HM8:=aa (HM6.out.kept Tq (.inr (dL HM6.out HS6.out.z (by decide))));have HL8:=aa (HL6.out.kept Tq (.inr (dL HL6.out HS6.out.z (by decide))));have HOL:Hid (cJ (.slice a7 n7 k7) (.slice a5 n5 k5)):=aa (cO HL6.out Yj (aP _)).symm;have HS8:=aa hs7;have HO8:=aa Yj;have atj:Hid (W6.heap.size≤W8.heap.size):=aa Tq.size;have m14:(W8.alloc (.cells #[] 9)).cell? ⟨wr.heap.size,14,none⟩=some (.slice ai r.inc.length ci):=by
    have:=(hs7.z.alloc (.cells #[] 9)).cell 14;simpa [dN]using this
   have afZ:=aa (sU W8 9 1);have HX8:=aa (xb.out _ (zO.out _ (hs7.b.alloc hs7.b.size (.cells #[] 9)))).2.2.1;clear ho7 hg7 hs7 Yj Tq q12 f12 m12 afY HX6 hW8 HM6 HL6;go_wp2_with (at_builtin;refine fX rfl (.tmp 33) (.tmp 36) 42 rfl W8.heap.size 9 _ 1 16 kW underlying42 rfl (by omega) _ 0 [] rfl afZ.out _ r.inc.length (r.inc.flatMap lK) rfl HX8.out (by unfold maxLen;omega) (by omega) (by simp) ?_);intro v9 W9 ho9 hg9;obtain⟨a9,n9,k9,rfl⟩:=bA ho9;have z9:aH W9 wr.heap.size 46 _:=(HS8.out.z.alloc (.cells #[] 9)).grown hg9 (by have:=HS8.out.z.lt;simp[Value.ownBlock];omega);have q14:=z9.cell 14;have f14:=z9.frozen 14;simp[dN]at q14;obtain⟨hs9,Tr,Ts⟩:=HS8.out.list (k:=14) (by decide) hg9 ho9;clear z9;go_upto_region 10 with(fail)
   obtain⟨WA,hWA⟩: ∃WA,WA=W9.setCell ⟨wr.heap.size,14,none⟩ (.slice a9 n9 k9):=⟨_,rfl⟩;rw[←hWA]at hs9 Tr Ts ⊢
   have jf:=yt.out.z.lt;have LH:WI.Px wr.heap.size ⟨0,r,.slice a4 n4 k4,.slice a7 n7 k7,.slice a9 n9 k9,.slice a5 n5 k5⟩ WA:=by
    refine⟨⟨bW (HM8.out.kept Ts (.inr (dL HM8.out HS8.out.z (by decide)))) (jt jf),bW (HO8.out.kept Ts (.inr (dL HO8.out HS8.out.z (by decide)))) HS6.out.b.size,bW Tr HS8.out.b.size,bW (HL8.out.kept Ts (.inr (dL HL8.out HS8.out.z (by decide)))) Hu.out.b.size,cO HO8.out Tr (aP _),HOL.out,(cO HL8.out Tr (aP _)).symm⟩,aT _⟩
   have HPX:=aa LH;have hzA:aH WA wr.heap.size 46 #[.int .i64 r.kind,.int .i64 r.kids,.string r.op,.string r.text,.slice a4 n4 k4,.string r.bQ,.string r.step,.string r.off,.string r.tim,.bool r.bool,.bool r.given,.bool r.on,.slice a7 n7 k7,.int .i64 r.card,.slice a9 n9 k9,.bool r.without,.slice a5 n5 k5]:=by
    have:=hs9.z;simpa [dN]using this
   have Lx:=aa hzA;have HBA:=aa hs9.b;have ZL:Hid (WA.ownsRow w.heap.size 46 17 (.slice a3 n3 k3) xs.length (xs.flatMap WI.cs)):=aa (aD HI.out.2.1 hs9.b);have HWA:Hid (w.heap.size≤WA.heap.size):=aa (zO.out _ hs9.b).size;have atk:xs.length≤4294967296:=by have:=HXL.out;omega
   clear ho9 hg9 hs9 Tr Ts q14 f14 m14 afZ HX8 hWA HM8 HL8 LH hzA jf;go_wp2_with (first|(refine dx rfl 46 (.tmp 5) rfl wr.heap.size rfl Lx.out underlying46 (by kernel_rfl) ?_)|(at_builtin;refine ft rfl (.tmp 40) (.tmp 42) 22 rfl w.heap.size 46 _ 17 240 Ry underlying22 rfl (by decide) _ xs.length (xs.flatMap WI.cs) rfl ZL.out [.int .i64 r.kind,.int .i64 r.kids,.string r.op,.string r.text,.slice a4 n4 k4,.string r.bQ,.string r.step,.string r.off,.string r.tim,.bool r.bool,.bool r.given,.bool r.on,.slice a7 n7 k7,.int .i64 r.card,.slice a9 n9 k9,.bool r.without,.slice a5 n5 k5] rfl rfl (aaa _ HPX.out) (by unfold maxLen;omega) (by omega) HWA.out ?_));intro vB WB hoB hgB _;obtain⟨aB,nB,kB,rfl⟩:=bA hoB;have HN:Hid (TQ w rs (k+1) (.slice aB nB kB) WB):=aa (RA HI.out.1 HI.out.2.1 HI.out.2.2.1 HI.out.2.2.2.1 HI.out.2.2.2.2 au HR.out HBA.out rfl HPX.out hoB hgB);clear hoB hgB;go_wp2_with fail;go_roundw
   case rel=>exact⟨k+1,by go_num,aa au,HN⟩
   case measure=>simp[intOf];omega
  ·have p1:((k:Int)<(rs.length:Int))=False:=bL (by omega);have tX:k=rs.length:=by have:=hk.out;omega
   subst tX;have HP:Hid (rU w rs (.returned u3) wr):=aa (by
    obtain⟨xs,hm,ho,hp,hf,hb⟩:=hI.out;rw[rh]at hm;exact⟨_,xs,rfl,hm,ho,hp,hf,hb⟩)
   obtain⟨xs,_,ho,_⟩:=hI.out;obtain⟨a3,n3,k3,rfl⟩:=bA ho;clear ho;go_wp2_with fail;go_ret;exact HP.out
theorem jq (h:ax r=true):de r.kind r.kids=true∧qL r.kind∧fZ r=zr r.kind 0:=by
 unfold ax at h;simp only[kF]at h;have h9:=qq h.1.1;exact⟨h.1.1,h9,(CE h9).1 h.1.2⟩
theorem acJ (h:pU b w v ks): ∃ao c,v= .slice ao ks.length c:=by
 obtain⟨ao,c,h1,_⟩:=h;exact⟨ao,c,h1⟩
theorem GJ (h:pU b w v [x]): ∃g o c,v= .slice (some ⟨g,o,none⟩) 1 c∧b≤g∧g<w.heap.size∧w.cell? ⟨g,o,none⟩=some x:=by
 obtain⟨ao,c,rfl,h2⟩:=h;obtain⟨g,o,rfl,a,l,u⟩:=h2 0 (by simp);exact⟨g,o,c,rfl,a,l,u⟩
theorem Pm {y:Value} (h:pU b w v [x,y]): ∃g o c,v= .slice (some ⟨g,o,none⟩) 2 c∧b≤g∧g<w.heap.size∧w.cell? ⟨g,o,none⟩=some x∧w.cell? ⟨g,o+1,none⟩=some y:=by
 obtain⟨ao,c,rfl,h2⟩:=h;obtain⟨g,o,rfl,a,l,u⟩:=h2 0 (by simp);obtain⟨g',o',e,_,_,u'⟩:=h2 1 (by simp);cases e;exact⟨g,o,c,rfl,a,l,u,u'⟩
theorem GK (h:ks.length=1): ∃x,ks=[x]:=List.length_eq_one_iff.1 h
theorem Pn (h:ks.length=2): ∃x y,ks=[x,y]:=by
 match ks,h with
 |[x,y],_=>exact⟨x,y,rfl⟩
theorem RB {m:Value} (hB:B≤w.heap.size) (h:bw 0 w r m o i l) (hl:iO r) (hs:ax r=true) (h4:r.kind≠4) (hk:pU B w kv ks) (hn:ks.length=nk r) (hi: ∀v∈ks,∃t x,v= .iface t x):
  Calls prog 61 #[jP r m o i l,kv] w (iQ B w r ks):=by
 obtain⟨jJ,h9,hu⟩:=jq hs;obtain⟨hm,ho,hii,Ij⟩:=h;obtain⟨am,cm,rfl,_⟩:=id hm;obtain⟨ao,co,rfl,_⟩:=id ho;obtain⟨ai,ci,rfl,_⟩:=id hii;obtain⟨al,cl,rfl,_⟩:=id Ij;obtain⟨l1,l2,l3,l4⟩:=hl;have Xw:r.kids=(nk r:Int):=by
  have h2:0≤r.kids:=by
   unfold de at jJ
   repeat' split at jJ
   all_goals simp at jJ
   all_goals omega
  unfold nk;omega
 obtain⟨kind,kids,op,text,ms,bQ,step,off,tim,bool,given,on,mls,card,inc,without,labels⟩:=r;simp only at*
 rcases h9 with rfl|rfl|rfl|rfl|rfl|rfl|rfl|rfl|rfl
 ·simp[fZ,zr]at hu;simp[de]at jJ;obtain⟨rfl,rfl,rfl,rfl,rfl,rfl,rfl,rfl,rfl,rfl,rfl,rfl,rfl,rfl⟩:=hu;subst jJ;obtain rfl:ks=[]:=pH.1 (by simpa [nk]using hn);exact KL w B hB text kv am ao ai al _ cm _ co _ ci _ cl
 ·simp[fZ,zr]at hu;simp[de]at jJ;obtain⟨rfl,rfl,rfl,rfl,rfl,rfl,rfl,rfl,rfl,rfl,rfl,rfl,rfl,rfl⟩:=hu;subst jJ;obtain rfl:ks=[]:=pH.1 (by simpa [nk]using hn);exact Rr w B hB text kv am ao ai al _ cm _ co _ ci _ cl
 ·simp[fZ,zr]at hu;simp[de]at jJ;obtain⟨rfl,rfl,rfl,rfl,rfl,rfl,rfl,rfl,rfl,rfl,rfl⟩:=hu;subst jJ;obtain rfl:ks=[]:=pH.1 (by simpa [nk]using hn);exact D3 w B hB text off tim ms kv am ao ai al _ cm _ co _ ci _ cl hm l1
 ·exact absurd rfl h4
 ·simp[fZ,zr]at hu;simp[de]at jJ;obtain⟨rfl,rfl,rfl,rfl,rfl,rfl,rfl,rfl,rfl,rfl,rfl⟩:=hu;subst jJ;obtain⟨z,rfl⟩:=GK (by simpa [nk]using hn);obtain⟨t,x,rfl⟩:=hi z (by simp);obtain⟨gk,ok,ck,rfl,Lh,u4,lI⟩:=GJ hk;exact D4 w B hB bQ step off tim t x am ao ai al _ cm _ co _ ci _ cl gk ok ck Lh u4 lI
 ·simp[fZ,zr]at hu;simp[de]at jJ;obtain⟨rfl,rfl,rfl,rfl,rfl,rfl,rfl,rfl,rfl,rfl,rfl,rfl,rfl,rfl⟩:=hu;subst jJ;obtain⟨z,rfl⟩:=GK (by simpa [nk]using hn);obtain⟨t,x,rfl⟩:=hi z (by simp);obtain⟨gk,ok,ck,rfl,Lh,u4,lI⟩:=GJ hk;exact Nr w B hB op t x am ao ai al _ cm _ co _ ci _ cl gk ok ck Lh u4 lI
 ·simp[fZ,zr]at hu;simp[de]at jJ;obtain⟨rfl,rfl,rfl,rfl,rfl,rfl,rfl,rfl⟩:=hu;subst jJ;obtain⟨z,z2,rfl⟩:=Pn (by simpa [nk]using hn);obtain⟨t,x,rfl⟩:=hi z (by simp);obtain⟨u,y,rfl⟩:=hi z2 (by simp);obtain⟨gk,ok,ck,rfl,Lh,u4,lI,lC⟩:=Pm hk;exact KN w B hB op t u x y bool given on card mls inc am ao ai al _ cm _ co _ ci _ cl gk ok ck Lh u4 lI lC ho hii l2 l3
 ·simp[fZ,zr]at hu;simp[de]at jJ;obtain⟨rfl,rfl,rfl,rfl,rfl,rfl,rfl,rfl,rfl,rfl,rfl,rfl,rfl,rfl⟩:=hu;obtain⟨ak,ck,rfl⟩:=acJ hk;rw[Xw,←hn];exact Rs w B hB op ak ck ks hk am ao ai al _ cm _ co _ ci _ cl
 ·simp[fZ,zr]at hu;simp[de]at jJ;obtain⟨rfl,rfl,rfl,rfl,rfl,rfl,rfl,rfl,rfl,rfl,rfl,rfl⟩:=hu;rcases jJ with rfl|rfl
  ·obtain⟨z,rfl⟩:=GK (by simpa [nk]using hn);obtain⟨t,x,rfl⟩:=hi z (by simp);obtain⟨gk,ok,ck,rfl,Lh,u4,lI⟩:=GJ hk;exact Rt w B hB op t x without labels am ao ai al _ cm _ co _ ci _ cl gk ok ck Lh u4 lI Ij l4
  ·obtain⟨z,z2,rfl⟩:=Pn (by simpa [nk]using hn);obtain⟨t,x,rfl⟩:=hi z (by simp);obtain⟨u,y,rfl⟩:=hi z2 (by simp);obtain⟨gk,ok,ck,rfl,Lh,u4,lI,lC⟩:=Pm hk;exact Ns w B hB op u t y x without labels am ao ai al _ cm _ co _ ci _ cl gk ok ck Lh u4 lI lC Ij l4
