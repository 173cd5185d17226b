import Derived.Test.YtcdoilkjmjbgmaaGreatDoorR39
import Derived.BigRegionIn
import Derived.Test.YtcdoilkjmjbgmaaGreatDoorR38
import Derived.Test.YtcdoilkjmjbgmaaGreatDoorR36
import Derived.Test.YtcdoilkjmjbgmaaGreatDoorR40
/- Part of the proof of YtcdoilkjmjbgmaaGreatDoorCardR: TwA TwB InB TwC TsA TrZg TrZk TrYb. -/
set_option maxRecDepth 100000
set_option maxHeartbeats 4000000
set_option linter.unusedVariables false
set_option linter.unusedSimpArgs false
namespace Go.Proofs.YtcdoilkjmjbgmaaGreatDoor
open Go.RowKit
open Tryz
variable {m m' l B bx d b tb n p B0 size g c:Nat} {P:Program} {tmps cs9:Array Value} {w W W1 W2 W' w0 w' A A':World} {R:Ending→World→Prop} {pre L:List (Nat×PR)} {r:PR} {e:Ending} {x v i vv i' u t5 t6 y kv:Value} {ops:Array Oper} {rest:List Oper} {o:Oper} {a:Act} {Q:Exit→Act→World→Prop} {xs ks:List Value} {t:TypeId} {ms:List PM} {zs:List (qQ×Value)} {T:Nat→World→Prop}
structure WI where
 d:Nat
 r:PR
 m:Value
 o:Value
 i:Value
 l:Value
def WI.key (x:WI):Nat×PR:=(x.d,x.r)
def WI.DV (x:WI):Array Value:=#[.int .i64 (x.d:Int),jB x.r x.m x.o x.i x.l]
def WI.Px (B:Nat) (x:WI) (W:World):Prop:=ff B W x.r x.m x.o x.i x.l∧x.d≤1099511627776
def ny (B:Nat) (A C:World):Prop:=Kept B A C∧kZ 76 A C
theorem ny.trans {B:Nat} {U V W:World} (h:ny B U V) (k:ny B V W):ny B U W:=⟨h.1.trans k.1,h.2.trans k.2⟩
def YJ (bx l:Nat) (J:List WI→World→Prop) (pre:List (Nat×PR)) (W:World):Prop:=aK W bx 76 #[.func (.yield l) #[] #[]]∧ ∃xs:List WI,xs.map WI.key=pre∧J xs W
def YX (Jx:List WI→World→Prop) (pre:List (Nat×PR)) (W:World):Prop:= ∃xs:List WI,xs.map WI.key=pre∧Jx xs W
theorem room_wide (k:Nat):Fence.wide.room k:=fun d h=>by cases h
theorem Ld {f:FuncId} {assign body:Code} (h:RoundIn Fence.wide m P l f tmps assign body w R):RoundIn Fence.wide m' P l f tmps assign body w R:=
 ⟨h.1,fun c cs9 _=>h.2 c cs9 (room_wide _)⟩
def aca (B m l:Nat) (L:List (Nat×PR)) (J Jx:List WI→World→Prop):Prop:=
 ∀pre x A0 A,(pre++[x]).map WI.key<+:L→J pre A0→Below A0.heap.size A0 A→WI.Px A0.heap.size x A→YieldAt Fence.wide m prog l (WI.DV x) A fun e C=>(e= .returned (.bool true)∧J (pre++[x]) C∧ny B A C)∨(e= .returned (.bool false)∧Jx (pre++[x]) C)
theorem RG {J Jx:List WI→World→Prop} {xs:List WI} {x:WI} (hk:xs.map WI.key=pre) (hx:x.key=(d,r)) (F3:aK W1 bx 76 #[.func (.yield l) #[] #[]]) (hB:B≤W.heap.size) (hb:Below W.heap.size W W1)
  (h:(e= .returned (.bool true)∧J (xs++[x]) W2∧ny B W1 W2)∨(e= .returned (.bool false)∧Jx (xs++[x]) W2)):sP B (YJ bx l J) (YX Jx) pre (d,r) W e W2:=by
 rcases h with⟨rfl,h1,h2⟩|⟨rfl,h1⟩
 ·exact .inl ⟨rfl,⟨h2.2 _ _ F3,xs++[x],by rw[mX,hk,kO,rj,hx],h1⟩,(Kept.jI hB hb).trans h2.1⟩
 ·exact .inr ⟨rfl,xs++[x],by rw[mX,hk,kO,rj,hx],h1⟩
theorem xp {J Jx:List (Nat×PR)→World→Prop} {x:Nat×PR} (h:sP B J Jx pre x W e W'): ∃bb,e= .returned (.bool bb):=by
 rcases h with⟨rfl,_⟩|⟨rfl,_⟩<;>exact⟨_,rfl⟩
theorem NK (J Jx:List WI→World→Prop) {L:List (Nat×PR)} (hY:aca w0.heap.size m l L J Jx):
  uK b w0 35 #[.pointer (some ⟨bx,0,none⟩)] (YJ bx l J) (YX Jx) (· <+:L) gD:=by
 intro n d pre v r ks W hR hn hj hW ax hd;obtain⟨F3,xs,hk,hjx⟩:=hj;have AB:=aa F3;have XW:Hid (∀k W',Below W.heap.size W W'→CallsIn Fence.wide k prog 36 #[v] W' (gq W' r)):=aa fun k W' hb=>Bn.2 (CW (hn.below hb) hR)
 have HY:Hid (∀m' W1 vm vo vi vl,Below W.heap.size W W1→ff W.heap.size W1 r vm vo vi vl→ ∃fn tmps assign body,(Instr.yield l #[.int .i64 (d:Int),jB r vm vo vi vl]).run prog W1= .ok (.round l fn tmps assign body) W1∧RoundIn Fence.wide m' prog l fn tmps assign body W1 (sP w0.heap.size (YJ bx l J) (YX Jx) pre (d,r) W)):=aa fun m' W1 vm vo vi vl hb ho=>by
  obtain⟨fn,tmps,assign,body,h1,h2⟩:=hY xs ⟨d,r,vm,vo,vi,vl⟩ W W1 (by rw[mX,hk];exact ax) hjx hb ⟨ho,hd⟩;exact⟨fn,tmps,assign,body,h1,(Ld h2).mono fun e W2 h=>RG hk rfl (AB.out.below hb AB.out.lt) hW.size hb h⟩
 have c0:W.drew.cell? ⟨bx,0,none⟩=some (.func (.yield l) #[] #[]):=F3.cell 0;have s0:=F3.lt;clear hR hn F3 hjx hk hY hW ax hd;refine callsIn_of_wp func35 rfl trivial ?_ rfl;simp only[ntmps35,List.size_toArray,dZ,nW,Nat.reduceAdd,Nat.reduceSub,OE,OF,List.push_toArray,OH,ry,py]
 gi_wp2_with fail
 refine wpIn_region_any (by kernel_rfl) ?_;rename_i KK AV;have HKK:=aa AV;clear AV;change wpAnyIn _ _ _ _ _ _ _ _ _ (World.drew _);refine wpAnyIn_take (i:=1) (v:=.int .i64 (d:Int)) rfl rfl (by kernel_rfl) (by kernel_rfl) (by kernel_rfl) (fun _ _ _ h=>h) ⟨Or.inl ⟨by rfl,by intro w;go_simp⟩,fun _=>rfl⟩ ?_;refine wpAnyIn_take (i:=2) (v:=v) rfl rfl (by kernel_rfl) (by kernel_rfl) (by kernel_rfl) (fun _ _ _ h=>h) ⟨Or.inl ⟨by rfl,by intro w;go_simp⟩,fun _=>rfl⟩ ?_;refine wpAnyIn_ready (rs:=[0,3]) (by kernel_rfl) (by simp) ?_;refine AllReadyIn.cons rfl (fun K hK=>?_) (AllReadyIn.cons rfl (fun K hK=>?_) AllReadyIn.nil)
 ·go_simp
  refine hK _ _ ?_;clear hK K;refine wpAnyIn_ready (rs:=[3]) (by kernel_rfl) (by simp) ?_;refine AllReadyIn.cons rfl (fun K hK=>?_) AllReadyIn.nil;go_simp;refine⟨trivial,fun h=>(by cases h),?_⟩;refine(XW.out _ _ (aV _ W).drew).mono ?_;rintro e W1 ⟨vm,vo,vi,vl,rfl,ho,aW⟩;obtain⟨fn,tmps,assign,body,hy,hR⟩:=HY.out (n-1) W1 vm vo vi vl ((aV _ W).drew.trans aW) ho;have k1:W1.cell? ⟨bx,0,none⟩=some (.func (.yield l) #[] #[]):=((((aV _ W).drew.trans aW).cell (p:=⟨bx,0,none⟩) s0)).trans (AB.out.cell 0);clear ho aW;refine hK _ _ ?_;clear hK K;refine wpAnyIn_ready (rs:=[4]) (by kernel_rfl) (by simp) ?_;refine AllReadyIn.cons rfl (fun K hK=>?_) AllReadyIn.nil;go_simp;refine⟨fun h=>(by cases h),?_⟩;refine hR.mono ?_;clear hR hy;rintro e W2 hv;have HV:=aa hv;obtain⟨bb,rfl⟩:=xp hv;clear hv;refine hK _ _ ?_;clear hK K;refine wpAnyIn_ready (rs:=[5]) (by kernel_rfl) (by simp) ?_;refine AllReadyIn.cons rfl (fun K hK=>?_) AllReadyIn.nil;go_simp;refine hK _ _ ?_;clear hK K;refine wpAnyIn_done (by kernel_rfl) ?_ _;refine HKK.out _ _ ?_
  gi_wp2_with fail
  go_ret;exact HV.out
 ·go_simp
  refine⟨trivial,fun h=>(by cases h),?_⟩;refine(XW.out _ _ (aV _ W).drew).mono ?_;rintro e W1 ⟨vm,vo,vi,vl,rfl,ho,aW⟩;obtain⟨fn,tmps,assign,body,hy,hR⟩:=HY.out (n-1) W1 vm vo vi vl ((aV _ W).drew.trans aW) ho;have k1:W1.cell? ⟨bx,0,none⟩=some (.func (.yield l) #[] #[]):=((((aV _ W).drew.trans aW).cell (p:=⟨bx,0,none⟩) s0)).trans (AB.out.cell 0);clear ho aW;refine hK _ _ ?_;clear hK K;refine wpAnyIn_ready (rs:=[0]) (by kernel_rfl) (by simp) ?_;refine AllReadyIn.cons rfl (fun K hK=>?_) AllReadyIn.nil;go_simp;refine hK _ _ ?_;clear hK K;refine wpAnyIn_ready (rs:=[4]) (by kernel_rfl) (by simp) ?_;refine AllReadyIn.cons rfl (fun K hK=>?_) AllReadyIn.nil;go_simp;refine⟨fun h=>(by cases h),?_⟩;refine hR.mono ?_;clear hR hy;rintro e W2 hv;have HV:=aa hv;obtain⟨bb,rfl⟩:=xp hv;clear hv;refine hK _ _ ?_;clear hK K;refine wpAnyIn_ready (rs:=[5]) (by kernel_rfl) (by simp) ?_;refine AllReadyIn.cons rfl (fun K hK=>?_) AllReadyIn.nil;go_simp;refine hK _ _ ?_;clear hK K;refine wpAnyIn_done (by kernel_rfl) ?_ _;refine HKK.out _ _ ?_
  gi_wp2_with fail
  go_ret;exact HV.out
theorem NL (h:eU b w0 v L) (fv:Nat) (lb:Array Value) (eg: ∀args w,(callFunc fv args).run prog w= .ok (.enter fv args) w) (J Jx:List (Nat×PR)→World→Prop)
  (hJ: ∀s A B,J s A→Below A.heap.size A B→J s B) {R:PR→Prop} (hV:uK b w0 fv lb J Jx (· <+:L) R) (hR: ∀x∈L,R x.2) (hW:Below w0.heap.size w0 W) (h0:J [] W) (hL:1+L.length≤1099511627776) (n:Nat):
  CallsIn Fence.wide n prog 34 #[v,.int .i64 1,.func (.func fv) #[] lb] W (wV w0.heap.size J Jx [] L W):=by
 rcases h with⟨rfl,rfl⟩|h
 ·refine Bn.2 ((Kd 1 _ W).mono ?_);rintro e W' ⟨rfl,rfl⟩;exact .inl ⟨rfl,h0,Kept.refl _ _⟩
 ·exact FG fv lb eg _ J _ hJ hV h hR n [] W hW h0 (fun q hq _=>by simpa using hq) hL
theorem YJ.fY {J:List WI→World→Prop} (hJ: ∀s A B,J s A→Below A.heap.size A B→J s B) (s:List (Nat×PR)) (A B:World) (h:YJ bx l J s A) (hb:Below A.heap.size A B):YJ bx l J s B:=by
 obtain⟨h1,xs,h2,h3⟩:=h;exact⟨h1.below hb h1.lt,xs,h2,hJ _ _ _ h3 hb⟩
theorem NM (h:eU b w0 v L) (LD:Below w0.heap.size w0 w) (hc:w.cell? ⟨tb,0,none⟩=some v) (ZO:tb<w.heap.size) (hR: ∀x∈L,gD x.2) (hL:1+L.length≤1099511627776) (n:Nat):
  ν Fence.wide n prog 33 #[.pointer (some ⟨tb,0,none⟩)] WI.DV (fun pre=>pre.map WI.key<+:L) WI.Px (ny w0.heap.size) (fun xs _=>xs.map WI.key=L) (fun pre _=>pre.map WI.key<+:L∧pre≠[]) w:=by
 intro l J Jx W hW hJ _ hY h0;have aN:Below w0.heap.size w0 (W.alloc (.cells #[.func (.yield l) #[] #[]] 76)):=(LD.trans (hW.mono LD.size)).alloc (bP LD.size hW.size) _;have HW:=aa (fun k=>NL h 35 #[.pointer (some ⟨W.heap.size,0,none⟩)] (enters_of func35 (by kernel_rfl) rfl) (YJ W.heap.size l J) (YX Jx) (YJ.fY hJ) (NK (m:=n-1) J Jx hY) hR aN ⟨aK.new _ _ _,[],rfl,hJ _ _ _ h0 ((aV _ W).alloc (aS _) _)⟩ hL k);have c0:W.cell? ⟨tb,0,none⟩=some v:=(hW.cell (p:=⟨tb,0,none⟩) ZO).trans hc;have s0:tb<W.heap.size:=gU ZO hW.size;clear h LD hc ZO hR hL hW hJ hY h0 aN;refine callsIn_of_wp func33 rfl trivial ?_ rfl;simp only[ntmps33,List.size_toArray,dZ,nW,Nat.reduceAdd,Nat.reduceSub,OE,OF,List.push_toArray,OH,ry,py]
 gi_wp2_with fail
 refine⟨trivial,fun h=>(by cases h),?_⟩;refine(HW _).mono ?_;rintro e W1 (⟨rfl,hj,_⟩|⟨rfl,q,hq,Wm,hx⟩)
 ·have HJ1:=aa hj;clear hj HW
  gi_wp2_with fail
  go_end0
  obtain⟨_,xs,hk,hj⟩:=HJ1.out;exact⟨⟨_,rfl⟩,.inl ⟨xs,by simpa using hk,hj⟩⟩
 ·have Wz:=aa hx;clear hx HW
  gi_wp2_with fail
  go_end0
  obtain⟨xs,hk,hj⟩:=Wz.out;refine⟨⟨_,rfl⟩,.inr ⟨xs,⟨by rw[hk];simpa using hq,?_⟩,hj⟩⟩;rintro rfl;exact Wm (by simpa using hk.symm)
theorem RH (v:Value) (w:World):Calls prog 11 #[.agg #[v]] w fun e w'=>e= .returned (.func (.func 33) #[] #[.pointer (some ⟨w.heap.size,0,none⟩)])∧w'=w.alloc (.cells #[v] 29):=by
 go_enter func11,ntmps11;go_wp2_with fail;go_ret;exact⟨rfl,rfl⟩
theorem xq {F:Fence} (PG:o.guard=none) (hab:o.about P w a.eval=none) (rb: ∀c,o.op≠.defer c)
  (hr:(execOp a.eval o).run P w= .ok (.value v) w') (h:wpListIn F m P ops Q rest (a.put o.dst v) w'):wpListIn F m P ops Q (o::rest) a w:=by
 refine wpListIn_plain PG fun K hK=>?_
 unfold Oper.wpIn;refine⟨fun f hf=>(by rw[hab]at hf;cases hf),?_⟩;rw[Oper.semAt_plain F _ _ rb,hr];exact hK _ _ h
theorem H5 {F:Fence} (PG:o.guard=none) (hab:o.about P w a.eval=none) (rb: ∀c,o.op≠.defer c)
  (hr:(execOp a.eval o).run P w= .ok .skip w') (h:wpListIn F m P ops Q rest (a.put o.dst undef) w'):wpListIn F m P ops Q (o::rest) a w:=by
 refine wpListIn_plain PG fun K hK=>?_
 unfold Oper.wpIn;refine⟨fun f hf=>(by rw[hab]at hf;cases hf),?_⟩;rw[Oper.semAt_plain F _ _ rb,hr];exact hK _ _ h
theorem xt {F:Fence} (PG:o.guard=none) (ty:TypeId) (x:Operand) (ho:o.op= .load ty x)
  (g:Nat) (hx:a.eval x= .pointer (some ⟨g,0,none⟩)) {t:TypeId} {cs9:Array Value} {fs:Array Field} (hb:aK w g t cs9)
  (hu:P.underlying ty=some (.struct fs)) (hi:(P.info? ty).map (·.size)=some cs9.size)
  (h:wpListIn F m P ops Q rest (a.put o.dst (.agg cs9)) w):wpListIn F m P ops Q (o::rest) a w:=by
 refine xq (v:=.agg cs9) (w':=w) PG (by simp[Oper.about,ho]) (by rw[ho];intro c hc;cases hc) ?_ h;unfold execOp;simp only[ho,hx,Instr.loadAt,Instr.sureAddr,rB,tR,vQ,run_loadVar_row w g t ty cs9 (0,0) _ hb hu rfl hi]
theorem vj {F:Fence} (PG:o.guard=none) (ty:TypeId) (x y:Operand) (ho:o.op= .store ty x y)
  (g:Nat) (cells:Array Value) (hx:a.eval x= .pointer (some ⟨g,0,none⟩)) (hy:a.eval y= .agg cells)
  {t:TypeId} {WX:Array Value} (hb:aK w g t WX) (hi:(P.info? ty).map (·.size)=some cells.size)
  (hold:WX.size=cells.size) (h1:cells.toList.all (·.oneCell')=true)
  (h: ∀W,aK W g t cells→w.grownBy W (some g)→wpListIn F m P ops Q rest (a.put o.dst undef) W):wpListIn F m P ops Q (o::rest) a w:=by
 refine H5 (w':=w.setRow g cells) PG (by simp[Oper.about,ho]) (by rw[ho];intro c hc;cases hc) ?_ (h _ (setRow_heap w g WX cells t (0,0) hb) (xb w g cells));unfold execOp;simp only[ho,hx,hy,Instr.storeAt,Instr.sureAddr,rB,tR,vQ,run_storeVar_row w g t ty WX cells hb hi hold (by rw[←Array.all_toList];exact h1)]
theorem Dz {F:Fence} {Q:Exit → Act → World → Prop} 
    (hg : o.guard = none) (s x : Operand) (t : TypeId) (vp : o.op = Op.call { callee := Callee.builtin Builtin.append, args := #[s, x], argTypes := #[t, t] })
    (base : Nat) (e : TypeId) (z : Value) (size bytes : Nat) (jD : (P.info? e).map (fun i => (i.zero, i.size, i.bytes)) = some (some z, size, bytes)) (h1 : P.underlying t = some (.slice e)) (yA : z.cells.size = size) (iE : 0 < size)
    (v : Value) (n : Nat) (xs : List Value) (hs : a.eval s = v) (aL : w0.ownsRow base e size v n xs) (us : List Value) (WV : us.length = size)
    (hx : a.eval x = .slice (some ⟨w0.heap.size, 0, none⟩) 1 1) (PD : ∀ u ∈ us, u.oneCell' = true) (pC : n + 1 ≤ maxLen) (hb : (n + 1) * bytes ≤ 140737488355328) (cN : base ≤ w0.heap.size)
    (hK : ∀ v' w', w'.ownsRow base e size v' (n + 1) (xs ++ us) → w0.grownBy w' v.ownBlock → (ix v v' ∨ (v'.ownBlock = some (w0.heap.size + 1) ∧ w0.grownBy w' none)) → wpListIn F m P ops Q rest (a.put o.dst v') w') :
    wpListIn F m P ops Q (o::rest) a (w0.alloc (.cells us.toArray e)):=by
  obtain⟨i,hi,hz,H8,H9⟩:=kR jD
  obtain ⟨v', w', hr, r1, r2, r3⟩ := mT (P := P) (w0.alloc (.cells us.toArray e)) base t o.type e i z size bytes h1 hi hz H8 H9 yA iE v n xs (aL.alloc _) ⟨w0.heap.size, 0, none⟩ 1 1 us (by omega)
    (by intro j u hu
        have hj:j<us.length:=(yF.1 hu).1
        rw[ri,kP,vC _ _ _ _ rfl]
        simpa using hu) PD pC hb (by simp;omega) (by omega)
  refine xq (v:=v') (w':=w') hg (by simp[Oper.about,vp,resolve,Target.leads,tR]) (by rw[vp];intro c hc;cases hc) ?_ (hK v' w' r1 (aM (tN w0 _ _) r2) ?_)
  · unfold execOp
    simp only[vp,resolve,invoke,builtin,rB,tR,vQ,I7,kO,rj,hs,hx,hr]
  · rcases r3 with h | ⟨h, h'⟩
    · exact .inl h
    · exact .inr ⟨by simpa using h, aM (tN w0 _ _) h'⟩
theorem ff.push {m o l:Value} (h:ff B w r m o i l) (ho:w.ownsRow b 46 17 vv n xs) (hg:w.grownBy w' vv.ownBlock):ff B w' r m o i l:=
 ⟨h.m.kept hg (je h.m ho (by decide)),h.o.kept hg (je h.o ho (by decide)),h.i.kept hg (je h.i ho (by decide)),h.l.kept hg (je h.l ho (by decide)),h.oi,h.ol,h.il⟩
theorem ff.bT {i:Nat} {m o l:Value} (h:ff B w r m o i' l) (hp:aK w p t cs9) (h1:9≠t) (h2:65≠t):ff B (w.setCell ⟨p,i,none⟩ u) r m o i' l:=
 ⟨aD h.m hp h2 u,aD h.o hp h1 u,aD h.i hp h1 u,aD h.l hp h1 u,h.oi,h.ol,h.il⟩
def WI.cs (x:WI):List Value:=lO x.r x.m x.o x.i x.l
def WI.SX (x y:WI):Prop:= ∀u∈[x.m,x.o,x.i,x.l],∀v∈[y.m,y.o,y.i,y.l],gZ u v
theorem WI.Uf {z x:WI} (h:z.Px B A) (h':x.Px A.heap.size A'):z.SX x:=by
 intro u hu v hv;simp only[gB,kM,iP]at hu hv;rcases hu with rfl|rfl|rfl|rfl<;>rcases hv with rfl|rfl|rfl|rfl
 ·exact cQ h.1.m h'.1.m (aS _)
 ·exact cQ h.1.m h'.1.o (aS _)
 ·exact cQ h.1.m h'.1.i (aS _)
 ·exact cQ h.1.m h'.1.l (aS _)
 ·exact cQ h.1.o h'.1.m (aS _)
 ·exact cQ h.1.o h'.1.o (aS _)
 ·exact cQ h.1.o h'.1.i (aS _)
 ·exact cQ h.1.o h'.1.l (aS _)
 ·exact cQ h.1.i h'.1.m (aS _)
 ·exact cQ h.1.i h'.1.o (aS _)
 ·exact cQ h.1.i h'.1.i (aS _)
 ·exact cQ h.1.i h'.1.l (aS _)
 ·exact cQ h.1.l h'.1.m (aS _)
 ·exact cQ h.1.l h'.1.o (aS _)
 ·exact cQ h.1.l h'.1.i (aS _)
 ·exact cQ h.1.l h'.1.l (aS _)
def tY (B p:Nat) (xs:List WI) (W:World):Prop:=
 ∃vv,aK W p 22 #[vv]∧W.ownsRow B 46 17 vv xs.length (xs.flatMap WI.cs)∧(∀z∈xs,z.Px B W)∧xs.Pairwise WI.SX
theorem tY.own:OwnFrom B0 (tY B p):=by
 rintro xs W W' row ⟨vv,h1,h2,h3,h4⟩ hg hr;have hc: ∀(g:Nat) (cs9:Array Value) (t:TypeId),aK W g t cs9→some g≠row:=fun g cs9 t hb e=>by
  obtain⟨_,o,ho,hn⟩:=hr g e.symm;rw[show W.heap[g]? =some (.cells cs9 t (0,0))from hb]at ho;injection ho with ho
  subst ho;cases hn
 have hk: ∀{b s n:Nat} {e:TypeId} {v:Value} {ys:List Value},W.ownsRow b e s v n ys→W'.ownsRow b e s v n ys:=fun {b s n e v ys} ho=>by
  refine ho.kept hg ?_;rcases ho.2 with⟨rfl,_⟩|⟨g,cap,cur,rfl,_,Is,_⟩
  ·exact .inl rfl
  ·exact .inr (hc g cur e Is)
 exact⟨vv,h1.grown hg (hc _ _ _ h1),hk h2,fun z hz=>⟨⟨hk (h3 z hz).1.m,hk (h3 z hz).1.o,hk (h3 z hz).1.i,hk (h3 z hz).1.l,(h3 z hz).1.oi,(h3 z hz).1.ol,(h3 z hz).1.il⟩,(h3 z hz).2⟩,h4⟩
theorem yn {α:Type} {I:α→World→Prop} (h:OwnFrom B I) (x:α):Abides B (I x):=fun A l o o' hp hl ho hn=>OwnFrom.putObj h o' hp hl ho hn
theorem WI.Ug:OwnFrom B0 (WI.Px B):=by
 rintro x W W' row h1 hg hr;have hk: ∀{b s n:Nat} {e:TypeId} {v:Value} {ys:List Value},W.ownsRow b e s v n ys→W'.ownsRow b e s v n ys:=fun {b s n e v ys} ho=>by
  refine ho.kept hg ?_;rcases ho.2 with⟨rfl,_⟩|⟨g,cap,cur,rfl,_,Is,_⟩
  ·exact .inl rfl
  ·refine .inr fun e=>?_
   obtain⟨_,o,PV,hn⟩:=hr g e.symm;rw[Is]at PV;injection PV with PV
   subst PV;cases hn
 exact⟨⟨hk h1.1.m,hk h1.1.o,hk h1.1.i,hk h1.1.l,h1.1.oi,h1.1.ol,h1.1.il⟩,h1.2⟩
theorem ny.putObj {B:Nat} (W:World) (l:Nat) (o o':Obj) (hB:B≤l) (hl:W.heap[l]? =some o) (ho:o.isCells=false) (_:o.isWalk=false):ny B W (W.putObj l o'):=by
 have hk: ∀t,kZ t W (W.putObj l o'):=fun t g cs9 hb=>by
  refine hb.grown (grownBy_putObj' W l o') ?_;intro e;injection e with e
  subst e;rw[show W.heap[g]? =some (.cells cs9 t (0,0))from hb]at hl;injection hl with hl
  subst hl;cases ho
 exact⟨⟨(aV _ W).grown (grownBy_putObj' W l o') (bP hB (ju (IF.1 hl).1)) (fun k e=>by injection e with e;omega),hk _⟩,hk _⟩
def pO (x:qQ×Value):List Value:=[.string x.1.name,x.2,.string x.1.off,.string x.1.tim]
def rp (B:Nat) (t5:Value) (W:World) (v:Value) (ms:List PM):Prop:= ∃lo w1,eI lo w1 v ms∧B≤lo∧jj lo w1 W∧Off lo w1 t5
theorem rp.mat (h:rp B t5 W v ms):eI B W v ms:=by
 obtain⟨lo,w1,h1,h2,h3,_⟩:=h;exact(h1.agree h3).lo h2
theorem rp.below {B:Nat} {t5:Value} {W W':World} {v:Value} {ms:List PM} (h:rp B t5 W v ms) (hb:Below W.heap.size W W'):rp B t5 W' v ms:=by
 obtain⟨lo,w1,h1,h2,h3,h4⟩:=h;exact⟨lo,w1,h1,h2,h3.below hb,h4⟩
theorem rp.push (h:rp B t5 W v ms) (hg:W.grownBy W' t5.ownBlock) (ht:ix t5 t6∨(t6.ownBlock=some (W.heap.size+1)∧W.grownBy W' none)):rp B t6 W' v ms:=by
 obtain⟨lo,w1,h1,h2,h3,h4⟩:=h;refine⟨lo,w1,h1,h2,h3.grow hg h4,fun q hq=>?_⟩;rcases ht with⟨g,n,m,cap,e1,e2⟩|⟨e1,_⟩
 ·subst e1 e2;exact h4 q (by simpa [Value.ownBlock]using hq)
 ·rw[e1]at hq;injection hq with hq
  have:=h3.1;omega
theorem rp.bT {i:Nat} (h:rp B t5 W v ms) (hp:p<B):rp B t5 (W.setCell ⟨p,i,none⟩ u) v ms:=by
 obtain⟨lo,w1,h1,h2,h3,h4⟩:=h;refine⟨lo,w1,h1,h2,⟨by simpa using h3.1,fun k hk hl=>?_⟩,h4⟩;rw[yJ W ⟨p,i,none⟩ u k (by show k≠p;omega)];exact h3.2 k hk hl
theorem yp {e:TypeId} (h:w.ownsRow b e size v n xs) (hg:w.grownBy w' v.ownBlock) (bZ:e≠t):kZ t w w':=
 fun g cs9 hb=>hb.grown hg (cI h hb bZ).symm
def Mg (B:Nat) (W:World) (zs:List (qQ×Value)):Prop:=(∀z∈zs,rn B W z.2 z.1.ms)∧zs.Pairwise fun x y=>gZ x.2 y.2
theorem Mg.below (h:Mg B W zs) (hb:Below W.heap.size W W'):Mg B W' zs:=⟨fun z hz=>bf (h.1 z hz) hb,h.2⟩
structure jk (p:Nat) (L:List (Nat×PR)) (W:World):Prop where
 ex: ∃(v:Value) (zs:List (qQ×Value)),zs.map (·.1)=eR (L.map (·.2))∧aK W p 51 #[v]∧W.ownsRow (p+1) 60 4 v zs.length (zs.flatMap pO)∧(∀z∈zs,rp (p+1) v W z.2 z.1.ms)∧Mg (p+1) W zs
theorem jk.fY (s:List (Nat×PR)) (A B:World) (h:jk p s A) (hb:Below A.heap.size A B):jk p s B:=by
 obtain⟨v,zs,h1,h2,h3,h4,h5⟩:=h.ex;exact⟨⟨v,zs,h1,h2.below hb h2.lt,bf h3 hb,fun z hz=>(h4 z hz).below hb,h5.below hb⟩⟩
theorem nO (L:List PR) (r:PR):eR (L++[r])=eR L++(if r.kind=3 then[⟨r.text,r.ms,r.off,r.tim⟩]else[]):=by
 unfold eR;rw[List.filter_append,mX];by_cases h:r.kind=3<;>simp[h]
theorem jk.skip (h:jk p L W) (hk:r.kind≠3):jk p (L++[(d,r)]) W:=by
 obtain⟨v,zs,h1,h2,h3,h4,h5⟩:=h.ex;refine⟨⟨v,zs,?_,h2,h3,h4,h5⟩⟩;rw[mX,kO,rj,nO,af hk,mz,h1]
def sc (w:World) (L:List (Nat×PR)) (e:Ending) (w':World):Prop:=
 ∃(v:Value) (zs:List (qQ×Value)),e= .returned v∧zs.map (·.1)=eR (L.map (·.2))∧w'.ownsRow w.heap.size 60 4 v zs.length (zs.flatMap pO)∧(∀z∈zs,rp w.heap.size v w' z.2 z.1.ms)∧Below w.heap.size w w'
def th (w:World) (L:List (Nat×PR)) (e:Ending) (w':World):Prop:=
 ∃(v:Value) (zs:List (qQ×Value)),e= .returned v∧zs.map (·.1)=eR (L.map (·.2))∧w'.ownsRow w.heap.size 60 4 v zs.length (zs.flatMap pO)∧(∀z∈zs,rp w.heap.size v w' z.2 z.1.ms)∧Below w.heap.size w w'∧Mg w.heap.size w' zs
theorem th.one (h:th w L e w'):sc w L e w':=by
 obtain⟨v,zs,h1,h2,h3,h4,h5,_⟩:=h;exact⟨v,zs,h1,h2,h3,h4,h5⟩
def Bb (w:World) (v:Value) (ss:List qQ):Prop:=
 ∃ao c,v= .slice ao ss.length c∧ ∀j (h:j<ss.length),∃g o vm,ao=some ⟨g,o,none⟩∧g<w.heap.size∧eI 0 w vm ss[j].ms∧w.cell? ⟨g,o+j*4,none⟩=some (.string ss[j].name)∧w.cell? ⟨g,o+j*4+1,none⟩=some vm∧w.cell? ⟨g,o+j*4+2,none⟩=some (.string ss[j].off)∧w.cell? ⟨g,o+j*4+3,none⟩=some (.string ss[j].tim)
theorem Bb.below {w w':World} {v:Value} {ss:List qQ} (h:Bb w v ss) (hb:Below w.heap.size w w'):Bb w' v ss:=by
 obtain⟨ao,c,h1,h2⟩:=h;refine⟨ao,c,h1,fun j hj=>?_⟩;obtain⟨g,o,vm,a,l,m,x,y,z,u⟩:=h2 j hj;exact⟨g,o,vm,a,gU l hb.size,m.below hb,(hb.cell (p:=⟨g,_,none⟩) l).trans x,(hb.cell (p:=⟨g,_,none⟩) l).trans y,(hb.cell (p:=⟨g,_,none⟩) l).trans z,(hb.cell (p:=⟨g,_,none⟩) l).trans u⟩
theorem Bb.gp {e:TypeId} (h:w.ownsRow b e 4 v zs.length (zs.flatMap pO)) (hm: ∀z∈zs,eI 0 w z.2 z.1.ms):Bb w v (zs.map (·.1)):=by
 obtain⟨ao,c,h1,h2⟩:=wP pO 4 (fun _=>rfl) zs h;refine⟨ao,c,by rw[h1,jW],fun j hj=>?_⟩;have Lr:j<zs.length:=by simpa using hj
 obtain⟨g,o,a,l,u,x⟩:=h2 j Lr;have e:(zs.map (·.1))[j]=zs[j].1:=by simp
 rw[e];exact⟨g,o,zs[j].2,a,u,hm _ (jz Lr),x 0 (by omega),x 1 (by omega),x 2 (by omega),x 3 (by omega)⟩
theorem sc.af5 (h:sc w L e w'): ∃v,e= .returned v∧Bb w' v (eR (L.map (·.2)))∧Below w.heap.size w w':=by
 obtain⟨v,zs,rfl,h1,h2,h3,h4⟩:=h;exact⟨v,rfl,by rw[←h1];exact Bb.gp h2 fun z hz=>((h3 z hz).mat).lo (dQ _),h4⟩
theorem jt (h:az r=true):du r.kind r.kids=true∧qE r.kind∧gz r=zr r.kind 0:=by
 unfold az at h;simp only[kN]at h;have h9:=qh h.1.1;exact⟨h.1.1,h9,(CX h9).1 h.1.2⟩
theorem acb (h:pL b w v ks): ∃ao c,v= .slice ao ks.length c:=by
 obtain⟨ao,c,h1,_⟩:=h;exact⟨ao,c,h1⟩
theorem GU (h:pL b w v [x]): ∃g o c,v= .slice (some ⟨g,o,none⟩) 1 c∧b≤g∧g<w.heap.size∧w.cell? ⟨g,o,none⟩=some x:=by
 obtain⟨ao,c,rfl,h2⟩:=h;obtain⟨g,o,rfl,a,l,u⟩:=h2 0 (by simp);exact⟨g,o,c,rfl,a,l,u⟩
theorem Pt (h:pL b w v [x,y]): ∃g o c,v= .slice (some ⟨g,o,none⟩) 2 c∧b≤g∧g<w.heap.size∧w.cell? ⟨g,o,none⟩=some x∧w.cell? ⟨g,o+1,none⟩=some y:=by
 obtain⟨ao,c,rfl,h2⟩:=h;obtain⟨g,o,rfl,a,l,u⟩:=h2 0 (by simp);obtain⟨g',o',e,_,_,u'⟩:=h2 1 (by simp);cases e;exact⟨g,o,c,rfl,a,l,u,u'⟩
theorem GV (h:ks.length=1): ∃x,ks=[x]:=List.length_eq_one_iff.1 h
theorem Pu (h:ks.length=2): ∃x y,ks=[x,y]:=by
 match ks,h with
 |[x,y],_=>exact⟨x,y,rfl⟩
theorem RI {m o l:Value} (hB:B≤w.heap.size) (h:bw 0 w r m o i l) (hl:gD r) (hs:az r=true) (h4:r.kind≠4) (hk:pL B w kv ks) (hn:ks.length=nk r) (hi: ∀v∈ks,∃t x,v= .iface t x):
  Calls prog 61 #[jB r m o i l,kv] w (iR B w r ks):=by
 obtain⟨jR,h9,hu⟩:=jt hs;obtain⟨hm,ho,hii,Iw⟩:=h;obtain⟨am,cm,rfl,_⟩:=id hm;obtain⟨ao,co,rfl,_⟩:=id ho;obtain⟨ai,ci,rfl,_⟩:=id hii;obtain⟨al,cl,rfl,_⟩:=id Iw;obtain⟨l1,l2,l3,l4⟩:=hl;have Xl:r.kids=(nk r:Int):=by
  have h2:0≤r.kids:=by
   unfold du at jR
   repeat' split at jR
   all_goals simp at jR
   all_goals omega
  unfold nk;omega
 obtain⟨kind,kids,op,text,ms,bV,step,off,tim,bool,given,on,mls,card,inc,without,labels⟩:=r;simp only at*
 rcases h9 with rfl|rfl|rfl|rfl|rfl|rfl|rfl|rfl|rfl
 ·simp[gz,zr]at hu;simp[du]at jR;obtain⟨rfl,rfl,rfl,rfl,rfl,rfl,rfl,rfl,rfl,rfl,rfl,rfl,rfl,rfl⟩:=hu;subst jR;obtain rfl:ks=[]:=pv.1 (by simpa [nk]using hn);exact K7 w B hB text kv am ao ai al _ cm _ co _ ci _ cl
 ·simp[gz,zr]at hu;simp[du]at jR;obtain⟨rfl,rfl,rfl,rfl,rfl,rfl,rfl,rfl,rfl,rfl,rfl,rfl,rfl,rfl⟩:=hu;subst jR;obtain rfl:ks=[]:=pv.1 (by simpa [nk]using hn);exact RA w B hB text kv am ao ai al _ cm _ co _ ci _ cl
 ·simp[gz,zr]at hu;simp[du]at jR;obtain⟨rfl,rfl,rfl,rfl,rfl,rfl,rfl,rfl,rfl,rfl,rfl⟩:=hu;subst jR;obtain rfl:ks=[]:=pv.1 (by simpa [nk]using hn);exact Ec w B hB text off tim ms kv am ao ai al _ cm _ co _ ci _ cl hm l1
 ·exact absurd rfl h4
 ·simp[gz,zr]at hu;simp[du]at jR;obtain⟨rfl,rfl,rfl,rfl,rfl,rfl,rfl,rfl,rfl,rfl,rfl⟩:=hu;subst jR;obtain⟨z,rfl⟩:=GV (by simpa [nk]using hn);obtain⟨t,x,rfl⟩:=hi z (by simp);obtain⟨gk,ok,ck,rfl,LC,vy,lS⟩:=GU hk;exact Ed w B hB bV step off tim t x am ao ai al _ cm _ co _ ci _ cl gk ok ck LC vy lS
 ·simp[gz,zr]at hu;simp[du]at jR;obtain⟨rfl,rfl,rfl,rfl,rfl,rfl,rfl,rfl,rfl,rfl,rfl,rfl,rfl,rfl⟩:=hu;subst jR;obtain⟨z,rfl⟩:=GV (by simpa [nk]using hn);obtain⟨t,x,rfl⟩:=hi z (by simp);obtain⟨gk,ok,ck,rfl,LC,vy,lS⟩:=GU hk;exact ND w B hB op t x am ao ai al _ cm _ co _ ci _ cl gk ok ck LC vy lS
 ·simp[gz,zr]at hu;simp[du]at jR;obtain⟨rfl,rfl,rfl,rfl,rfl,rfl,rfl,rfl⟩:=hu;subst jR;obtain⟨z,z2,rfl⟩:=Pu (by simpa [nk]using hn);obtain⟨t,x,rfl⟩:=hi z (by simp);obtain⟨u,y,rfl⟩:=hi z2 (by simp);obtain⟨gk,ok,ck,rfl,LC,vy,lS,mU⟩:=Pt hk;exact K8 w B hB op t u x y bool given on card mls inc am ao ai al _ cm _ co _ ci _ cl gk ok ck LC vy lS mU ho hii l2 l3
 ·simp[gz,zr]at hu;simp[du]at jR;obtain⟨rfl,rfl,rfl,rfl,rfl,rfl,rfl,rfl,rfl,rfl,rfl,rfl,rfl,rfl⟩:=hu;obtain⟨ak,ck,rfl⟩:=acb hk;rw[Xl,←hn];exact RB w B hB op ak ck ks hk am ao ai al _ cm _ co _ ci _ cl
 ·simp[gz,zr]at hu;simp[du]at jR;obtain⟨rfl,rfl,rfl,rfl,rfl,rfl,rfl,rfl,rfl,rfl,rfl,rfl⟩:=hu;rcases jR with rfl|rfl
  ·obtain⟨z,rfl⟩:=GV (by simpa [nk]using hn);obtain⟨t,x,rfl⟩:=hi z (by simp);obtain⟨gk,ok,ck,rfl,LC,vy,lS⟩:=GU hk;exact RC w B hB op t x without labels am ao ai al _ cm _ co _ ci _ cl gk ok ck LC vy lS Iw l4
  ·obtain⟨z,z2,rfl⟩:=Pu (by simpa [nk]using hn);obtain⟨t,x,rfl⟩:=hi z (by simp);obtain⟨u,y,rfl⟩:=hi z2 (by simp);obtain⟨gk,ok,ck,rfl,LC,vy,lS,mU⟩:=Pt hk;exact NF w B hB op u t y x without labels am ao ai al _ cm _ co _ ci _ cl gk ok ck LC vy lS mU Iw l4
def eC (w:World) (v:Value) (rs:List PR):Prop:=lP 0 w v rs∧ ∃ao c,v= .slice ao rs.length c∧rs.length≤c
theorem eC.below {w w':World} {v:Value} {rs:List PR} (h:eC w v rs) (hb:Below w.heap.size w w'):eC w' v rs:=⟨h.1.below hb,h.2⟩
theorem eC.tail {o:Nat} {l:List PR} (h:eC w (.slice (some ⟨g,o,none⟩) n c) (r::l)):eC w (.slice (some ⟨g,o+17,none⟩) l.length (c-1)) l:=by
 obtain⟨⟨ao,c',hv,hc⟩,tu,c2,PN,hle⟩:=h;injection PN with e1 e2 e3
 subst e3;refine⟨⟨_,_,rfl,fun j hj=>?_⟩,_,_,rfl,by simp only[dZ]at hle;omega⟩;obtain⟨g',o',he,hb,hg,vm,vo,vi,vl,h1,h2⟩:=hc (j+1) (by simp;omega);injection hv with e4 _ _
 rw[←e4]at he;cases he;refine⟨g,o+17,rfl,hb,hg,vm,vo,vi,vl,h1,fun k hk=>?_⟩;have:=h2 k hk;rw[show o+17+j*17+k=o+(j+1)*17+k by omega];exact this
theorem eC.none_ {a:Option Addr} :eC w (.slice a 0 c) []:=⟨⟨a,c,rfl,fun j h=>absurd h (by simp)⟩,a,c,rfl,dQ _⟩
def kf (B:Nat) (w0 w:World) (d:Nat) (x y:List PR) (e:Ending) (w':World):Prop:=
 ∃nv s,e= .returned (.tuple #[nv,s])∧dK B w' d nv (nt d x)∧eC w0 s y∧Below w.heap.size w w'
theorem sE: ∀(x y:List PR),dh (x++y)=true→dh y=true
 |[],_,h=>h
 |r::x,y,h=>by
  rw[py,dh,kN]at h;exact sE x y h.2
theorem acp (r:PR):Fe r=iY r.given r.on r.mls r.card r.inc:=rfl
theorem NO (hT:pK (fun _=>True) T):Ud T:=by
 intro w r m o i l h hr kL;obtain⟨⟨am,cm,rfl,_⟩,⟨ao,co,rfl,_⟩,⟨ai,ci,rfl,_⟩,⟨al,cl,rfl,_⟩⟩:=id h;cases hk:du r.kind r.kids with
 |false=>
  have e:az r=false:=by unfold az;rw[hk];rfl
  rw[e];exact NH w r _ _ _ _ _ _ _ _ _ _ _ _ h hr.len hk
 |true=>
  have h9:=qh hk;have hu:=CX h9;cases Se:lY r with
  |false=>
   have e:az r=false:=by unfold az;rw[hk,Se];rfl
   rw[e];exact Hz w r _ _ _ _ _ _ _ _ _ _ _ _ h hr.len hk fun e2=>by rw[hu.2 e2]at Se;cases Se
  |true=>
   have Ls:=hu.1 Se;exact NI w r _ _ _ _ _ _ _ _ _ _ _ _ h hr.len hT kL hr hk Se Ls
