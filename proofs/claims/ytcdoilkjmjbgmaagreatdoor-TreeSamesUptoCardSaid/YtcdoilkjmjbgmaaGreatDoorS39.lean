import Derived.Test.YtcdoilkjmjbgmaaGreatDoorS36
import Derived.BigRegionIn
import Derived.Test.YtcdoilkjmjbgmaaGreatDoorS37
import Derived.Test.YtcdoilkjmjbgmaaGreatDoorS31
import Derived.Test.YtcdoilkjmjbgmaaGreatDoorS38
/- Part of the proof of YtcdoilkjmjbgmaaGreatDoorCardY: TwA TwB InB TwC TsA TrZg TrZk TrZr TrYb. -/
set_option maxRecDepth 100000
set_option maxHeartbeats 4000000
set_option linter.unusedVariables false
set_option linter.unusedSimpArgs false
namespace Go.Proofs.YtcdoilkjmjbgmaaGreatDoor
open Go.RowKit
open Go.Proofs.Tryz
variable {m m' l B bx d b tb n p B0 size g c gs:Nat} {P:Program} {tmps:Array Value} {w W W1 W2 W' w0 w' A A' wc WM:World} {R:Ending→World→Prop} {pre L:List (Nat×PR)} {r q:PR} {e:Ending} {x v i vv i' u t5 t6 kv SV:Value} {ops:Array Oper} {rest:List Oper} {o:Oper} {a:Act} {Q:Exit→Act→World→Prop} {xs ks:List Value} {t:TypeId} {ms:List PM} {zs:List (zP×Value)} {y:List PR} {T:Nat→World→Prop}
structure WI where
 d:Nat
 r:PR
 m:Value
 o:Value
 i:Value
 l:Value
def WI.key (x:WI):Nat×PR:=(x.d,x.r)
def WI.Dw (x:WI):Array Value:=#[.int .i64 (x.d:Int),jM x.r x.m x.o x.i x.l]
def WI.Px (B:Nat) (x:WI) (W:World):Prop:=fc B W x.r x.m x.o x.i x.l∧x.d≤1099511627776
def nr (B:Nat) (A C:World):Prop:=Kept B A C∧lI 76 A C
theorem nr.trans {B:Nat} {U V W:World} (h:nr B U V) (k:nr B V W):nr B U W:=⟨h.1.trans k.1,h.2.trans k.2⟩
def YJ (bx l:Nat) (J:List WI→World→Prop) (pre:List (Nat×PR)) (W:World):Prop:=aM W bx 76 #[.func (.yield l) #[] #[]]∧ ∃xs:List WI,xs.map WI.key=pre∧J xs W
def YX (Jx:List WI→World→Prop) (pre:List (Nat×PR)) (W:World):Prop:= ∃xs:List WI,xs.map WI.key=pre∧Jx xs W
theorem room_wide (k:Nat):Fence.wide.room k:=fun d h=>by cases h
theorem KC {f:FuncId} {assign body:Code} (h:RoundIn Fence.wide m P l f tmps assign body w R):RoundIn Fence.wide m' P l f tmps assign body w R:=
 ⟨h.1,fun c cs _=>h.2 c cs (room_wide _)⟩
def ack (B m l:Nat) (L:List (Nat×PR)) (J Jx:List WI→World→Prop):Prop:=
 ∀pre x A0 A,(pre++[x]).map WI.key<+:L→J pre A0→Below A0.heap.size A0 A→WI.Px A0.heap.size x A→YieldAt Fence.wide m prog l (WI.Dw x) A fun e C=>(e= .returned (.bool true)∧J (pre++[x]) C∧nr B A C)∨(e= .returned (.bool false)∧Jx (pre++[x]) C)
theorem Ri {J Jx:List WI→World→Prop} {xs:List WI} {x:WI} (hk:xs.map WI.key=pre) (hx:x.key=(d,r)) (Lj:aM W1 bx 76 #[.func (.yield l) #[] #[]]) (hB:B≤W.heap.size) (hb:Below W.heap.size W W1)
  (h:(e= .returned (.bool true)∧J (xs++[x]) W2∧nr B W1 W2)∨(e= .returned (.bool false)∧Jx (xs++[x]) W2)):AA B (YJ bx l J) (YX Jx) pre (d,r) W e W2:=by
 rcases h with⟨rfl,h1,h2⟩|⟨rfl,h1⟩
 ·exact .inl ⟨rfl,⟨h2.2 _ _ Lj,xs++[x],by rw[nQ,hk,mq,mY,hx],h1⟩,(Kept.kT hB hb).trans h2.1⟩
 ·exact .inr ⟨rfl,xs++[x],by rw[nQ,hk,mq,mY,hx],h1⟩
theorem wV {J Jx:List (Nat×PR)→World→Prop} {x:Nat×PR} (h:AA B J Jx pre x W e W'): ∃bb,e= .returned (.bool bb):=by
 rcases h with⟨rfl,_⟩|⟨rfl,_⟩<;>exact⟨_,rfl⟩
theorem Ny (J Jx:List WI→World→Prop) {L:List (Nat×PR)} (hY:ack w0.heap.size m l L J Jx):
  xB b w0 35 #[.pointer (some ⟨bx,0,none⟩)] (YJ bx l J) (YX Jx) (· <+:L) gp:=by
 intro n d pre v r ks W hR hn hj hW aA hd;obtain⟨Lj,xs,hk,hjx⟩:=hj;have PA:=ae Lj;have afg:Hid (∀k W',Below W.heap.size W W'→CallsIn Fence.wide k prog 36 #[v] W' (gJ W' r)):=ae fun k W' hb=>A9.2 (No (hn.below hb) hR)
 have HY:Hid (∀m' W1 vm vo vi vl,Below W.heap.size W W1→fc W.heap.size W1 r vm vo vi vl→ ∃fn tmps assign body,(Instr.yield l #[.int .i64 (d:Int),jM r vm vo vi vl]).run prog W1= .ok (.round l fn tmps assign body) W1∧RoundIn Fence.wide m' prog l fn tmps assign body W1 (AA w0.heap.size (YJ bx l J) (YX Jx) pre (d,r) W)):=ae fun m' W1 vm vo vi vl hb ho=>by
  obtain⟨fn,tmps,assign,body,h1,h2⟩:=hY xs ⟨d,r,vm,vo,vi,vl⟩ W W1 (by rw[nQ,hk];exact aA) hjx hb ⟨ho,hd⟩;exact⟨fn,tmps,assign,body,h1,(KC h2).mono fun e W2 h=>Ri hk rfl (PA.out.below hb PA.out.lt) hW.size hb h⟩
 have c0:W.drew.cell? ⟨bx,0,none⟩=some (.func (.yield l) #[] #[]):=Lj.cell 0;have s0:=Lj.lt;clear hR hn Lj hjx hk hY hW aA hd;refine callsIn_of_wp func35 rfl trivial ?_ rfl;simp only[ntmps35,List.size_toArray,ek,o8,Nat.reduceAdd,Nat.reduceSub,Oe,Of,List.push_toArray,Oh,tw,oh]
 gi_wp2_with fail
 refine wpIn_region_any (by kernel_rfl) ?_;rename_i KK yg;have HKK:=ae yg;clear yg;change wpAnyIn _ _ _ _ _ _ _ _ _ (World.drew _);refine wpAnyIn_take (i:=1) (v:=.int .i64 (d:Int)) rfl rfl (by kernel_rfl) (by kernel_rfl) (by kernel_rfl) (fun _ _ _ h=>h) ⟨Or.inl ⟨by rfl,by intro w;go_simp⟩,fun _=>rfl⟩ ?_;refine wpAnyIn_take (i:=2) (v:=v) rfl rfl (by kernel_rfl) (by kernel_rfl) (by kernel_rfl) (fun _ _ _ h=>h) ⟨Or.inl ⟨by rfl,by intro w;go_simp⟩,fun _=>rfl⟩ ?_;refine wpAnyIn_ready (rs:=[0,3]) (by kernel_rfl) (by simp) ?_;refine AllReadyIn.cons rfl (fun K hK=>?_) (AllReadyIn.cons rfl (fun K hK=>?_) AllReadyIn.nil)
 ·go_simp
  refine hK _ _ ?_;clear hK K;refine wpAnyIn_ready (rs:=[3]) (by kernel_rfl) (by simp) ?_;refine AllReadyIn.cons rfl (fun K hK=>?_) AllReadyIn.nil;go_simp;refine⟨trivial,fun h=>(by cases h),?_⟩;refine(afg.out _ _ (aU _ W).drew).mono ?_;rintro e W1 ⟨vm,vo,vi,vl,rfl,ho,aY⟩;obtain⟨fn,tmps,assign,body,hy,hR⟩:=HY.out (n-1) W1 vm vo vi vl ((aU _ W).drew.trans aY) ho;have k1:W1.cell? ⟨bx,0,none⟩=some (.func (.yield l) #[] #[]):=((((aU _ W).drew.trans aY).cell (p:=⟨bx,0,none⟩) s0)).trans (PA.out.cell 0);clear ho aY;refine hK _ _ ?_;clear hK K;refine wpAnyIn_ready (rs:=[4]) (by kernel_rfl) (by simp) ?_;refine AllReadyIn.cons rfl (fun K hK=>?_) AllReadyIn.nil;go_simp;refine⟨fun h=>(by cases h),?_⟩;refine hR.mono ?_;clear hR hy;rintro e W2 hv;have HV:=ae hv;obtain⟨bb,rfl⟩:=wV hv;clear hv;refine hK _ _ ?_;clear hK K;refine wpAnyIn_ready (rs:=[5]) (by kernel_rfl) (by simp) ?_;refine AllReadyIn.cons rfl (fun K hK=>?_) AllReadyIn.nil;go_simp;refine hK _ _ ?_;clear hK K;refine wpAnyIn_done (by kernel_rfl) ?_ _;refine HKK.out _ _ ?_
  gi_wp2_with fail
  go_ret;exact HV.out
 ·go_simp
  refine⟨trivial,fun h=>(by cases h),?_⟩;refine(afg.out _ _ (aU _ W).drew).mono ?_;rintro e W1 ⟨vm,vo,vi,vl,rfl,ho,aY⟩;obtain⟨fn,tmps,assign,body,hy,hR⟩:=HY.out (n-1) W1 vm vo vi vl ((aU _ W).drew.trans aY) ho;have k1:W1.cell? ⟨bx,0,none⟩=some (.func (.yield l) #[] #[]):=((((aU _ W).drew.trans aY).cell (p:=⟨bx,0,none⟩) s0)).trans (PA.out.cell 0);clear ho aY;refine hK _ _ ?_;clear hK K;refine wpAnyIn_ready (rs:=[0]) (by kernel_rfl) (by simp) ?_;refine AllReadyIn.cons rfl (fun K hK=>?_) AllReadyIn.nil;go_simp;refine hK _ _ ?_;clear hK K;refine wpAnyIn_ready (rs:=[4]) (by kernel_rfl) (by simp) ?_;refine AllReadyIn.cons rfl (fun K hK=>?_) AllReadyIn.nil;go_simp;refine⟨fun h=>(by cases h),?_⟩;refine hR.mono ?_;clear hR hy;rintro e W2 hv;have HV:=ae hv;obtain⟨bb,rfl⟩:=wV hv;clear hv;refine hK _ _ ?_;clear hK K;refine wpAnyIn_ready (rs:=[5]) (by kernel_rfl) (by simp) ?_;refine AllReadyIn.cons rfl (fun K hK=>?_) AllReadyIn.nil;go_simp;refine hK _ _ ?_;clear hK K;refine wpAnyIn_done (by kernel_rfl) ?_ _;refine HKK.out _ _ ?_
  gi_wp2_with fail
  go_ret;exact HV.out
theorem Nz (h:eO b w0 v L) (fv:Nat) (lb:Array Value) (eg: ∀args w,(callFunc fv args).run prog w= .ok (.enter fv args) w) (J Jx:List (Nat×PR)→World→Prop)
  (hJ: ∀s A B,J s A→Below A.heap.size A B→J s B) {R:PR→Prop} (hV:xB b w0 fv lb J Jx (· <+:L) R) (hR: ∀x∈L,R x.2) (hW:Below w0.heap.size w0 W) (h0:J [] W) (hL:1+L.length≤1099511627776) (n:Nat):
  CallsIn Fence.wide n prog 34 #[v,.int .i64 1,.func (.func fv) #[] lb] W (wA w0.heap.size J Jx [] L W):=by
 rcases h with⟨rfl,rfl⟩|h
 ·refine A9.2 ((JJ 1 _ W).mono ?_);rintro e W' ⟨rfl,rfl⟩;exact .inl ⟨rfl,h0,Kept.refl _ _⟩
 ·exact Fi fv lb eg _ J _ hJ hV h hR n [] W hW h0 (fun q hq _=>by simpa using hq) hL
theorem YJ.fQ {J:List WI→World→Prop} (hJ: ∀s A B,J s A→Below A.heap.size A B→J s B) (s:List (Nat×PR)) (A B:World) (h:YJ bx l J s A) (hb:Below A.heap.size A B):YJ bx l J s B:=by
 obtain⟨h1,xs,h2,h3⟩:=h;exact⟨h1.below hb h1.lt,xs,h2,hJ _ _ _ h3 hb⟩
theorem NA (h:eO b w0 v L) (Li:Below w0.heap.size w0 w) (hc:w.cell? ⟨tb,0,none⟩=some v) (ZV:tb<w.heap.size) (hR: ∀x∈L,gp x.2) (hL:1+L.length≤1099511627776) (n:Nat):
  ω Fence.wide n prog 33 #[.pointer (some ⟨tb,0,none⟩)] WI.Dw (fun pre=>pre.map WI.key<+:L) WI.Px (nr w0.heap.size) (fun xs _=>xs.map WI.key=L) (fun pre _=>pre.map WI.key<+:L∧pre≠[]) w:=by
 intro l J Jx W hW hJ _ hY h0;have aQ:Below w0.heap.size w0 (W.alloc (.cells #[.func (.yield l) #[] #[]] 76)):=(Li.trans (hW.mono Li.size)).alloc (bR Li.size hW.size) _;have HW:=ae (fun k=>Nz h 35 #[.pointer (some ⟨W.heap.size,0,none⟩)] (enters_of func35 (by kernel_rfl) rfl) (YJ W.heap.size l J) (YX Jx) (YJ.fQ hJ) (Ny (m:=n-1) J Jx hY) hR aQ ⟨aM.new _ _ _,[],rfl,hJ _ _ _ h0 ((aU _ W).alloc (aS _) _)⟩ hL k);have c0:W.cell? ⟨tb,0,none⟩=some v:=(hW.cell (p:=⟨tb,0,none⟩) ZV).trans hc;have s0:tb<W.heap.size:=iv ZV hW.size;clear h Li hc ZV hR hL hW hJ hY h0 aQ;refine callsIn_of_wp func33 rfl trivial ?_ rfl;simp only[ntmps33,List.size_toArray,ek,o8,Nat.reduceAdd,Nat.reduceSub,Oe,Of,List.push_toArray,Oh,tw,oh]
 gi_wp2_with fail
 refine⟨trivial,fun h=>(by cases h),?_⟩;refine(HW _).mono ?_;rintro e W1 (⟨rfl,hj,_⟩|⟨rfl,q,hq,Wq,hx⟩)
 ·have HJ1:=ae hj;clear hj HW
  gi_wp2_with fail
  go_end0
  obtain⟨_,xs,hk,hj⟩:=HJ1.out;exact⟨⟨_,rfl⟩,.inl ⟨xs,by simpa using hk,hj⟩⟩
 ·have WH:=ae hx;clear hx HW
  gi_wp2_with fail
  go_end0
  obtain⟨xs,hk,hj⟩:=WH.out;refine⟨⟨_,rfl⟩,.inr ⟨xs,⟨by rw[hk];simpa using hq,?_⟩,hj⟩⟩;rintro rfl;exact Wq (by simpa using hk.symm)
theorem Rj (v:Value) (w:World):Calls prog 11 #[.agg #[v]] w fun e w'=>e= .returned (.func (.func 33) #[] #[.pointer (some ⟨w.heap.size,0,none⟩)])∧w'=w.alloc (.cells #[v] 29):=by
 go_enter func11,ntmps11;go_wp2_with fail;go_ret;exact⟨rfl,rfl⟩
theorem wW {F:Fence} (Pj:o.guard=none) (hab:o.about P w a.eval=none) (qM: ∀c,o.op≠.defer c)
  (hr:(execOp a.eval o).run P w= .ok (.value v) w') (h:wpListIn F m P ops Q rest (a.put o.dst v) w'):wpListIn F m P ops Q (o::rest) a w:=by
 refine wpListIn_plain Pj fun K hK=>?_
 unfold Oper.wpIn;refine⟨fun f hf=>(by rw[hab]at hf;cases hf),?_⟩;rw[Oper.semAt_plain F _ _ qM,hr];exact hK _ _ h
theorem Hc {F:Fence} (Pj:o.guard=none) (hab:o.about P w a.eval=none) (qM: ∀c,o.op≠.defer c)
  (hr:(execOp a.eval o).run P w= .ok .skip w') (h:wpListIn F m P ops Q rest (a.put o.dst undef) w'):wpListIn F m P ops Q (o::rest) a w:=by
 refine wpListIn_plain Pj fun K hK=>?_
 unfold Oper.wpIn;refine⟨fun f hf=>(by rw[hab]at hf;cases hf),?_⟩;rw[Oper.semAt_plain F _ _ qM,hr];exact hK _ _ h
theorem wY {F:Fence} (Pj:o.guard=none) (ty:TypeId) (x:Operand) (ho:o.op= .load ty x)
  (g:Nat) (hx:a.eval x= .pointer (some ⟨g,0,none⟩)) {t:TypeId} {cs:Array Value} {fs:Array Field} (hb:aM w g t cs)
  (hu:P.underlying ty=some (.struct fs)) (hi:(P.info? ty).map (·.size)=some cs.size)
  (h:wpListIn F m P ops Q rest (a.put o.dst (.agg cs)) w):wpListIn F m P ops Q (o::rest) a w:=by
 refine wW (v:=.agg cs) (w':=w) Pj (by simp[Oper.about,ho]) (by rw[ho];intro c hc;cases hc) ?_ h;unfold execOp;simp only[ho,hx,Instr.loadAt,Instr.sureAddr,vy,yA,AZ,run_loadVar_row w g t ty cs (0,0) _ hb hu rfl hi]
theorem uN {F:Fence} (Pj:o.guard=none) (ty:TypeId) (x y:Operand) (ho:o.op= .store ty x y)
  (g:Nat) (cells:Array Value) (hx:a.eval x= .pointer (some ⟨g,0,none⟩)) (hy:a.eval y= .agg cells)
  {t:TypeId} {WZ:Array Value} (hb:aM w g t WZ) (hi:(P.info? ty).map (·.size)=some cells.size)
  (hold:WZ.size=cells.size) (h1:cells.toList.all (·.oneCell')=true)
  (h: ∀W,aM W g t cells→w.grownBy W (some g)→wpListIn F m P ops Q rest (a.put o.dst undef) W):wpListIn F m P ops Q (o::rest) a w:=by
 refine Hc (w':=w.setRow g cells) Pj (by simp[Oper.about,ho]) (by rw[ho];intro c hc;cases hc) ?_ (h _ (setRow_heap w g WZ cells t (0,0) hb) (wH w g cells));unfold execOp;simp only[ho,hx,hy,Instr.storeAt,Instr.sureAddr,vy,yA,AZ,run_storeVar_row w g t ty WZ cells hb hi hold (by rw[←Array.all_toList];exact h1)]
theorem De {F:Fence} {Q:Exit → Act → World → Prop} 
    (hg : o.guard = none) (s x : Operand) (t : TypeId) (ye : o.op = Op.call { callee := Callee.builtin Builtin.append, args := #[s, x], argTypes := #[t, t] })
    (base : Nat) (e : TypeId) (z : Value) (size bytes : Nat) (mz : (P.info? e).map (fun i => (i.zero, i.size, i.bytes)) = some (some z, size, bytes)) (h1 : P.underlying t = some (.slice e)) (Ll : z.cells.size = size) (iI : 0 < size)
    (v : Value) (n : Nat) (xs : List Value) (hs : a.eval s = v) (aP : w0.ownsRow base e size v n xs) (us : List Value) (Zv : us.length = size)
    (hx : a.eval x = .slice (some ⟨w0.heap.size, 0, none⟩) 1 1) (R6 : ∀ u ∈ us, u.oneCell' = true) (ud : n + 1 ≤ maxLen) (hb : (n + 1) * bytes ≤ 140737488355328) (cT : base ≤ w0.heap.size)
    (hK : ∀ v' w', w'.ownsRow base e size v' (n + 1) (xs ++ us) → w0.grownBy w' v.ownBlock → (jx v v' ∨ (v'.ownBlock = some (w0.heap.size + 1) ∧ w0.grownBy w' none)) → wpListIn F m P ops Q rest (a.put o.dst v') w') :
    wpListIn F m P ops Q (o::rest) a (w0.alloc (.cells us.toArray e)):=by
  obtain⟨i,hi,hz,Pf,KS⟩:=lF mz
  obtain ⟨v', w', hr, r1, r2, r3⟩ := rV (P := P) (w0.alloc (.cells us.toArray e)) base t o.type e i z size bytes h1 hi hz Pf KS Ll iI v n xs (aP.alloc _) ⟨w0.heap.size, 0, none⟩ 1 1 us (by omega)
    (by intro j u hu
        have hj:j<us.length:=(AV.1 hu).1
        rw[lE,mr,xf _ _ _ _ rfl]
        simpa using hu) R6 ud hb (by simp;omega) (by omega)
  refine wW (v:=v') (w':=w') hg (by simp[Oper.about,ye,resolve,Target.leads,yA]) (by rw[ye];intro c hc;cases hc) ?_ (hK v' w' r1 (ee (yl w0 _ _) r2) ?_)
  · unfold execOp
    simp only[ye,resolve,invoke,builtin,vy,yA,AZ,List.map_toArray,mq,mY,hs,hx,hr]
  · rcases r3 with h | ⟨h, h'⟩
    · exact .inl h
    · exact .inr ⟨by simpa using h, ee (yl w0 _ _) h'⟩
theorem fc.push {m o l:Value} (h:fc B w r m o i l) (ho:w.ownsRow b 46 17 vv n xs) (hg:w.grownBy w' vv.ownBlock):fc B w' r m o i l:=
 ⟨h.m.kept hg (iU h.m ho (by decide)),h.o.kept hg (iU h.o ho (by decide)),h.i.kept hg (iU h.i ho (by decide)),h.l.kept hg (iU h.l ho (by decide)),h.oi,h.ol,h.il⟩
theorem fc.dz {i:Nat} {m o l:Value} {cs:Array Value} (h:fc B w r m o i' l) (hp:aM w p t cs) (h1:9≠t) (h2:65≠t):fc B (w.setCell ⟨p,i,none⟩ u) r m o i' l:=
 ⟨aG h.m hp h2 u,aG h.o hp h1 u,aG h.i hp h1 u,aG h.l hp h1 u,h.oi,h.ol,h.il⟩
def WI.cs (x:WI):List Value:=nc x.r x.m x.o x.i x.l
def WI.SO (x y:WI):Prop:= ∀u∈[x.m,x.o,x.i,x.l],∀v∈[y.m,y.o,y.i,y.l],gR u v
theorem WI.T8 {z x:WI} (h:z.Px B A) (h':x.Px A.heap.size A'):z.SO x:=by
 intro u hu v hv;simp only[gL,ll,iX]at hu hv;rcases hu with rfl|rfl|rfl|rfl<;>rcases hv with rfl|rfl|rfl|rfl
 ·exact cQ h.1.m h'.1.m (aS _)
 ·exact cQ h.1.m h'.1.o (aS _)
 ·exact cQ h.1.m h'.1.i (aS _)
 ·exact cQ h.1.m h'.1.l (aS _)
 ·exact cQ h.1.o h'.1.m (aS _)
 ·exact cQ h.1.o h'.1.o (aS _)
 ·exact cQ h.1.o h'.1.i (aS _)
 ·exact cQ h.1.o h'.1.l (aS _)
 ·exact cQ h.1.i h'.1.m (aS _)
 ·exact cQ h.1.i h'.1.o (aS _)
 ·exact cQ h.1.i h'.1.i (aS _)
 ·exact cQ h.1.i h'.1.l (aS _)
 ·exact cQ h.1.l h'.1.m (aS _)
 ·exact cQ h.1.l h'.1.o (aS _)
 ·exact cQ h.1.l h'.1.i (aS _)
 ·exact cQ h.1.l h'.1.l (aS _)
def tF (B p:Nat) (xs:List WI) (W:World):Prop:=
 ∃vv,aM W p 22 #[vv]∧W.ownsRow B 46 17 vv xs.length (xs.flatMap WI.cs)∧(∀z∈xs,z.Px B W)∧xs.Pairwise WI.SO
theorem tF.own:OwnFrom B0 (tF B p):=by
 rintro xs W W' row ⟨vv,h1,h2,h3,h4⟩ hg hr;have hc: ∀(g:Nat) (cs:Array Value) (t:TypeId),aM W g t cs→some g≠row:=fun g cs t hb e=>by
  obtain⟨_,o,ho,hn⟩:=hr g e.symm;rw[show W.heap[g]? =some (.cells cs t (0,0))from hb]at ho;injection ho with ho
  subst ho;cases hn
 have hk: ∀{b s n:Nat} {e:TypeId} {v:Value} {ys:List Value},W.ownsRow b e s v n ys→W'.ownsRow b e s v n ys:=fun {b s n e v ys} ho=>by
  refine ho.kept hg ?_;rcases ho.2 with⟨rfl,_⟩|⟨g,cap,cur,rfl,_,Hw,_⟩
  ·exact .inl rfl
  ·exact .inr (hc g cur e Hw)
 exact⟨vv,h1.grown hg (hc _ _ _ h1),hk h2,fun z hz=>⟨⟨hk (h3 z hz).1.m,hk (h3 z hz).1.o,hk (h3 z hz).1.i,hk (h3 z hz).1.l,(h3 z hz).1.oi,(h3 z hz).1.ol,(h3 z hz).1.il⟩,(h3 z hz).2⟩,h4⟩
theorem xR {α:Type} {I:α→World→Prop} (h:OwnFrom B I) (x:α):Abides B (I x):=fun A l o o' hp hl ho hn=>OwnFrom.putObj h o' hp hl ho hn
theorem WI.T9:OwnFrom B0 (WI.Px B):=by
 rintro x W W' row h1 hg hr;have hk: ∀{b s n:Nat} {e:TypeId} {v:Value} {ys:List Value},W.ownsRow b e s v n ys→W'.ownsRow b e s v n ys:=fun {b s n e v ys} ho=>by
  refine ho.kept hg ?_;rcases ho.2 with⟨rfl,_⟩|⟨g,cap,cur,rfl,_,Hw,_⟩
  ·exact .inl rfl
  ·refine .inr fun e=>?_
   obtain⟨_,o,Pz,hn⟩:=hr g e.symm;rw[Hw]at Pz;injection Pz with Pz
   subst Pz;cases hn
 exact⟨⟨hk h1.1.m,hk h1.1.o,hk h1.1.i,hk h1.1.l,h1.1.oi,h1.1.ol,h1.1.il⟩,h1.2⟩
theorem nr.putObj {B:Nat} (W:World) (l:Nat) (o o':Obj) (hB:B≤l) (hl:W.heap[l]? =some o) (ho:o.isCells=false) (_:o.isWalk=false):nr B W (W.putObj l o'):=by
 have hk: ∀t,lI t W (W.putObj l o'):=fun t g cs hb=>by
  refine hb.grown (grownBy_putObj' W l o') ?_;intro e;injection e with e
  subst e;rw[show W.heap[g]? =some (.cells cs t (0,0))from hb]at hl;injection hl with hl
  subst hl;cases ho
 exact⟨⟨(aU _ W).grown (grownBy_putObj' W l o') (bR hB (jk (yj.1 hl).1)) (fun k e=>by injection e with e;omega),hk _⟩,hk _⟩
def Dy (x:zP×Value):List Value:=[.string x.1.name,x.2,.string x.1.off,.string x.1.tim]
def vk (B:Nat) (t5:Value) (W:World) (v:Value) (ms:List PM):Prop:= ∃lo w1,fV lo w1 v ms∧B≤lo∧iZ lo w1 W∧Off lo w1 t5
theorem vk.below {B:Nat} {t5:Value} {W W':World} {v:Value} {ms:List PM} (h:vk B t5 W v ms) (hb:Below W.heap.size W W'):vk B t5 W' v ms:=by
 obtain⟨lo,w1,h1,h2,h3,h4⟩:=h;exact⟨lo,w1,h1,h2,h3.below hb,h4⟩
theorem vk.push (h:vk B t5 W v ms) (hg:W.grownBy W' t5.ownBlock) (ht:jx t5 t6∨(t6.ownBlock=some (W.heap.size+1)∧W.grownBy W' none)):vk B t6 W' v ms:=by
 obtain⟨lo,w1,h1,h2,h3,h4⟩:=h;refine⟨lo,w1,h1,h2,h3.grow hg h4,fun q hq=>?_⟩;rcases ht with⟨g,n,m,cap,e1,e2⟩|⟨e1,_⟩
 ·subst e1 e2;exact h4 q (by simpa [Value.ownBlock]using hq)
 ·rw[e1]at hq;injection hq with hq
  have:=h3.1;omega
theorem vk.dz {i:Nat} (h:vk B t5 W v ms) (hp:p<B):vk B t5 (W.setCell ⟨p,i,none⟩ u) v ms:=by
 obtain⟨lo,w1,h1,h2,h3,h4⟩:=h;refine⟨lo,w1,h1,h2,⟨by simpa using h3.1,fun k hk hl=>?_⟩,h4⟩;rw[AY W ⟨p,i,none⟩ u k (by show k≠p;omega)];exact h3.2 k hk hl
theorem Fk {e:TypeId} (h:w.ownsRow b e size v n xs) (hg:w.grownBy w' v.ownBlock) (bW:e≠t):lI t w w':=
 fun g cs hb=>hb.grown hg (cW h hb bW).symm
def PV (B:Nat) (W:World) (zs:List (zP×Value)):Prop:=(∀z∈zs,xq B W z.2 z.1.ms)∧zs.Pairwise fun x y=>gR x.2 y.2
theorem PV.below (h:PV B W zs) (hb:Below W.heap.size W W'):PV B W' zs:=⟨fun z hz=>bJ (h.1 z hz) hb,h.2⟩
structure vL (p:Nat) (L:List (Nat×PR)) (W:World):Prop where
 ex: ∃(v:Value) (zs:List (zP×Value)),zs.map (·.1)=lx (L.map (·.2))∧aM W p 51 #[v]∧W.ownsRow (p+1) 60 4 v zs.length (zs.flatMap Dy)∧(∀z∈zs,vk (p+1) v W z.2 z.1.ms)∧PV (p+1) W zs
theorem vL.fQ (s:List (Nat×PR)) (A B:World) (h:vL p s A) (hb:Below A.heap.size A B):vL p s B:=by
 obtain⟨v,zs,h1,h2,h3,h4,h5⟩:=h.ex;exact⟨⟨v,zs,h1,h2.below hb h2.lt,bJ h3 hb,fun z hz=>(h4 z hz).below hb,h5.below hb⟩⟩
theorem zy (L:List PR) (r:PR):lx (L++[r])=lx L++(if r.kind=3 then[⟨r.text,r.ms,r.off,r.tim⟩]else[]):=by
 unfold lx;rw[List.filter_append,nQ];by_cases h:r.kind=3<;>simp[h]
def VP (w:World) (L:List (Nat×PR)) (e:Ending) (w':World):Prop:=
 ∃(v:Value) (zs:List (zP×Value)),e= .returned v∧zs.map (·.1)=lx (L.map (·.2))∧w'.ownsRow w.heap.size 60 4 v zs.length (zs.flatMap Dy)∧(∀z∈zs,vk w.heap.size v w' z.2 z.1.ms)∧Below w.heap.size w w'
def xS (w:World) (L:List (Nat×PR)) (e:Ending) (w':World):Prop:=
 ∃(v:Value) (zs:List (zP×Value)),e= .returned v∧zs.map (·.1)=lx (L.map (·.2))∧w'.ownsRow w.heap.size 60 4 v zs.length (zs.flatMap Dy)∧(∀z∈zs,vk w.heap.size v w' z.2 z.1.ms)∧Below w.heap.size w w'∧PV w.heap.size w' zs
theorem xS.one (h:xS w L e w'):VP w L e w':=by
 obtain⟨v,zs,h1,h2,h3,h4,h5,_⟩:=h;exact⟨v,zs,h1,h2,h3,h4,h5⟩
def abp (w:World) (v:Value) (ss:List zP):Prop:=
 ∃ao c,v= .slice ao ss.length c∧ ∀j (h:j<ss.length),∃g o vm,ao=some ⟨g,o,none⟩∧g<w.heap.size∧fV 0 w vm ss[j].ms∧w.cell? ⟨g,o+j*4,none⟩=some (.string ss[j].name)∧w.cell? ⟨g,o+j*4+1,none⟩=some vm∧w.cell? ⟨g,o+j*4+2,none⟩=some (.string ss[j].off)∧w.cell? ⟨g,o+j*4+3,none⟩=some (.string ss[j].tim)
theorem abp.below {w w':World} {v:Value} {ss:List zP} (h:abp w v ss) (hb:Below w.heap.size w w'):abp w' v ss:=by
 obtain⟨ao,c,h1,h2⟩:=h;refine⟨ao,c,h1,fun j hj=>?_⟩;obtain⟨g,o,vm,a,l,m,x,y,z,u⟩:=h2 j hj;exact⟨g,o,vm,a,iv l hb.size,m.below hb,(hb.cell (p:=⟨g,_,none⟩) l).trans x,(hb.cell (p:=⟨g,_,none⟩) l).trans y,(hb.cell (p:=⟨g,_,none⟩) l).trans z,(hb.cell (p:=⟨g,_,none⟩) l).trans u⟩
theorem ji (h:aC r=true):du r.kind r.kids=true∧qp r.kind∧gd r=zr r.kind 0:=by
 unfold aC at h;simp only[kH]at h;have h9:=pT h.1.1;exact⟨h.1.1,h9,(Cy h9).1 h.1.2⟩
theorem acm (h:pw b w v ks): ∃ao c,v= .slice ao ks.length c:=by
 obtain⟨ao,c,h1,_⟩:=h;exact⟨ao,c,h1⟩
theorem Gv (h:pw b w v [x]): ∃g o c,v= .slice (some ⟨g,o,none⟩) 1 c∧b≤g∧g<w.heap.size∧w.cell? ⟨g,o,none⟩=some x:=by
 obtain⟨ao,c,rfl,h2⟩:=h;obtain⟨g,o,rfl,a,l,u⟩:=h2 0 (by simp);exact⟨g,o,c,rfl,a,l,u⟩
theorem O5 {y:Value} (h:pw b w v [x,y]): ∃g o c,v= .slice (some ⟨g,o,none⟩) 2 c∧b≤g∧g<w.heap.size∧w.cell? ⟨g,o,none⟩=some x∧w.cell? ⟨g,o+1,none⟩=some y:=by
 obtain⟨ao,c,rfl,h2⟩:=h;obtain⟨g,o,rfl,a,l,u⟩:=h2 0 (by simp);obtain⟨g',o',e,_,_,u'⟩:=h2 1 (by simp);cases e;exact⟨g,o,c,rfl,a,l,u,u'⟩
theorem Gw (h:ks.length=1): ∃x,ks=[x]:=List.length_eq_one_iff.1 h
theorem O6 (h:ks.length=2): ∃x y,ks=[x,y]:=by
 match ks,h with
 |[x,y],_=>exact⟨x,y,rfl⟩
theorem Rk {m o l:Value} (hB:B≤w.heap.size) (h:bA 0 w r m o i l) (hl:gp r) (hs:aC r=true) (h4:r.kind≠4) (hk:pw B w kv ks) (hn:ks.length=nk r) (hi: ∀v∈ks,∃t x,v= .iface t x):
  Calls prog 61 #[jM r m o i l,kv] w (iH B w r ks):=by
 obtain⟨jJ,h9,hu⟩:=ji hs;obtain⟨hm,ho,hii,H5⟩:=h;obtain⟨am,cm,rfl,_⟩:=id hm;obtain⟨ao,co,rfl,_⟩:=id ho;obtain⟨ai,ci,rfl,_⟩:=id hii;obtain⟨al,cl,rfl,_⟩:=id H5;obtain⟨l1,l2,l3,l4⟩:=hl;have Xm:r.kids=(nk r:Int):=by
  have h2:0≤r.kids:=by
   unfold du at jJ
   repeat' split at jJ
   all_goals simp at jJ
   all_goals omega
  unfold nk;omega
 obtain⟨kind,kids,op,text,ms,bU,step,off,tim,bool,given,on,mls,card,inc,without,labels⟩:=r;simp only at*
 rcases h9 with rfl|rfl|rfl|rfl|rfl|rfl|rfl|rfl|rfl
 ·simp[gd,zr]at hu;simp[du]at jJ;obtain⟨rfl,rfl,rfl,rfl,rfl,rfl,rfl,rfl,rfl,rfl,rfl,rfl,rfl,rfl⟩:=hu;subst jJ;obtain rfl:ks=[]:=o6.1 (by simpa [nk]using hn);exact Ku w B hB text kv am ao ai al _ cm _ co _ ci _ cl
 ·simp[gd,zr]at hu;simp[du]at jJ;obtain⟨rfl,rfl,rfl,rfl,rfl,rfl,rfl,rfl,rfl,rfl,rfl,rfl,rfl,rfl⟩:=hu;subst jJ;obtain rfl:ks=[]:=o6.1 (by simpa [nk]using hn);exact Rb w B hB text kv am ao ai al _ cm _ co _ ci _ cl
 ·simp[gd,zr]at hu;simp[du]at jJ;obtain⟨rfl,rfl,rfl,rfl,rfl,rfl,rfl,rfl,rfl,rfl,rfl⟩:=hu;subst jJ;obtain rfl:ks=[]:=o6.1 (by simpa [nk]using hn);exact DQ w B hB text off tim ms kv am ao ai al _ cm _ co _ ci _ cl hm l1
 ·exact absurd rfl h4
 ·simp[gd,zr]at hu;simp[du]at jJ;obtain⟨rfl,rfl,rfl,rfl,rfl,rfl,rfl,rfl,rfl,rfl,rfl⟩:=hu;subst jJ;obtain⟨z,rfl⟩:=Gw (by simpa [nk]using hn);obtain⟨t,x,rfl⟩:=hi z (by simp);obtain⟨gk,ok,ck,rfl,Lh,uZ,lK⟩:=Gv hk;exact DR w B hB bU step off tim t x am ao ai al _ cm _ co _ ci _ cl gk ok ck Lh uZ lK
 ·simp[gd,zr]at hu;simp[du]at jJ;obtain⟨rfl,rfl,rfl,rfl,rfl,rfl,rfl,rfl,rfl,rfl,rfl,rfl,rfl,rfl⟩:=hu;subst jJ;obtain⟨z,rfl⟩:=Gw (by simpa [nk]using hn);obtain⟨t,x,rfl⟩:=hi z (by simp);obtain⟨gk,ok,ck,rfl,Lh,uZ,lK⟩:=Gv hk;exact Nr w B hB op t x am ao ai al _ cm _ co _ ci _ cl gk ok ck Lh uZ lK
 ·simp[gd,zr]at hu;simp[du]at jJ;obtain⟨rfl,rfl,rfl,rfl,rfl,rfl,rfl,rfl⟩:=hu;subst jJ;obtain⟨z,z2,rfl⟩:=O6 (by simpa [nk]using hn);obtain⟨t,x,rfl⟩:=hi z (by simp);obtain⟨u,y,rfl⟩:=hi z2 (by simp);obtain⟨gk,ok,ck,rfl,Lh,uZ,lK,mP⟩:=O5 hk;exact Kv w B hB op t u x y bool given on card mls inc am ao ai al _ cm _ co _ ci _ cl gk ok ck Lh uZ lK mP ho hii l2 l3
 ·simp[gd,zr]at hu;simp[du]at jJ;obtain⟨rfl,rfl,rfl,rfl,rfl,rfl,rfl,rfl,rfl,rfl,rfl,rfl,rfl,rfl⟩:=hu;obtain⟨ak,ck,rfl⟩:=acm hk;rw[Xm,←hn];exact Rc w B hB op ak ck ks hk am ao ai al _ cm _ co _ ci _ cl
 ·simp[gd,zr]at hu;simp[du]at jJ;obtain⟨rfl,rfl,rfl,rfl,rfl,rfl,rfl,rfl,rfl,rfl,rfl,rfl⟩:=hu;rcases jJ with rfl|rfl
  ·obtain⟨z,rfl⟩:=Gw (by simpa [nk]using hn);obtain⟨t,x,rfl⟩:=hi z (by simp);obtain⟨gk,ok,ck,rfl,Lh,uZ,lK⟩:=Gv hk;exact Rd w B hB op t x without labels am ao ai al _ cm _ co _ ci _ cl gk ok ck Lh uZ lK H5 l4
  ·obtain⟨z,z2,rfl⟩:=O6 (by simpa [nk]using hn);obtain⟨t,x,rfl⟩:=hi z (by simp);obtain⟨u,y,rfl⟩:=hi z2 (by simp);obtain⟨gk,ok,ck,rfl,Lh,uZ,lK,mP⟩:=O5 hk;exact Ns w B hB op u t y x without labels am ao ai al _ cm _ co _ ci _ cl gk ok ck Lh uZ lK mP H5 l4
def ey (w:World) (v:Value) (rs:List PR):Prop:=jr 0 w v rs∧ ∃ao c,v= .slice ao rs.length c∧rs.length≤c
theorem ey.below {w w':World} {v:Value} {rs:List PR} (h:ey w v rs) (hb:Below w.heap.size w w'):ey w' v rs:=⟨h.1.below hb,h.2⟩
theorem ey.tail {o:Nat} {l:List PR} (h:ey w (.slice (some ⟨g,o,none⟩) n c) (r::l)):ey w (.slice (some ⟨g,o+17,none⟩) l.length (c-1)) l:=by
 obtain⟨⟨ao,c',hv,hc⟩,uY,c2,Pr,hle⟩:=h;injection Pr with e1 e2 e3
 subst e3;refine⟨⟨_,_,rfl,fun j hj=>?_⟩,_,_,rfl,by simp only[ek]at hle;omega⟩;obtain⟨g',o',he,hb,hg,vm,vo,vi,vl,h1,h2⟩:=hc (j+1) (by simp;omega);injection hv with e4 _ _
 rw[←e4]at he;cases he;refine⟨g,o+17,rfl,hb,hg,vm,vo,vi,vl,h1,fun k hk=>?_⟩;have:=h2 k hk;rw[show o+17+j*17+k=o+(j+1)*17+k by omega];exact this
theorem ey.none_ {a:Option Addr} :ey w (.slice a 0 c) []:=⟨⟨a,c,rfl,fun j h=>absurd h (by simp)⟩,a,c,rfl,aV _⟩
def j9 (B:Nat) (w0 w:World) (d:Nat) (x y:List PR) (e:Ending) (w':World):Prop:=
 ∃nv s,e= .returned (.tuple #[nv,s])∧dJ B w' d nv (ng d x)∧ey w0 s y∧Below w.heap.size w w'
theorem r5: ∀(x y:List PR),dc (x++y)=true→dc y=true
 |[],_,h=>h
 |r::x,y,h=>by
  rw[oh,dc,kH]at h;exact r5 x y h.2
theorem Rl (h:aC r=true) (h4:r.kind=4):r={zr 4 1 with bU:=r.bU}:=by
 obtain⟨jJ,_,hu⟩:=ji h;obtain⟨kind,kids,op,text,ms,bU,step,off,tim,bool,given,on,mls,card,inc,without,labels⟩:=r;simp only at*
 subst h4;simp[gd,zr]at hu;simp[du]at jJ;simp[zr,hu,jJ]
theorem Y9 (h:aC r=true) (h3:r.kind=3):r={zr 3 0 with text:=r.text,ms:=r.ms,off:=r.off,tim:=r.tim}:=by
 obtain⟨jJ,_,hu⟩:=ji h;obtain⟨kind,kids,op,text,ms,bU,step,off,tim,bool,given,on,mls,card,inc,without,labels⟩:=r;simp only at*
 subst h3;simp[gd,zr]at hu;simp[du]at jJ;simp[zr,hu,jJ]
theorem NB (hB:B≤w.heap.size) (zI:aC r=true) (h4:r.kind=4) (hqs:aC q=true) (ZR:q.kind=3) (PX:ey w0 SV y) (aY:Below w.heap.size w wc)
  (qM:ba wc.drew.heap.size WM (.iface 84 (.pointer (some ⟨gs,0,none⟩))) {zr 3 0 with text:=q.text,ms:=q.ms,off:=q.off,tim:=q.tim} []) (hb:Below wc.drew.heap.size wc.drew WM):
  j9 B w0 w d [r,q] y (.returned (.tuple #[.iface 98 (.pointer (some ⟨WM.heap.size,0,none⟩)),SV])) (WM.alloc (.cells #[.pointer (some ⟨gs,0,none⟩),.string r.bU] 100)):=by
 have hl1:=aY.size;have uR:wc.heap.size≤WM.heap.size:=hb.size;have An:Below WM.heap.size WM (WM.alloc (.cells #[.pointer (some ⟨gs,0,none⟩),.string r.bU] 100)):=(aU _ _).alloc (aS _) _;have hz:=aM.new WM 100 #[.pointer (some ⟨gs,0,none⟩),.string r.bU];rw[←Y9 hqs ZR]at qM;have hk:=dJ.mk (d+1) _ q [] (fun _=>[]) ((qM.below An).lo (b':=B) (by show B≤wc.heap.size;omega)) (fun i h=>absurd h (by simp));have hn:=ba.range (b:=B) (w:=WM.alloc (.cells #[.pointer (some ⟨gs,0,none⟩),.string r.bU] 100)) WM.heap.size (by omega) hz.lt r.bU gs (hz.cell 0) (hz.cell 1);rw[←Rl zI h4]at hn;have hT:=dJ.mk d _ r _ (fun _=>[(d+1,q)]) hn (fun i h=>by
  have h0:i=0:=by simpa using h
  subst h0;exact hk)
 have hA:=hT.ng;have e:(((d,r)::(List.range [Value.iface 84 (.pointer (some ⟨gs,0,none⟩))].length).flatMap fun _=>[(d+1,q)]).map (·.2):List PR)=[r,q]:=rfl;rw[e]at hA;rw[hA]at hT;exact⟨_,SV,rfl,hT,PX,(aY.drew.trans (hb.mono hl1)).trans (An.mono (by omega))⟩
theorem NC (a:Addr) (n k:Nat) (h:n+1≤k) (W:World):(Instr.slice 22 (.slice (some a) (n+1) k) (some (.int .i64 1)) none none).run prog W= .ok (.slice (if k=1 then some a else some (a.add 17)) n (k-1)) W:=by
 have h1:(1:Int)≤(n:Int)+1:=by omega
 have h2:(n:Int)+1≤(k:Int):=by omega
 have hu:=underlying22;have hs: ∀W,(sizeOf 46).run prog W= .ok 17 W:=fun W=>by kernel_rfl
 unfold Instr.slice;simp[go_sem,run_underlying hu,h,h1,h2,hs]
theorem KD (hB:B≤w.heap.size) (Li:Below w0.heap.size w0 w) (ja:ey w0 v (r::q::y)) (zI:aC r=true) (h4:r.kind=4) (ZR:q.kind=3) (hqs:aC q=true) (hql:gp q) (hlen:y.length≤1099511627776):
  Calls prog 32 #[v] w (j9 B w0 w d [r,q] y):=by
 obtain⟨ao,c,rfl,hle⟩:=ja.2;have hrc:=ja;obtain⟨_,_,hv,hc⟩:=(ja.below Li).1;injection hv with e1 e2 e3
 subst e1 e3;obtain⟨g,o,rfl,_,hg,vm,vo,vi,vl,lg,bf⟩:=hc 0 (by simp);obtain⟨g',o',he,_,_,um,uo,ui,ul,hlq,sU⟩:=hc 1 (by simp);cases he;simp only[Is,List.getElem_cons_succ,yB,iz,Bb]at lg bf hlq sU;obtain⟨⟨Sw,SC,rfl,_⟩,⟨Sx,SE,rfl,_⟩,⟨Sy,SG,rfl,_⟩,⟨Sz,SJ,rfl,_⟩⟩:=id lg;obtain⟨⟨K5,K9,rfl,_⟩,⟨uY,Lb,rfl,_⟩,⟨K6,Ld,rfl,_⟩,⟨K7,Lf,rfl,_⟩⟩:=id hlq;obtain⟨SA,afh⟩: ∃n,n=r.ms.length:=⟨_,rfl⟩;obtain⟨SD,afi⟩: ∃n,n=r.mls.length:=⟨_,rfl⟩;obtain⟨SF,afj⟩: ∃n,n=r.inc.length:=⟨_,rfl⟩;obtain⟨SH,afk⟩: ∃n,n=r.labels.length:=⟨_,rfl⟩;obtain⟨K8,afl⟩: ∃n,n=q.ms.length:=⟨_,rfl⟩;obtain⟨La,S7⟩: ∃n,n=q.mls.length:=⟨_,rfl⟩;obtain⟨Lc,afm⟩: ∃n,n=q.inc.length:=⟨_,rfl⟩;obtain⟨Le,afn⟩: ∃n,n=q.labels.length:=⟨_,rfl⟩;rw[←afh,←afi,←afj,←afk]at lg bf;rw[←afl,←S7,←afm,←afn]at hlq sU;have yf:Hid (ey w0 (.slice (some ⟨g,o+17,none⟩) (q::y).length (c-1)) (q::y)):=ae hrc.tail;simp only[ek]at hle;obtain⟨n,hn⟩: ∃n,n=y.length:=⟨_,rfl⟩;have hLn:(r::q::y).length=n+1+1:=by rw[hn];simp
 rw[hLn];rw[←hn]at hle hlen;obtain⟨k,rfl⟩: ∃k,c=k+1:=⟨c-1,by omega⟩;have Xm:nk r=1:=by
  have h1:=(ji zI).1;rw[h4]at h1;simp[du]at h1;unfold nk;omega
 have Xv:Hid (∀W,Below w.heap.size w W→Calls prog 44 #[.agg #[.int .i64 q.kind,.int .i64 q.kids,.string q.op,.string q.text,.slice K5 K8 K9,.string q.bU,.string q.step,.string q.off,.string q.tim,.bool q.bool,.bool q.given,.bool q.on,.slice uY La Lb,.int .i64 q.card,.slice K6 Lc Ld,.bool q.without,.slice K7 Le Lf]] W (Aw W q)):=ae fun W hb=>tL (r:=q) (hlq.1.below hb) hql.1
 have c0:w.cell? ⟨g,o,none⟩=some (.int .i64 r.kind):=bf 0 (by omega);have c1:w.cell? ⟨g,o+1,none⟩=some (.int .i64 r.kids):=bf 1 (by omega);have c2:w.cell? ⟨g,o+2,none⟩=some (.string r.op):=bf 2 (by omega);have c3:w.cell? ⟨g,o+3,none⟩=some (.string r.text):=bf 3 (by omega);have c4:w.cell? ⟨g,o+4,none⟩=some (.slice Sw SA SC):=bf 4 (by omega);have c5:w.cell? ⟨g,o+5,none⟩=some (.string r.bU):=bf 5 (by omega);have c6:w.cell? ⟨g,o+6,none⟩=some (.string r.step):=bf 6 (by omega);have c7:w.cell? ⟨g,o+7,none⟩=some (.string r.off):=bf 7 (by omega);have c8:w.cell? ⟨g,o+8,none⟩=some (.string r.tim):=bf 8 (by omega);have c9:w.cell? ⟨g,o+9,none⟩=some (.bool r.bool):=bf 9 (by omega);have PC:w.cell? ⟨g,o+10,none⟩=some (.bool r.given):=bf 10 (by omega);have PD:w.cell? ⟨g,o+11,none⟩=some (.bool r.on):=bf 11 (by omega);have c12:w.cell? ⟨g,o+12,none⟩=some (.slice Sx SD SE):=bf 12 (by omega);have PE:w.cell? ⟨g,o+13,none⟩=some (.int .i64 r.card):=bf 13 (by omega);have PF:w.cell? ⟨g,o+14,none⟩=some (.slice Sy SF SG):=bf 14 (by omega);have NY:w.cell? ⟨g,o+15,none⟩=some (.bool r.without):=bf 15 (by omega);have NZ:w.cell? ⟨g,o+16,none⟩=some (.slice Sz SH SJ):=bf 16 (by omega);have M0:Hid (w.cell? ⟨g,o+17,none⟩=some (.int .i64 q.kind)):=ae (sU 0 (by omega));have M1:Hid (w.cell? ⟨g,o+17+1,none⟩=some (.int .i64 q.kids)):=ae (sU 1 (by omega));have M2:Hid (w.cell? ⟨g,o+17+2,none⟩=some (.string q.op)):=ae (sU 2 (by omega));have M3:Hid (w.cell? ⟨g,o+17+3,none⟩=some (.string q.text)):=ae (sU 3 (by omega));have M4:Hid (w.cell? ⟨g,o+17+4,none⟩=some (.slice K5 K8 K9)):=ae (sU 4 (by omega));have M5:Hid (w.cell? ⟨g,o+17+5,none⟩=some (.string q.bU)):=ae (sU 5 (by omega));have M6:Hid (w.cell? ⟨g,o+17+6,none⟩=some (.string q.step)):=ae (sU 6 (by omega));have M7:Hid (w.cell? ⟨g,o+17+7,none⟩=some (.string q.off)):=ae (sU 7 (by omega));have M8:Hid (w.cell? ⟨g,o+17+8,none⟩=some (.string q.tim)):=ae (sU 8 (by omega));have M9:Hid (w.cell? ⟨g,o+17+9,none⟩=some (.bool q.bool)):=ae (sU 9 (by omega));have M10:Hid (w.cell? ⟨g,o+17+10,none⟩=some (.bool q.given)):=ae (sU 10 (by omega));have M11:Hid (w.cell? ⟨g,o+17+11,none⟩=some (.bool q.on)):=ae (sU 11 (by omega));have M12:Hid (w.cell? ⟨g,o+17+12,none⟩=some (.slice uY La Lb)):=ae (sU 12 (by omega));have M13:Hid (w.cell? ⟨g,o+17+13,none⟩=some (.int .i64 q.card)):=ae (sU 13 (by omega));have M14:Hid (w.cell? ⟨g,o+17+14,none⟩=some (.slice K6 Lc Ld)):=ae (sU 14 (by omega));have M15:Hid (w.cell? ⟨g,o+17+15,none⟩=some (.bool q.without)):=ae (sU 15 (by omega));have M16:Hid (w.cell? ⟨g,o+17+16,none⟩=some (.slice K7 Le Lf)):=ae (sU 16 (by omega));have HN:=ae hn;have HKN:=ae Xm;have HH:=ae (And.intro zI (And.intro hqs (And.intro ZR (And.intro Li (And.intro hB lg)))));have p4:(r.kind==4)=true:=by simp[h4]
 have H4:=ae h4;have q0:((k:Int)+1=1)=False:=bT (by omega);have q00:(k+1=1)=False:=bT (by omega);have arw:(k=0)=False:=bT (by omega);clear bf hc ja hrc zI Xm afh afi afj afk afl S7 afm afn hlq sU lg h4 ZR hqs hql hLn hn hB Li;go_enter func32,ntmps32;go_upto_region 2 with(refine ax rfl 46 (.tmp 4) (.tmp 9) rfl w.heap.size _ rfl rfl (aM.new _ _ _) aL rfl rfl ?_)
 intro W' hz jm;go_upto_region 2 with(fail)
 have aY:Below w.heap.size w W':=ef ((aU w.heap.size w).alloc (aS _) _) jm (by simp) (aS _);have HZ:=ae hz;have cF:=ae aY;clear hz jm aY c0 c1 c2 c3 c4 c5 c6 c7 c8 c9 PC PD c12 PE PF NY NZ;go_cut [0]from 10 to 11 (fun t0 wx=> ∃oq,t0= .slice (some ⟨g,oq,none⟩) (n+1) k∧wx=W'∧Hid (oq=o+17))
 case first=>
  go_wp2_with fail;go_meet;exact⟨_,rfl,rfl,ae rfl⟩
 case rest=>
  obtain⟨oq,rfl,rfl,Hp⟩:=hcut;have z0:wc.cell? ⟨w.heap.size,0,none⟩=some (.int .i64 r.kind):=HZ.out.cell 0;have s1:=HZ.out.lt;have zF:g<wc.heap.size:=iv hg cF.out.size;have z5:wc.cell? ⟨w.heap.size,5,none⟩=some (.string r.bU):=HZ.out.cell 5;have d5:wc.drew.cell? ⟨w.heap.size,5,none⟩=some (.string r.bU):=z5;have Z5:=ae z5;have n0:wc.cell? ⟨g,oq,none⟩=some (.int .i64 q.kind):=by rw[Hp.out];exact(cF.out.cell (p:=⟨g,_,none⟩) hg).trans M0.out
  have m0:wc.drew.cell? ⟨g,oq,none⟩=some (.int .i64 q.kind):=n0;have N0:=ae n0;have n1:wc.cell? ⟨g,oq+1,none⟩=some (.int .i64 q.kids):=by rw[Hp.out];exact(cF.out.cell (p:=⟨g,_,none⟩) hg).trans M1.out
  have m1:wc.drew.cell? ⟨g,oq+1,none⟩=some (.int .i64 q.kids):=n1;have N1:=ae n1;have n2:wc.cell? ⟨g,oq+2,none⟩=some (.string q.op):=by rw[Hp.out];exact(cF.out.cell (p:=⟨g,_,none⟩) hg).trans M2.out
  have m2:wc.drew.cell? ⟨g,oq+2,none⟩=some (.string q.op):=n2;have N2:=ae n2;have n3:wc.cell? ⟨g,oq+3,none⟩=some (.string q.text):=by rw[Hp.out];exact(cF.out.cell (p:=⟨g,_,none⟩) hg).trans M3.out
  have m3:wc.drew.cell? ⟨g,oq+3,none⟩=some (.string q.text):=n3;have N3:=ae n3;have n4:wc.cell? ⟨g,oq+4,none⟩=some (.slice K5 K8 K9):=by rw[Hp.out];exact(cF.out.cell (p:=⟨g,_,none⟩) hg).trans M4.out
  have m4:wc.drew.cell? ⟨g,oq+4,none⟩=some (.slice K5 K8 K9):=n4;have N4:=ae n4;have n5:wc.cell? ⟨g,oq+5,none⟩=some (.string q.bU):=by rw[Hp.out];exact(cF.out.cell (p:=⟨g,_,none⟩) hg).trans M5.out
  have m5:wc.drew.cell? ⟨g,oq+5,none⟩=some (.string q.bU):=n5;have N5:=ae n5;have n6:wc.cell? ⟨g,oq+6,none⟩=some (.string q.step):=by rw[Hp.out];exact(cF.out.cell (p:=⟨g,_,none⟩) hg).trans M6.out
  have m6:wc.drew.cell? ⟨g,oq+6,none⟩=some (.string q.step):=n6;have N6:=ae n6;have n7:wc.cell? ⟨g,oq+7,none⟩=some (.string q.off):=by rw[Hp.out];exact(cF.out.cell (p:=⟨g,_,none⟩) hg).trans M7.out
  have m7:wc.drew.cell? ⟨g,oq+7,none⟩=some (.string q.off):=n7;have N7:=ae n7;have n8:wc.cell? ⟨g,oq+8,none⟩=some (.string q.tim):=by rw[Hp.out];exact(cF.out.cell (p:=⟨g,_,none⟩) hg).trans M8.out
  have m8:wc.drew.cell? ⟨g,oq+8,none⟩=some (.string q.tim):=n8;have N8:=ae n8;have n9:wc.cell? ⟨g,oq+9,none⟩=some (.bool q.bool):=by rw[Hp.out];exact(cF.out.cell (p:=⟨g,_,none⟩) hg).trans M9.out
  have m9:wc.drew.cell? ⟨g,oq+9,none⟩=some (.bool q.bool):=n9;have N9:=ae n9;have n10:wc.cell? ⟨g,oq+10,none⟩=some (.bool q.given):=by rw[Hp.out];exact(cF.out.cell (p:=⟨g,_,none⟩) hg).trans M10.out
  have m10:wc.drew.cell? ⟨g,oq+10,none⟩=some (.bool q.given):=n10;have N10:=ae n10;have n11:wc.cell? ⟨g,oq+11,none⟩=some (.bool q.on):=by rw[Hp.out];exact(cF.out.cell (p:=⟨g,_,none⟩) hg).trans M11.out
  have m11:wc.drew.cell? ⟨g,oq+11,none⟩=some (.bool q.on):=n11;have N11:=ae n11;have n12:wc.cell? ⟨g,oq+12,none⟩=some (.slice uY La Lb):=by rw[Hp.out];exact(cF.out.cell (p:=⟨g,_,none⟩) hg).trans M12.out
  have m12:wc.drew.cell? ⟨g,oq+12,none⟩=some (.slice uY La Lb):=n12;have N12:=ae n12;have n13:wc.cell? ⟨g,oq+13,none⟩=some (.int .i64 q.card):=by rw[Hp.out];exact(cF.out.cell (p:=⟨g,_,none⟩) hg).trans M13.out
  have m13:wc.drew.cell? ⟨g,oq+13,none⟩=some (.int .i64 q.card):=n13;have N13:=ae n13;have n14:wc.cell? ⟨g,oq+14,none⟩=some (.slice K6 Lc Ld):=by rw[Hp.out];exact(cF.out.cell (p:=⟨g,_,none⟩) hg).trans M14.out
  have m14:wc.drew.cell? ⟨g,oq+14,none⟩=some (.slice K6 Lc Ld):=n14;have N14:=ae n14;have n15:wc.cell? ⟨g,oq+15,none⟩=some (.bool q.without):=by rw[Hp.out];exact(cF.out.cell (p:=⟨g,_,none⟩) hg).trans M15.out
  have m15:wc.drew.cell? ⟨g,oq+15,none⟩=some (.bool q.without):=n15;have N15:=ae n15;have n16:wc.cell? ⟨g,oq+16,none⟩=some (.slice K7 Le Lf):=by rw[Hp.out];exact(cF.out.cell (p:=⟨g,_,none⟩) hg).trans M16.out
  have m16:wc.drew.cell? ⟨g,oq+16,none⟩=some (.slice K7 Le Lf):=n16;have N16:=ae n16;go_upto_region 4 with(fail)
  obtain⟨SV,hSV⟩: ∃SV,SV=Value.slice (if k=1 then some ⟨g,oq,none⟩else some ((⟨g,oq,none⟩:Addr).add 17)) n (k-1):=⟨_,rfl⟩;have sl: ∀W,(Instr.slice 22 (.slice (some ⟨g,oq,none⟩) (n+1) k) (some (.int .i64 1)) none none).run prog W= .ok SV W:=fun W=>by rw[hSV];exact NC _ n k (by omega) W
  have HSV:Hid (ey w0 SV y):=ae (by
   rw[hSV];by_cases e:k=1
   ·have h0:y=[]:=o6.1 (by rw[←HN.out];omega);subst h0;have:n=0:=by omega
    subst this;exact ey.none_
   ·rw[ah e,HN.out,Hp.out];have h1:=yf.out;rw[Nat.add_sub_cancel]at h1;exact h1.tail)
  clear hSV;go_region_held3 (fun W=>W.cell? ⟨g,oq,none⟩=some (.int .i64 q.kind)∧W.cell? ⟨g,oq+1,none⟩=some (.int .i64 q.kids)∧W.cell? ⟨g,oq+2,none⟩=some (.string q.op)∧W.cell? ⟨g,oq+3,none⟩=some (.string q.text)∧W.cell? ⟨g,oq+4,none⟩=some (.slice K5 K8 K9)∧W.cell? ⟨g,oq+5,none⟩=some (.string q.bU)∧W.cell? ⟨g,oq+6,none⟩=some (.string q.step)∧W.cell? ⟨g,oq+7,none⟩=some (.string q.off)∧W.cell? ⟨g,oq+8,none⟩=some (.string q.tim)∧W.cell? ⟨g,oq+9,none⟩=some (.bool q.bool)∧W.cell? ⟨g,oq+10,none⟩=some (.bool q.given)∧W.cell? ⟨g,oq+11,none⟩=some (.bool q.on)∧W.cell? ⟨g,oq+12,none⟩=some (.slice uY La Lb)∧W.cell? ⟨g,oq+13,none⟩=some (.int .i64 q.card)∧W.cell? ⟨g,oq+14,none⟩=some (.slice K6 Lc Ld)∧W.cell? ⟨g,oq+15,none⟩=some (.bool q.without)∧W.cell? ⟨g,oq+16,none⟩=some (.slice K7 Le Lf)∧W.cell? ⟨w.heap.size,5,none⟩=some (.string r.bU)) (first|go_keep) (first|(go_at_call 44;(with_reducible refine(Xv.out _ cF.out.drew).mono ?_);rintro e WM ⟨gs,rfl,qM,hb⟩;have p0:WM.cell? ⟨g,oq,none⟩=some (.int .i64 q.kind):=(hb.cell (p:=⟨g,_,none⟩) zF).trans N0.out;have p1:WM.cell? ⟨g,oq+1,none⟩=some (.int .i64 q.kids):=(hb.cell (p:=⟨g,_,none⟩) zF).trans N1.out;have p2:WM.cell? ⟨g,oq+2,none⟩=some (.string q.op):=(hb.cell (p:=⟨g,_,none⟩) zF).trans N2.out;have p3:WM.cell? ⟨g,oq+3,none⟩=some (.string q.text):=(hb.cell (p:=⟨g,_,none⟩) zF).trans N3.out;have p4:WM.cell? ⟨g,oq+4,none⟩=some (.slice K5 K8 K9):=(hb.cell (p:=⟨g,_,none⟩) zF).trans N4.out;have p5:WM.cell? ⟨g,oq+5,none⟩=some (.string q.bU):=(hb.cell (p:=⟨g,_,none⟩) zF).trans N5.out;have p6:WM.cell? ⟨g,oq+6,none⟩=some (.string q.step):=(hb.cell (p:=⟨g,_,none⟩) zF).trans N6.out;have p7:WM.cell? ⟨g,oq+7,none⟩=some (.string q.off):=(hb.cell (p:=⟨g,_,none⟩) zF).trans N7.out;have p8:WM.cell? ⟨g,oq+8,none⟩=some (.string q.tim):=(hb.cell (p:=⟨g,_,none⟩) zF).trans N8.out;have p9:WM.cell? ⟨g,oq+9,none⟩=some (.bool q.bool):=(hb.cell (p:=⟨g,_,none⟩) zF).trans N9.out;have p10:WM.cell? ⟨g,oq+10,none⟩=some (.bool q.given):=(hb.cell (p:=⟨g,_,none⟩) zF).trans N10.out;have p11:WM.cell? ⟨g,oq+11,none⟩=some (.bool q.on):=(hb.cell (p:=⟨g,_,none⟩) zF).trans N11.out;have p12:WM.cell? ⟨g,oq+12,none⟩=some (.slice uY La Lb):=(hb.cell (p:=⟨g,_,none⟩) zF).trans N12.out;have p13:WM.cell? ⟨g,oq+13,none⟩=some (.int .i64 q.card):=(hb.cell (p:=⟨g,_,none⟩) zF).trans N13.out;have p14:WM.cell? ⟨g,oq+14,none⟩=some (.slice K6 Lc Ld):=(hb.cell (p:=⟨g,_,none⟩) zF).trans N14.out;have p15:WM.cell? ⟨g,oq+15,none⟩=some (.bool q.without):=(hb.cell (p:=⟨g,_,none⟩) zF).trans N15.out;have p16:WM.cell? ⟨g,oq+16,none⟩=some (.slice K7 Le Lf):=(hb.cell (p:=⟨g,_,none⟩) zF).trans N16.out;have p5b:WM.cell? ⟨w.heap.size,5,none⟩=some (.string r.bU):=(hb.cell (p:=⟨w.heap.size,5,none⟩) s1).trans Z5.out;have t1:w.heap.size<WM.heap.size:=iv s1 hb.size;have t2:g<WM.heap.size:=iv zF hb.size;have HND:=ae qM;have Lg:=ae hb;clear qM hb));have HF:Hid (j9 B w0 w d [r,q] y (.returned (.tuple #[.iface 98 (.pointer (some ⟨WM.heap.size,0,none⟩)),SV])) (WM.alloc (.cells #[.pointer (some ⟨gs,0,none⟩),.string r.bU] 100))):=ae (NB HH.out.2.2.2.2.1 HH.out.1 H4.out HH.out.2.1 HH.out.2.2.1 HSV.out cF.out HND.out Lg.out);go_wp2_with fail;go_ret2;exact HF.out
theorem acL (r:PR):ES r=iP r.given r.on r.mls r.card r.inc:=rfl
theorem ND (hT:pv (fun _=>True) T):T4 T:=by
 intro w r m o i l h hr kp;obtain⟨⟨am,cm,rfl,_⟩,⟨ao,co,rfl,_⟩,⟨ai,ci,rfl,_⟩,⟨al,cl,rfl,_⟩⟩:=id h;cases hk:du r.kind r.kids with
 |false=>
  have e:aC r=false:=by unfold aC;rw[hk];rfl
  rw[e];exact Nq w r _ _ _ _ _ _ _ _ _ _ _ _ h hr.len hk
 |true=>
  have h9:=pT hk;have hu:=Cy h9;cases RO:lP r with
  |false=>
   have e:aC r=false:=by unfold aC;rw[hk,RO];rfl
   rw[e];exact Hb w r _ _ _ _ _ _ _ _ _ _ _ _ h hr.len hk fun e2=>by rw[hu.2 e2]at RO;cases RO
  |true=>
   have KT:=hu.1 RO;exact Nt w r _ _ _ _ _ _ _ _ _ _ _ _ h hr.len hT kp hr hk RO KT
