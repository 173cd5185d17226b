import Derived.Test.YtibcjfjacielbaaGreatDoorP32
import Derived.Test.YtibcjfjacielbaaGreatDoorP45
/- Part of the proof of YtibcjfjacielbaaGreatDoorCardP: InB TwC TsA TwD. -/
set_option maxRecDepth 100000
set_option maxHeartbeats 4000000
set_option linter.unusedVariables false
set_option linter.unusedSimpArgs false
namespace Go.Proofs.YtibcjfjacielbaaGreatDoor
open Go.RowKit
theorem wpListIn_val {F:Fence} {m:Nat} {P:Program} {ops:Array Oper} {rest:List Oper} {o:Oper} {a:Act} {w w':World} {Q:Exit→Act→World→Prop} {v:Value} (hgd:o.guard=none) (hab:o.about P w a.eval=none) (hnd: ∀c,o.op≠.defer c)
  (hr:(execOp a.eval o).run P w= .ok (.value v) w') (h:wpListIn F m P ops Q rest (a.put o.dst v) w'):wpListIn F m P ops Q (o::rest) a w:=by
 refine wpListIn_plain hgd fun K hK=>?_
 unfold Oper.wpIn;refine⟨fun f hf=>(by rw[hab]at hf;cases hf),?_⟩;rw[Oper.semAt_plain F _ _ hnd,hr];exact hK _ _ h
theorem wpListIn_skp {F:Fence} {m:Nat} {P:Program} {ops:Array Oper} {rest:List Oper} {o:Oper} {a:Act} {w w':World} {Q:Exit→Act→World→Prop} (hgd:o.guard=none) (hab:o.about P w a.eval=none) (hnd: ∀c,o.op≠.defer c)
  (hr:(execOp a.eval o).run P w= .ok .skip w') (h:wpListIn F m P ops Q rest (a.put o.dst undef) w'):wpListIn F m P ops Q (o::rest) a w:=by
 refine wpListIn_plain hgd fun K hK=>?_
 unfold Oper.wpIn;refine⟨fun f hf=>(by rw[hab]at hf;cases hf),?_⟩;rw[Oper.semAt_plain F _ _ hnd,hr];exact hK _ _ h
theorem wpListIn_load_blk {F:Fence} {m:Nat} {P:Program} {ops:Array Oper} {rest:List Oper} {o:Oper} {a:Act} {w:World} {Q:Exit→Act→World→Prop} (hgd:o.guard=none) (ty:TypeId) (x:Operand) (ho:o.op= .load ty x)
  (g:Nat) (hx:a.eval x= .pointer (some ⟨g,0,none⟩)) {t:TypeId} {cs:Array Value} {fs:Array Field} (hb:Blk w g t cs)
  (hu:P.underlying ty=some (.struct fs)) (hi:(P.info? ty).map (·.size)=some cs.size)
  (h:wpListIn F m P ops Q rest (a.put o.dst (.agg cs)) w):wpListIn F m P ops Q (o::rest) a w:=by
 refine wpListIn_val (v:=.agg cs) (w':=w) hgd (by simp[Oper.about,ho]) (by rw[ho];intro c hc;cases hc) ?_ h;unfold execOp;simp only[ho,hx,Instr.loadAt,Instr.sureAddr,Sem.run_bind,Sem.run_pure,Result.andThen_ok,run_loadVar_row w g t ty cs (0,0) _ hb hu rfl hi]
theorem wpListIn_store_blk {F:Fence} {m:Nat} {P:Program} {ops:Array Oper} {rest:List Oper} {o:Oper} {a:Act} {w:World} {Q:Exit→Act→World→Prop} (hgd:o.guard=none) (ty:TypeId) (x y:Operand) (ho:o.op= .store ty x y)
  (g:Nat) (cells:Array Value) (hx:a.eval x= .pointer (some ⟨g,0,none⟩)) (hy:a.eval y= .agg cells)
  {t:TypeId} {old:Array Value} (hb:Blk w g t old) (hi:(P.info? ty).map (·.size)=some cells.size)
  (hold:old.size=cells.size) (h1:cells.toList.all (·.oneCell')=true)
  (h: ∀W,Blk W g t cells→w.grownBy W (some g)→wpListIn F m P ops Q rest (a.put o.dst undef) W):wpListIn F m P ops Q (o::rest) a w:=by
 refine wpListIn_skp (w':=w.setRow g cells) hgd (by simp[Oper.about,ho]) (by rw[ho];intro c hc;cases hc) ?_ (h _ (setRow_heap w g old cells t (0,0) hb) (grown_setRow w g cells));unfold execOp;simp only[ho,hx,hy,Instr.storeAt,Instr.sureAddr,Sem.run_bind,Sem.run_pure,Result.andThen_ok,run_storeVar_row w g t ty old cells hb hi hold (by rw[←Array.all_toList];exact h1)]
theorem wpListIn_push2 {F : Fence} {m : Nat} {P : Program} {w0 : World} {ops : Array Oper} {rest : List Oper} {o : Oper} {a : Act} {Q : Exit → Act → World → Prop}
    (hg : o.guard = none) (s x : Operand) (t : TypeId) (hop : o.op = Op.call { callee := Callee.builtin Builtin.append, args := #[s, x], argTypes := #[t, t] })
    (base : Nat) (e : TypeId) (z : Value) (size bytes : Nat) (hinfo : (P.info? e).map (fun i => (i.zero, i.size, i.bytes)) = some (some z, size, bytes)) (h1 : P.underlying t = some (.slice e)) (hzs : z.cells.size = size) (hsz : 0 < size)
    (v : Value) (n : Nat) (xs : List Value) (hs : a.eval s = v) (hown : w0.ownsRow base e size v n xs) (us : List Value) (hus : us.length = size)
    (hx : a.eval x = .slice (some ⟨w0.heap.size, 0, none⟩) 1 1) (h1c : ∀ u ∈ us, u.oneCell' = true) (hmax : n + 1 ≤ maxLen) (hb : (n + 1) * bytes ≤ 140737488355328) (hbase : base ≤ w0.heap.size)
    (hK : ∀ v' w', w'.ownsRow base e size v' (n + 1) (xs ++ us) → w0.grownBy w' v.ownBlock → (SameBlk v v' ∨ (v'.ownBlock = some (w0.heap.size + 1) ∧ w0.grownBy w' none)) → wpListIn F m P ops Q rest (a.put o.dst v') w') :
    wpListIn F m P ops Q (o::rest) a (w0.alloc (.cells us.toArray e)):=by
  obtain⟨i,hi,hz,hsi,hby⟩:=info_parts hinfo
  obtain ⟨v', w', hr, r1, r2, r3⟩ := run_append_two (P := P) (w0.alloc (.cells us.toArray e)) base t o.type e i z size bytes h1 hi hz hsi hby hzs hsz v n xs (hown.alloc _) ⟨w0.heap.size, 0, none⟩ 1 1 us (by omega)
    (by intro j u hu
        have hj:j<us.length:=(List.getElem?_eq_some_iff.1 hu).1
        rw[Addr.add_lit,Nat.zero_add,World.cell?_alloc_at _ _ _ _ rfl]
        simpa using hu) h1c hmax hb (by simp;omega) (by omega)
  refine wpListIn_val (v:=v') (w':=w') hg (by simp[Oper.about,hop,resolve,Target.leads,Sem.run_pure]) (by rw[hop];intro c hc;cases hc) ?_ (hK v' w' r1 (grow_trans (World.grownBy_alloc w0 _ _) r2) ?_)
  · unfold execOp
    simp only[hop,resolve,invoke,builtin,Sem.run_bind,Sem.run_pure,Result.andThen_ok,List.map_toArray,List.map_cons,List.map_nil,hs,hx,hr]
  · rcases r3 with h | ⟨h, h'⟩
    · exact .inl h
    · exact .inr ⟨by simpa using h, grow_trans (World.grownBy_alloc w0 _ _) h'⟩
theorem RowOwn.push {B b n:Nat} {w w':World} {r:PR} {m o i l vv:Value} {xs:List Value} (h:RowOwn B w r m o i l) (ho:w.ownsRow b 58 17 vv n xs) (hg:w.grownBy w' vv.ownBlock):RowOwn B w' r m o i l:=
 ⟨h.m.kept hg (own_own_ne h.m ho (by decide)),h.o.kept hg (own_own_ne h.o ho (by decide)),h.i.kept hg (own_own_ne h.i ho (by decide)),h.l.kept hg (own_own_ne h.l ho (by decide)),h.oi,h.ol,h.il⟩
theorem RowOwn.set_ {B p i:Nat} {w:World} {r:PR} {m o i' l u:Value} {t:TypeId} {cs:Array Value} (h:RowOwn B w r m o i' l) (hp:Blk w p t cs) (h1:9≠t) (h2:38≠t):RowOwn B (w.setCell ⟨p,i,none⟩ u) r m o i' l:=
 ⟨own_setBlk h.m hp h2 u,own_setBlk h.o hp h1 u,own_setBlk h.i hp h1 u,own_setBlk h.l hp h1 u,h.oi,h.ol,h.il⟩
def WI.cs (x:WI):List Value:=rowCs x.r x.m x.o x.i x.l
def WI.Far (x y:WI):Prop:= ∀u∈[x.m,x.o,x.i,x.l],∀v∈[y.m,y.o,y.i,y.l],Apart u v
theorem WI.far_of {B:Nat} {z x:WI} {A A':World} (h:z.Px B A) (h':x.Px A.heap.size A'):z.Far x:=by
 intro u hu v hv;simp only[List.mem_cons,List.not_mem_nil,or_false]at hu hv;rcases hu with rfl|rfl|rfl|rfl<;>rcases hv with rfl|rfl|rfl|rfl
 ·exact apart_of h.1.m h'.1.m (Nat.le_refl _)
 ·exact apart_of h.1.m h'.1.o (Nat.le_refl _)
 ·exact apart_of h.1.m h'.1.i (Nat.le_refl _)
 ·exact apart_of h.1.m h'.1.l (Nat.le_refl _)
 ·exact apart_of h.1.o h'.1.m (Nat.le_refl _)
 ·exact apart_of h.1.o h'.1.o (Nat.le_refl _)
 ·exact apart_of h.1.o h'.1.i (Nat.le_refl _)
 ·exact apart_of h.1.o h'.1.l (Nat.le_refl _)
 ·exact apart_of h.1.i h'.1.m (Nat.le_refl _)
 ·exact apart_of h.1.i h'.1.o (Nat.le_refl _)
 ·exact apart_of h.1.i h'.1.i (Nat.le_refl _)
 ·exact apart_of h.1.i h'.1.l (Nat.le_refl _)
 ·exact apart_of h.1.l h'.1.m (Nat.le_refl _)
 ·exact apart_of h.1.l h'.1.o (Nat.le_refl _)
 ·exact apart_of h.1.l h'.1.i (Nat.le_refl _)
 ·exact apart_of h.1.l h'.1.l (Nat.le_refl _)
def RowsI (B p:Nat) (xs:List WI) (W:World):Prop:=
 ∃vv,Blk W p 39 #[vv]∧W.ownsRow B 58 17 vv xs.length (xs.flatMap WI.cs)∧(∀z∈xs,z.Px B W)∧xs.Pairwise WI.Far
theorem RowsI.own {B p B0:Nat}:OwnFrom B0 (RowsI B p):=by
 rintro xs W W' row ⟨vv,h1,h2,h3,h4⟩ hg hr;have hc: ∀(g:Nat) (cs:Array Value) (t:TypeId),Blk W g t cs→some g≠row:=fun g cs t hb e=>by
  obtain⟨_,o,ho,hn⟩:=hr g e.symm;rw[show W.heap[g]? =some (.cells cs t (0,0))from hb]at ho;injection ho with ho
  subst ho;cases hn
 have hk: ∀{b s n:Nat} {e:TypeId} {v:Value} {ys:List Value},W.ownsRow b e s v n ys→W'.ownsRow b e s v n ys:=fun {b s n e v ys} ho=>by
  refine ho.kept hg ?_;rcases ho.2 with⟨rfl,_⟩|⟨g,cap,cur,rfl,_,hgg,_⟩
  ·exact .inl rfl
  ·exact .inr (hc g cur e hgg)
 exact⟨vv,h1.grown hg (hc _ _ _ h1),hk h2,fun z hz=>⟨⟨hk (h3 z hz).1.m,hk (h3 z hz).1.o,hk (h3 z hz).1.i,hk (h3 z hz).1.l,(h3 z hz).1.oi,(h3 z hz).1.ol,(h3 z hz).1.il⟩,(h3 z hz).2⟩,h4⟩
theorem abides_of {α:Type} {B:Nat} {I:α→World→Prop} (h:OwnFrom B I) (x:α):Abides B (I x):=fun A l o o' hp hl ho hn=>OwnFrom.putObj h o' hp hl ho hn
theorem WI.Px_own {B B0:Nat}:OwnFrom B0 (WI.Px B):=by
 rintro x W W' row h1 hg hr;have hk: ∀{b s n:Nat} {e:TypeId} {v:Value} {ys:List Value},W.ownsRow b e s v n ys→W'.ownsRow b e s v n ys:=fun {b s n e v ys} ho=>by
  refine ho.kept hg ?_;rcases ho.2 with⟨rfl,_⟩|⟨g,cap,cur,rfl,_,hgg,_⟩
  ·exact .inl rfl
  ·refine .inr fun e=>?_
   obtain⟨_,o,ho',hn⟩:=hr g e.symm;rw[hgg]at ho';injection ho' with ho'
   subst ho';cases hn
 exact⟨⟨hk h1.1.m,hk h1.1.o,hk h1.1.i,hk h1.1.l,h1.1.oi,h1.1.ol,h1.1.il⟩,h1.2⟩
theorem KeptW.putObj {B:Nat} (W:World) (l:Nat) (o o':Obj) (hB:B≤l) (hl:W.heap[l]? =some o) (ho:o.isCells=false) (_:o.isWalk=false):KeptW B W (W.putObj l o'):=by
 have hk: ∀t,KeepT t W (W.putObj l o'):=fun t g cs hb=>by
  refine hb.grown (grownBy_putObj' W l o') ?_;intro e;injection e with e
  subst e;rw[show W.heap[g]? =some (.cells cs t (0,0))from hb]at hl;injection hl with hl
  subst hl;cases ho
 exact⟨⟨(Below.refl _ W).grown (grownBy_putObj' W l o') (Nat.le_trans hB (Nat.le_of_lt (Array.getElem?_eq_some_iff.1 hl).1)) (fun k e=>by injection e with e;omega),hk _⟩,hk _⟩
theorem keepT_own {w w':World} {b:Nat} {e t:TypeId} {size n:Nat} {v:Value} {xs:List Value} (h:w.ownsRow b e size v n xs) (hg:w.grownBy w' v.ownBlock) (hne:e≠t):KeepT t w w':=
 fun g cs hb=>hb.grown hg (own_blk_ne h hb hne).symm
theorem keepsFrom_below {B:Nat} {W W':World} (h:Below W.heap.size W W'):KeepsFrom B W W':=⟨h.size,fun k o _ hk _=>(h.block k (Array.getElem?_eq_some_iff.1 hk).1).trans hk⟩
theorem keepsFrom_own {B b n:Nat} {e:TypeId} {size:Nat} {W W':World} {vv:Value} {xs:List Value} (h:W.ownsRow b e size vv n xs) (hg:W.grownBy W' vv.ownBlock):KeepsFrom B W W':=by
 refine⟨hg.size,fun k o _ hk ho=>(hg.block k (Array.getElem?_eq_some_iff.1 hk).1 ?_).trans hk⟩;intro e';rcases h.2 with⟨rfl,_⟩|⟨g,cap,cur,rfl,_,hgg,_⟩
 ·simp[Value.ownBlock]at e'
 ·simp[Value.ownBlock]at e';subst e';rw[hgg]at hk;injection hk with hk
  subst hk;cases ho
theorem keepsFrom_set {B p i:Nat} {W:World} {t:TypeId} {cs:Array Value} (h:Blk W p t cs) (u:Value):KeepsFrom B W (W.setCell ⟨p,i,none⟩ u):=by
 refine⟨by simp,fun k o _ hk ho=>?_⟩;rw[Below.heap_setCell W ⟨p,i,none⟩ u k ?_]
 ·exact hk
 ·show k≠p;intro e;rw[e]at hk;rw[show W.heap[p]? =some (.cells cs t (0,0))from h]at hk;injection hk with hk
  subst hk;cases ho
theorem KeptW.of_below {B:Nat} {W W':World} (hB:B≤W.heap.size) (h:Below W.heap.size W W'):KeptW B W W':=⟨Kept.of_below hB h,KeepT.of_below h⟩
theorem WI.Px.below {B:Nat} {x:WI} {W W':World} (h:x.Px B W) (hb:Below W.heap.size W W'):x.Px B W':=⟨h.1.below hb,h.2⟩
theorem RowsI.below {B p:Nat} {xs:List WI} {W W':World} (h:RowsI B p xs W) (hb:Below W.heap.size W W'):RowsI B p xs W':=by
 obtain⟨vv,h1,h2,h3,h4⟩:=h;exact⟨vv,h1.below hb h1.lt,own_belowE h2 hb,fun z hz=>(h3 z hz).below hb,h4⟩
theorem rows_fin {B B0 p:Nat} {w W W3:World} {pre:List WI} {x:WI} {vv v3:Value} (h1:Blk W p 39 #[vv]) (h2:W.ownsRow B 58 17 vv pre.length (pre.flatMap WI.cs)) (h3: ∀z∈pre,z.Px B W) (hbw:Below B w W) (hB:B≤p) (hpx:x.Px B W) (h4:pre.Pairwise WI.Far) (h5: ∀z∈pre,z.Far x)
  (ho3:W3.ownsRow B 58 17 v3 (pre.length+1) (pre.flatMap WI.cs++x.cs)) (hg3:W.grownBy W3 vv.ownBlock):
  KeepsFrom B0 W (W3.setCell ⟨p,0,none⟩ v3)∧KeptW B W (W3.setCell ⟨p,0,none⟩ v3)∧RowsI B p (pre++[x]) (W3.setCell ⟨p,0,none⟩ v3)∧Below B w (W3.setCell ⟨p,0,none⟩ v3):=by
 have hz:Blk W3 p 39 #[vv]:=h1.grown hg3 (own_blk_ne h2 h1 (by decide)).symm;have hk: ∀t,58≠t→39≠t→KeepT t W (W3.setCell ⟨p,0,none⟩ v3):=fun t ht ht' g cs hb=>((keepT_own h2 hg3 ht) g cs hb).far (by rintro rfl;exact Blk.ne_ ((keepT_own h2 hg3 ht) _ cs hb) hz (Ne.symm ht') rfl) _
 have hbB:Below B W W3:=(Below.refl B W).grown hg3 (Nat.le_trans hB (Nat.le_of_lt h1.lt)) (fun q hq=>(h2.lt q hq).1);have hpush: ∀z:WI,z.Px B W→z.Px B (W3.setCell ⟨p,0,none⟩ v3):=fun z h=>⟨(h.1.push h2 hg3).set_ hz (by decide) (by decide),h.2⟩
 refine⟨(keepsFrom_own h2 hg3).trans (keepsFrom_set hz _),⟨⟨hbB.setCell (p:=⟨p,0,none⟩) hB _,hk _ (by decide) (by decide)⟩,hk _ (by decide) (by decide)⟩,⟨v3,?_,?_,?_,?_⟩,(hbw.trans hbB).setCell (p:=⟨p,0,none⟩) hB _⟩
 ·have:=hz.set_ 0 v3;simpa using this
 ·rw[List.flatMap_append,List.length_append];exact own_setBlk (by simpa using ho3) hz (by decide) v3
 ·intro z hz';rcases List.mem_append.1 hz' with hz'|hz'
  ·exact hpush z (h3 z hz')
  ·rw[List.mem_singleton.1 hz'];exact hpush x hpx
 ·exact List.pairwise_append.2 ⟨h4,List.pairwise_singleton _ _,fun z hz y hy=>by rw[List.mem_singleton.1 hy];exact h5 z hz⟩
def RowsPost (w:World) (L:List (Nat×PR)) (e:Ending) (w':World):Prop:=
 ∃(vv:Value) (xs:List WI),e= .returned vv∧xs.map WI.key=L∧w'.ownsRow w.heap.size 58 17 vv xs.length (xs.flatMap WI.cs)∧(∀z∈xs,z.Px w.heap.size w')∧xs.Pairwise WI.Far∧Below w.heap.size w w'
theorem own_kept {W W':World} {row:Option Nat} {b s n B0:Nat} {e:TypeId} {v:Value} {ys:List Value} (ho:W.ownsRow b e s v n ys) (hg:W.grownBy W' row) (hr: ∀r,row=some r→B0≤r∧ ∃o:Obj,W.heap[r]? =some o∧o.isCells=false):W'.ownsRow b e s v n ys:=by
 refine ho.kept hg ?_;rcases ho.2 with⟨rfl,_⟩|⟨g,cap,cur,rfl,_,hgg,_⟩
 ·exact .inl rfl
 ·refine .inr fun e=>?_
  obtain⟨_,o,ho',hn⟩:=hr g e.symm;rw[hgg]at ho';injection ho' with ho'
  subst ho';cases hn
theorem RowsPost.own {w:World} {B0:Nat} {L:List (Nat×PR)} (hB:w.heap.size≤B0):OwnFrom B0 (RowsPost w L):=by
 rintro e W W' row ⟨vv,xs,h1,h2,h3,h4,h6,h5⟩ hg hr;exact⟨vv,xs,h1,h2,own_kept h3 hg hr,fun z hz=>WI.Px_own z W W' row (h4 z hz) hg hr,h6,h5.grown hg h5.size fun k e=>Nat.le_trans hB (hr k e).1⟩
theorem info_row3:(Tryz.prog.info? 58).map (fun i=>(i.zero,i.size,i.bytes))=some (some (.agg zc),17,240):=by kernel_rfl
theorem blk_own {B g:Nat} {t:TypeId} {cs:Array Value}:OwnFrom B (fun(_:Unit) W=>Blk W g t cs):=by
 rintro _ W W' row h hg hr;refine Blk.grown h hg fun e=>?_
 obtain⟨_,o,ho,hn⟩:=hr g e.symm;rw[show W.heap[g]? =some (.cells cs t (0,0))from h]at ho;injection ho with ho
 subst ho;cases hn
theorem below_own {α:Type} {B B0:Nat} {w:World} (h:B≤B0) (hB:B≤w.heap.size):OwnFrom B0 (fun(_:α) W=>Below B w W):=by
 rintro _ W W' row hb hg hr;exact hb.grown hg (Nat.le_trans hB hb.size) fun k e=>Nat.le_trans h (hr k e).1
theorem one17 (x:WI) {B:Nat} {W:World} (h:x.Px B W): ∀u∈[.int .i64 x.r.kind,.int .i64 x.r.kids,.string x.r.op,.string x.r.text,x.m,.string x.r.dur,.string x.r.step,.string x.r.off,.string x.r.tim,.bool x.r.bool,.bool x.r.given,.bool x.r.on,x.o,.int .i64 x.r.card,x.i,.bool x.r.without,x.l],u.oneCell'=true:=by
 obtain⟨a1,n1,c1,e1⟩:=own_sl h.1.m;obtain⟨a2,n2,c2,e2⟩:=own_sl h.1.o;obtain⟨a3,n3,c3,e3⟩:=own_sl h.1.i;obtain⟨a4,n4,c4,e4⟩:=own_sl h.1.l;rw[e1,e2,e3,e4];intro u hu;simp only[List.mem_cons,List.not_mem_nil,or_false]at hu;rcases hu with rfl|rfl|rfl|rfl|rfl|rfl|rfl|rfl|rfl|rfl|rfl|rfl|rfl|rfl|rfl|rfl|rfl<;>rfl
attribute [local go_sem] Oper.semAt_some
theorem tree_Rows {b:Nat} {w:World} {v:Value} {L:List (Nat×PR)} (h:RootAt b w v L) (hL:L.length≤4294967296) (hR: ∀x∈L,LenOK x.2):
  Calls Tryz.prog 29 #[.agg #[v]] w (RowsPost w L):=by
 have hb3:Below w.heap.size w (((w.alloc (.cells #[v] 26)).alloc (.cells #[.slice none 0 0] 39)).alloc (.cells #[v] 26)):=(((Below.refl _ w).alloc (Nat.le_refl _) _).alloc (by simp) _).alloc (by simp;omega) _;have hc2:=(Blk.new ((w.alloc (.cells #[v] 26)).alloc (.cells #[.slice none 0 0] 39)) 26 #[v]);have hc1:=(Blk.new (w.alloc (.cells #[v] 26)) 39 #[.slice none 0 0]).alloc (.cells #[v] 26);simp only[World.size_alloc]at hc1 hc2;have hs:=fun n=>walk_stops h hb3 (hc2.cell 0) (by simp) hR (by omega) n
 have HS:=Lib.hid hs;have HB3:=Lib.hid hb3;have HC1:=Lib.hid hc1;have HL:=Lib.hid hL;clear h hL hR hb3 hc1 hc2 hs;refine(callsIn_wide (n:=5)).1 ?_;refine callsIn_of_wp_marks Tryz.func29 rfl trivial ?_ rfl;simp only[Tryz.ntmps29,List.size_toArray,List.length_cons,List.length_nil,Nat.reduceAdd,Nat.reduceSub,Array.replicate_succ,Array.replicate_zero,List.push_toArray,List.append_toArray,List.nil_append,List.cons_append]
 gi_wp2_with fail
 refine⟨trivial,?_⟩;refine(callsIn_wide.2 (tree_Walk v _)).mono ?_;rintro e w' ⟨rfl,rfl⟩
 gi_wp2_with fail
 refine wp_rangeStops rfl (by omega) (gf:=66) (lb:=#[.pointer (some ⟨w.heap.size+1+1,0,none⟩)]) rfl trivial (enters_of Tryz.func66 (by kernel_rfl) rfl) (by have:=HS.out 4;simpa using this)
  (fun xs A l o o' h _ _ _=>h) (fun xs A l o o' h _ _ _=>h) (fun h k=>h.trans k) (fun W l o o' hl=>KeptW.putObj W l o o' (Nat.le_trans HB3.out.size hl)) (fun _=>rfl)
  (fun pre W=>RowsI w.heap.size (w.heap.size+1) pre W∧Below w.heap.size w W) (fun _ _ _=>False)
  (RowsI.own.and (below_own (by simp;omega) (Nat.le_refl _))) (fun _ _ _ _ _ hs _ _=>hs) ⟨⟨_,HC1.out,World.ownsRow_nil _ _ _ _,fun z hz=>(by cases hz),List.Pairwise.nil⟩,HB3.out⟩
  (fun pre x a' W=>((RowsI w.heap.size (w.heap.size+1) pre W∧Below w.heap.size w W)∧x.Px w.heap.size W)∧(∀z∈pre,z.Far x)∧ ∃g,a'={tmps:=#[.agg #[v],.pointer (some ⟨w.heap.size,0,none⟩),.slice none 0 0,.pointer (some ⟨w.heap.size+1,0,none⟩),undef,.pointer (some ⟨g,0,none⟩),.agg #[v],.func (.func 66) #[] #[.pointer (some ⟨w.heap.size+1+1,0,none⟩)],.int .i64 (x.d:Int),.agg #[.int .i64 x.r.kind,.int .i64 x.r.kids,.string x.r.op,.string x.r.text,x.m,.string x.r.dur,.string x.r.step,.string x.r.off,.string x.r.tim,.bool x.r.bool,.bool x.r.given,.bool x.r.on,x.o,.int .i64 x.r.card,x.i,.bool x.r.without,x.l],undef,undef,undef,undef,undef],defers:=[]}∧Blk W g 58 #[.int .i64 x.r.kind,.int .i64 x.r.kids,.string x.r.op,.string x.r.text,x.m,.string x.r.dur,.string x.r.step,.string x.r.off,.string x.r.tim,.bool x.r.bool,.bool x.r.given,.bool x.r.on,x.o,.int .i64 x.r.card,x.i,.bool x.r.without,x.l]) ?absx ?assign ?body ?done ?stop
 case absx=>
  rintro pre x a' A l o o' ⟨⟨h1,h2⟩,h3,g,h4,h5⟩ hl ho hn;exact⟨⟨abides_of (RowsI.own.and (below_own (by simp;omega) (Nat.le_refl _))) pre A l o o' h1 hl ho hn,abides_of WI.Px_own x A l o o' h2 hl ho hn⟩,h3,g,h4,abides_of blk_own () A l o o' h5 hl ho hn⟩
 case stop=>
  rintro D c pre W _ _ h _;exact h.elim
 case assign=>
  rintro l pre x W0 W K hok ⟨hI,hbw⟩ hbA hpx hK;have HI:=Lib.hid (And.intro (hI.below hbA) (And.intro (hbw.trans (hbA.mono hbw.size)) (show x.Px w.heap.size W from⟨hpx.1.lo hbw.size,hpx.2⟩)));have HFA:Hid (∀z∈pre,z.Far x):=Lib.hid (by obtain⟨_,_,_,h3,_⟩:=hI;exact fun z hz=>WI.far_of (h3 z hz) hpx);clear hI hbw hpx hbA hok;simp only[WI.encs,rowV];have h17:=List.all_eq_true.2 (one17 x HI.out.2.2)
  gi_wp2_with (refine wpListIn_store_blk rfl 58 (.tmp 5) (.tmp 9) rfl W.heap.size #[.int .i64 x.r.kind,.int .i64 x.r.kids,.string x.r.op,.string x.r.text,x.m,.string x.r.dur,.string x.r.step,.string x.r.off,.string x.r.tim,.bool x.r.bool,.bool x.r.given,.bool x.r.on,x.o,.int .i64 x.r.card,x.i,.bool x.r.without,x.l] rfl rfl (Blk.new W 58 zc) (by kernel_rfl) rfl h17 ?_;intro W2 hb2 hg2;have HB2:=Lib.hid (And.intro hb2 hg2);clear hb2 hg2)
  have hbl:Below W.heap.size W W2:=below_grow ((Below.refl _ W).alloc (Nat.le_refl _) _) HB2.out.2 (by simp) (Nat.le_refl _);exact hK _ _ (keepsFrom_below hbl) (KeptW.of_below HI.out.2.1.size hbl) ⟨⟨⟨HI.out.1.below hbl,HI.out.2.1.trans (hbl.mono HI.out.2.1.size)⟩,HI.out.2.2.below hbl⟩,HFA.out,_,rfl,HB2.out.1⟩
 case body=>
  rintro l pre x a' W hok ⟨⟨⟨⟨vv,h1,h2,h3,h4⟩,hbw⟩,hpx⟩,h5,g,rfl,hg⟩;have hlen:pre.length+1≤4294967296:=by
   have:=hok.length_le;have:=HL.out;simp only[List.length_map,List.length_append,List.length_cons,List.length_nil]at*
   omega
  have c0:W.cell? ⟨w.heap.size+1,0,none⟩=some vv:=h1.cell 0;have h17:=one17 x hpx;have HF:Hid (∀v3 W3,_→_→_):=Lib.hid fun v3 W3 ho3 hg3=>rows_fin (B0:=(((w.alloc (.cells #[v] 26)).alloc (.cells #[.slice none 0 0] 39)).alloc (.cells #[v] 26)).heap.size) (v3:=v3) (W3:=W3) h1 h2 h3 hbw (Nat.le_succ _) hpx h4 h5 ho3 hg3
  have HZ:Hid (∀W3,W.grownBy W3 vv.ownBlock→Blk W3 (w.heap.size+1) 39 #[vv]):=Lib.hid fun W3 hg3=>h1.grown hg3 (own_blk_ne h2 h1 (by decide)).symm
  have H2:=Lib.hid h2;have HG:=Lib.hid hg;have HBW:Hid (w.heap.size≤W.heap.size):=Lib.hid hbw.size;clear h1 h2 h3 h4 h5 hbw hpx hg hok
  gi_wp2_with (first
   |(refine wpListIn_load_blk rfl 58 (.tmp 5) rfl g rfl HG.out Tryz.underlying58 (by kernel_rfl) ?_)
   |(refine wpListIn_push2 rfl (.tmp 10) (.tmp 12) 39 rfl w.heap.size 58 _ 17 240 info_row3 Tryz.underlying39 rfl (by decide) _ pre.length (pre.flatMap WI.cs) rfl H2.out [.int .i64 x.r.kind,.int .i64 x.r.kids,.string x.r.op,.string x.r.text,x.m,.string x.r.dur,.string x.r.step,.string x.r.off,.string x.r.tim,.bool x.r.bool,.bool x.r.given,.bool x.r.on,x.o,.int .i64 x.r.card,x.i,.bool x.r.without,x.l] rfl rfl h17 (by unfold maxLen;omega) (by omega) HBW.out ?_;intro v3 W3 ho3 hg3 _;have HO3:=Lib.hid ho3;have HG3:=Lib.hid hg3;obtain⟨a3,n3,c3,hv3⟩:=own_sl ho3;subst hv3;have k3:=(HZ.out _ hg3).cell 0;have f3:=(HZ.out _ hg3).frozen 0;simp at k3;clear ho3 hg3))
  exact HF.out _ _ HO3.out HG3.out
 case done=>
  rintro D xs W hD hxs ⟨⟨vv,h1,h2,h3,h4⟩,hbw⟩ hK;have c0:W.cell? ⟨w.heap.size+1,0,none⟩=some vv:=h1.cell 0;have HP:Hid (RowsPost w L (.returned vv) W):=Lib.hid ⟨vv,xs,rfl,hxs,h2,h3,h4,hbw⟩;clear h1 h2 h3 h4 hbw
  gi_wp2_with fail
  refine⟨by simp,.inl ⟨_,_,rfl,run_takeDeferred hK,?_⟩⟩;refine⟨_,results_tmp (show Tryz.f29.results= #[.tmp 2]from rfl) _ _ _,?_⟩;exact OwnFrom.putObj (RowsPost.own HB3.out.size) _ HP.out hD hK rfl
end Go.Proofs.YtibcjfjacielbaaGreatDoor
