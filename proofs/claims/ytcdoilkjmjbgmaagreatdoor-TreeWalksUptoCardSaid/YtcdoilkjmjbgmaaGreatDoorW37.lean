import Derived.Test.YtcdoilkjmjbgmaaGreatDoorW00
import Derived.RangeFuncNested
import Derived.RangeFuncBound
import Derived.RangeFuncCalls
import Derived.RangeFuncLeaves
import Derived.WalkKit
import Derived.WalkSpells
import Derived.WalkLawsBesides
import Derived.Lib.Hide
/- Part of the proof of YtcdoilkjmjbgmaaGreatDoorCardX: Rng. -/
set_option maxRecDepth 100000
set_option maxHeartbeats 4000000
set_option linter.unusedVariables false
set_option linter.unusedSimpArgs false
namespace Go.Proofs.YtcdoilkjmjbgmaaGreatDoor
open Go.RowKit
variable {w w':World} {n:Nat} {P:Program} {Q:Exit→Act→World→Prop} {a:Act}
def aa9 {α:Type} (F:Fence) (n:Nat) (P:Program) (g:Nat) (lb:Array Value) (DK:α→Array Value) (Ok:List α→Prop) (Px:Nat→α→World→Prop) (Kp:World→World→Prop) (S Sp:List α→World→Prop) (w:World):Prop:=
 ∀(l:Nat) (J Jx:List α→World→Prop) (W:World),Below w.heap.size w W→(∀s A B,J s A→Below A.heap.size A B→J s B)→(∀s A B,Jx s A→Below A.heap.size A B→Jx s B)→
  (∀pre x A0 A,Ok (pre++[x])→J pre A0→Below A0.heap.size A0 A→Px A0.heap.size x A→YieldAt F (n-1) P l (DK x) A fun e B=>(e= .returned (.bool true)∧J (pre++[x]) B∧Kp A B)∨(e= .returned (.bool false)∧Jx (pre++[x]) B))→
  J [] W→
  CallsIn F n P g (#[.func (.yield l) #[] #[]]++lb) W fun e B=>(∃v,e= .returned v)∧((∃xs,S xs B∧J xs B)∨(∃pre,Sp pre B∧Jx pre B))
theorem below_grown (h:Below w.heap.size w w'):w.grownBy w' none:=⟨h.os,h.tape,h.output,h.size,fun i hi _=>h.block i hi⟩
def Abides (B:Nat) (p:World→Prop):Prop:= ∀(A:World) (l:Nat) (o o':Obj),p A→B≤l→A.heap[l]? =some o→o.isCells=false→p (A.putObj l o')
theorem D6 {F:Fence} {α:Type} {g:Operand} {ps:Array Tmp} {assign body:Code} 
  (XO:F.round=none) (h1:1≤n) {gf:Nat} {lb:Array Value} (hg:a.eval g= .func (.func gf) #[] lb) (hFg:F.fn gf) (eg: ∀args w,(callFunc gf args).run P w= .ok (.enter gf args) w)
  {DK:α→Array Value} {Ok:List α→Prop} {Px:Nat→α→World→Prop} {Kp:World→World→Prop} {S Sp:List α→World→Prop} (al8:aa9 F (n-1) P gf lb DK Ok Px Kp S Sp w)
  (hS: ∀xs,Abides w.heap.size (S xs)) (hSp: ∀xs,Abides w.heap.size (Sp xs))
  (hKt: ∀{A B C:World},Kp A B→Kp B C→Kp A C) (hKb: ∀(W:World) (l:Nat) (o o':Obj),w.heap.size≤l→W.heap[l]? =some o→o.isCells=false→o.isWalk=false→Kp W (W.putObj l o')) (Lb: ∀x,(DK x).size=ps.size)
  (I:List α→World→Prop) (Ix:Code→List α→World→Prop) (hI:OwnFrom w.heap.size I) (hIx: ∀c,OwnFrom w.heap.size (Ix c)) (h0:I [] w) (Ax:List α→α→Act→World→Prop) (hAx: ∀pre x a',Abides w.heap.size (Ax pre x a'))
  (Zm: ∀(l:Nat) (pre:List α) (x:α) (W0 W:World) (K:Act→World→Prop),Ok (pre++[x])→I pre W0→Below W0.heap.size W0 W→Px W0.heap.size x W→(∀a' W',KeepsFrom w.heap.size W W'→Kp W W'→Ax pre x a' W'→K a' W')→
   assign.wpIn (F.inRound l) (n-1-1) P (Exit.then K (fun _ _ _=>False)) {tmps:=(ps.zip (DK x)).foldl (fun t (p,v)=>t.setIfInBounds p v) a.tmps,defers:=[]} W)
  (agV: ∀(l:Nat) (pre:List α) (x:α) (a':Act) (W:World),Ok (pre++[x])→Ax pre x a' W→body.wpIn (F.inRound l) (n-1-1) P (ownPostG w.heap.size Kp I Ix (pre++[x]) W) a' W)
  (agW: ∀(D:Nat) (xs:List α) (W:World),w.heap.size≤D→S xs W→I xs W→W.heap[D]? =some (.deferred (some []))→Q .normal {a with defers:={target:=.collected D,args:=#[]}::a.defers} W)
  (agX: ∀(D:Nat) (c:Code) (pre:List α) (W:World),w.heap.size≤D→Sp pre W→Ix c pre W→W.heap[D]? =some (.deferred (some []))→c.wpIn F n P Q {a with defers:={target:=.collected D,args:=#[]}::a.defers} W):
  (Code.rangeFunc g ps assign body).wpIn F n P Q a w:=by
 refine wpIn_rangeFunc ?_;intro fn hfn;rw[XO];obtain⟨rec,DL⟩: ∃rec:LoopState→Option Code→Loop,rec=fun st pe=>{state:=st,pending:=pe,fn,tmps:=a.tmps,params:=ps,assign,body,defers:=w.heap.size}:=⟨_,rfl⟩
 obtain⟨V,hV⟩: ∃V,(w.alloc (.deferred (some []))).alloc (.loop (rec .ready none))=V:=⟨_,rfl⟩;have hVl:V.heap[w.heap.size+1]? =some (.loop (rec .ready none)):=by
  rw[←hV];have:=World.alloc_heap_new (w.alloc (.deferred (some []))) (.loop (rec .ready none));rwa [World.size_alloc]at this
 have hVd:V.heap[w.heap.size]? =some (.deferred (some [])):=by
  rw[←hV];exact(Below.heap_alloc _ _ _ (by simp)).trans (World.alloc_heap_new w _)
 have hVi:I [] V:=by rw[←hV];exact hI.alloc _ (hI.alloc _ h0)
 have hVb:Below w.heap.size w V:=by rw[←hV];exact((aS _ w).alloc (aP _) _).alloc (by simp) _
 have fN: ∀{A B:World} {k:Nat} {o:Obj},Below A.heap.size A B→A.heap[k]? =some o→B.heap[k]? =some o:=fun hb hk=>(hb.block _ (u7.1 hk).1).trans hk
 refine⟨w.heap.size+1,[{target:=.collected w.heap.size,args:=#[]}],V,{target:=.fn (.func gf) lb,args:=#[.func (.yield (w.heap.size+1)) #[] #[]]},V,gf,
  #[.func (.yield (w.heap.size+1)) #[] #[]]++lb,V,?_,?_,?_,?_,fun _=>h1,?_⟩
 ·rw[←hV,DL];exact run_enterLoop_outer _ _ _ _ _
 ·simp only[resolve,hg];simp[go_sem]
 ·intro f' hf';simp[Target.leads]at hf';subst hf';exact hFg
 ·simp[invoke,go_sem,eg]
 ·refine(al8 (w.heap.size+1)
   (fun pre A=>I pre A∧A.heap[w.heap.size+1]? =some (.loop (rec .ready none))∧A.heap[w.heap.size]? =some (.deferred (some [])))
   (fun pre A=> ∃c,Ix c pre A∧A.heap[w.heap.size+1]? =some (.loop (rec .done (some c)))∧A.heap[w.heap.size]? =some (.deferred (some [])))
   V hVb
   (fun s A B hs hb=>⟨hI s A B none hs.1 (below_grown hb) (fun r e=>by cases e),fN hb hs.2.1,fN hb hs.2.2⟩)
   (fun s A B hs hb=>by
    obtain⟨c,hc,hl,hk⟩:=hs;exact⟨c,hIx c s A B none hc (below_grown hb) (fun r e=>by cases e),fN hb hl,fN hb hk⟩)
   ?_ ⟨hVi,hVl,hVd⟩).mono ?_
  ·rintro pre x A0 A cC ⟨hi,hl0,lI⟩ S8 LH;have hl:=fN S8 hl0;have hk:=fN S8 lI;have hy:=run_yield (P:=P) (args:=DK x) hl (by rw[DL];exact Lb x);rw[DL]at hy;refine⟨fn,_,assign,body,hy,roundIn_of_wpIn hfn (Zm _ pre x A0 A _ cC hi S8 LH ?_)⟩;clear hy;intro a' B hkf hkp hax;have Hr:=hkf.same _ _ (by omega) hl rfl;have jJ:=hkf.same _ _ (aP _) hk rfl;have au:=(u7.1 Hr).1;refine⟨_,run_beginRound Hr (by rw[DL]),?_⟩;have Ar:(B.putObj (w.heap.size+1) (.loop {rec .ready none with state:=.busy})).heap[w.heap.size+1]? =some (.loop {rec .ready none with state:=.busy}):=World.putObj_heap_same au;have zM:(B.putObj (w.heap.size+1) (.loop {rec .ready none with state:=.busy})).heap[w.heap.size]? =some (.deferred (some [])):=(World.putObj_heap_other (by omega)).trans jJ;have AJ:Kp B (B.putObj (w.heap.size+1) (.loop {rec .ready none with state:=.busy})):=hKb _ _ _ _ (by omega) Hr rfl rfl;refine wpIn_mono (agV _ pre x a' _ cC (hAx pre x a' _ _ _ _ hax (by omega) Hr rfl)) ?_;have fin: ∀(jump:Option Code) (C:World),KeepsFrom w.heap.size (B.putObj (w.heap.size+1) (.loop {rec .ready none with state:=.busy})) C→
     (Instr.endRound (w.heap.size+1) jump).run P C= .ok (.bool jump.isNone) (C.putObj (w.heap.size+1) (.loop (rec (if jump.isNone then .ready else .done) jump)))∧
     C.heap[w.heap.size+1]? =some (.loop {rec .ready none with state:=.busy})∧
     (C.putObj (w.heap.size+1) (.loop (rec (if jump.isNone then .ready else .done) jump))).heap[w.heap.size+1]? =some (.loop (rec (if jump.isNone then .ready else .done) jump))∧
     (C.putObj (w.heap.size+1) (.loop (rec (if jump.isNone then .ready else .done) jump))).heap[w.heap.size]? =some (.deferred (some [])):=fun jump C Sg=>by
    have PT:=Sg.same _ _ (by omega) Ar rfl;have hr:=run_endRound (P:=P) jump PT;rw[DL]at hr ⊢
    exact⟨hr,by rw[DL]at PT;exact PT,World.putObj_heap_same (u7.1 PT).1,(World.putObj_heap_other (by omega)).trans (Sg.same _ _ (aP _) zM rfl)⟩
   rintro e a3 C hp;cases e with
   |normal=>
    obtain⟨Sg,al9,PB⟩:=hp;obtain⟨hr,PT,hl4,u6⟩:=fin none C Sg;exact⟨_,_,hr,.inl ⟨rfl,⟨hI.putObj _ PB (by omega) PT rfl,hl4,u6⟩,hKt hkp (hKt (hKt AJ al9) (hKb _ _ _ _ (by omega) PT rfl rfl))⟩⟩
   |ret=>
    obtain⟨Sg,PB⟩:=hp;obtain⟨hr,PT,hl4,u6⟩:=fin (some .ret) C Sg;exact⟨_,_,hr,.inr ⟨rfl,.ret,(hIx _).putObj _ PB (by omega) PT rfl,hl4,u6⟩⟩
   |exit id=>
    obtain⟨Sg,PB⟩:=hp;obtain⟨hr,PT,hl4,u6⟩:=fin (some (.exit id)) C Sg;exact⟨_,_,hr,.inr ⟨rfl,.exit id,(hIx _).putObj _ PB (by omega) PT rfl,hl4,u6⟩⟩
   |goto t=>
    obtain⟨Sg,PB⟩:=hp;obtain⟨hr,PT,hl4,u6⟩:=fin (some (.goto t)) C Sg;exact⟨_,_,hr,.inr ⟨rfl,.goto t,(hIx _).putObj _ PB (by omega) PT rfl,hl4,u6⟩⟩
   |panic ch=>exact hp.elim
   |outgrown=>exact hp.elim
  ·rintro e C ⟨⟨v,rfl⟩,(⟨xs,hs,hi,hl,hk⟩|⟨pre,hs,c,hi,hl,hk⟩)⟩
   ·exact⟨none,_,by have hr:=run_endLoop (P:=P) hl (by rw[DL];simp);rw[DL]at hr;exact hr,agW _ xs _ (aP _) (hS xs _ _ _ _ hs (by omega) hl rfl) (hI.putObj _ hi (by omega) hl rfl) ((World.putObj_heap_other (by omega)).trans hk)⟩
   ·exact⟨some c,_,by have hr:=run_endLoop (P:=P) hl (by rw[DL];simp);rw[DL]at hr;exact hr,agX _ c pre _ (aP _) (hSp pre _ _ _ _ hs (by omega) hl rfl) ((hIx c).putObj _ hi (by omega) hl rfl) ((World.putObj_heap_other (by omega)).trans hk)⟩
