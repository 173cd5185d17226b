import Derived.Test.YtcdoilkjmjbgmaaGreatDoorS00
import Derived.RangeFuncNested
import Derived.RangeFuncBound
import Derived.RangeFuncCalls
import Derived.RangeFuncLeaves
import Derived.WalkKit
import Derived.WalkSpells
import Derived.WalkLawsBesides
import Derived.Lib.Hide
/- Part of the proof of YtcdoilkjmjbgmaaGreatDoorCardY: Rng. -/
set_option maxRecDepth 100000
set_option maxHeartbeats 4000000
set_option linter.unusedVariables false
set_option linter.unusedSimpArgs false
namespace Go.Proofs.YtcdoilkjmjbgmaaGreatDoor
open Go.RowKit
variable {w w':World} {n:Nat} {P:Program} {Q:Exit→Act→World→Prop} {a:Act}
def ω {α:Type} (F:Fence) (n:Nat) (P:Program) (g:Nat) (lb:Array Value) (Dw:α→Array Value) (Ok:List α→Prop) (Px:Nat→α→World→Prop) (Kp:World→World→Prop) (S Sp:List α→World→Prop) (w:World):Prop:=
 ∀(l:Nat) (J Jx:List α→World→Prop) (W:World),Below w.heap.size w W→(∀s A B,J s A→Below A.heap.size A B→J s B)→(∀s A B,Jx s A→Below A.heap.size A B→Jx s B)→
  (∀pre x A0 A,Ok (pre++[x])→J pre A0→Below A0.heap.size A0 A→Px A0.heap.size x A→YieldAt F (n-1) P l (Dw x) A fun e B=>(e= .returned (.bool true)∧J (pre++[x]) B∧Kp A B)∨(e= .returned (.bool false)∧Jx (pre++[x]) B))→
  J [] W→
  CallsIn F n P g (#[.func (.yield l) #[] #[]]++lb) W fun e B=>(∃v,e= .returned v)∧((∃xs,S xs B∧J xs B)∨(∃pre,Sp pre B∧Jx pre B))
theorem below_grown (h:Below w.heap.size w w'):w.grownBy w' none:=⟨h.os,h.tape,h.output,h.size,fun i hi _=>h.block i hi⟩
def Abides (B:Nat) (p:World→Prop):Prop:= ∀(A:World) (l:Nat) (o o':Obj),p A→B≤l→A.heap[l]? =some o→o.isCells=false→p (A.putObj l o')
theorem DW {F:Fence} {α:Type} {g:Operand} {ps:Array Tmp} {assign body:Code} 
  (hro:F.round=none) (h1:1≤n) {gf:Nat} {lb:Array Value} (hg:a.eval g= .func (.func gf) #[] lb) (hFg:F.fn gf) (eg: ∀args w,(callFunc gf args).run P w= .ok (.enter gf args) w)
  {Dw:α→Array Value} {Ok:List α→Prop} {Px:Nat→α→World→Prop} {Kp:World→World→Prop} {S Sp:List α→World→Prop} (ako:ω F (n-1) P gf lb Dw Ok Px Kp S Sp w)
  (hS: ∀xs,Abides w.heap.size (S xs)) (hSp: ∀xs,Abides w.heap.size (Sp xs))
  (hKt: ∀{A B C:World},Kp A B→Kp B C→Kp A C) (hKb: ∀(W:World) (l:Nat) (o o':Obj),w.heap.size≤l→W.heap[l]? =some o→o.isCells=false→o.isWalk=false→Kp W (W.putObj l o')) (KW: ∀x,(Dw x).size=ps.size)
  (I:List α→World→Prop) (Ix:Code→List α→World→Prop) (hI:OwnFrom w.heap.size I) (hIx: ∀c,OwnFrom w.heap.size (Ix c)) (h0:I [] w) (Ax:List α→α→Act→World→Prop) (hAx: ∀pre x a',Abides w.heap.size (Ax pre x a'))
  (Y8: ∀(l:Nat) (pre:List α) (x:α) (W0 W:World) (K:Act→World→Prop),Ok (pre++[x])→I pre W0→Below W0.heap.size W0 W→Px W0.heap.size x W→(∀a' W',KeepsFrom w.heap.size W W'→Kp W W'→Ax pre x a' W'→K a' W')→
   assign.wpIn (F.inRound l) (n-1-1) P (Exit.then K (fun _ _ _=>False)) {tmps:=(ps.zip (Dw x)).foldl (fun t (p,v)=>t.setIfInBounds p v) a.tmps,defers:=[]} W)
  (agi: ∀(l:Nat) (pre:List α) (x:α) (a':Act) (W:World),Ok (pre++[x])→Ax pre x a' W→body.wpIn (F.inRound l) (n-1-1) P (ownPostG w.heap.size Kp I Ix (pre++[x]) W) a' W)
  (agj: ∀(D:Nat) (xs:List α) (W:World),w.heap.size≤D→S xs W→I xs W→W.heap[D]? =some (.deferred (some []))→Q .normal {a with defers:={target:=.collected D,args:=#[]}::a.defers} W)
  (agk: ∀(D:Nat) (c:Code) (pre:List α) (W:World),w.heap.size≤D→Sp pre W→Ix c pre W→W.heap[D]? =some (.deferred (some []))→c.wpIn F n P Q {a with defers:={target:=.collected D,args:=#[]}::a.defers} W):
  (Code.rangeFunc g ps assign body).wpIn F n P Q a w:=by
 refine wpIn_rangeFunc ?_;intro fn hfn;rw[hro];obtain⟨rec,Dx⟩: ∃rec:LoopState→Option Code→Loop,rec=fun st pe=>{state:=st,pending:=pe,fn,tmps:=a.tmps,params:=ps,assign,body,defers:=w.heap.size}:=⟨_,rfl⟩
 obtain⟨V,hV⟩: ∃V,(w.alloc (.deferred (some []))).alloc (.loop (rec .ready none))=V:=⟨_,rfl⟩;have hVl:V.heap[w.heap.size+1]? =some (.loop (rec .ready none)):=by
  rw[←hV];have:=World.alloc_heap_new (w.alloc (.deferred (some []))) (.loop (rec .ready none));rwa [World.size_alloc]at this
 have hVd:V.heap[w.heap.size]? =some (.deferred (some [])):=by
  rw[←hV];exact(Below.heap_alloc _ _ _ (by simp)).trans (World.alloc_heap_new w _)
 have hVi:I [] V:=by rw[←hV];exact hI.alloc _ (hI.alloc _ h0)
 have hVb:Below w.heap.size w V:=by rw[←hV];exact((aU _ w).alloc (aS _) _).alloc (by simp) _
 have fQ: ∀{A B:World} {k:Nat} {o:Obj},Below A.heap.size A B→A.heap[k]? =some o→B.heap[k]? =some o:=fun hb hk=>(hb.block _ (yj.1 hk).1).trans hk
 refine⟨w.heap.size+1,[{target:=.collected w.heap.size,args:=#[]}],V,{target:=.fn (.func gf) lb,args:=#[.func (.yield (w.heap.size+1)) #[] #[]]},V,gf,
  #[.func (.yield (w.heap.size+1)) #[] #[]]++lb,V,?_,?_,?_,?_,fun _=>h1,?_⟩
 ·rw[←hV,Dx];exact run_enterLoop_outer _ _ _ _ _
 ·simp only[resolve,hg];simp[go_sem]
 ·intro f' hf';simp[Target.leads]at hf';subst hf';exact hFg
 ·simp[invoke,go_sem,eg]
 ·refine(ako (w.heap.size+1)
   (fun pre A=>I pre A∧A.heap[w.heap.size+1]? =some (.loop (rec .ready none))∧A.heap[w.heap.size]? =some (.deferred (some [])))
   (fun pre A=> ∃c,Ix c pre A∧A.heap[w.heap.size+1]? =some (.loop (rec .done (some c)))∧A.heap[w.heap.size]? =some (.deferred (some [])))
   V hVb
   (fun s A B hs hb=>⟨hI s A B none hs.1 (below_grown hb) (fun r e=>by cases e),fQ hb hs.2.1,fQ hb hs.2.2⟩)
   (fun s A B hs hb=>by
    obtain⟨c,hc,hl,hk⟩:=hs;exact⟨c,hIx c s A B none hc (below_grown hb) (fun r e=>by cases e),fQ hb hl,fQ hb hk⟩)
   ?_ ⟨hVi,hVl,hVd⟩).mono ?_
  ·rintro pre x A0 A cH ⟨hi,hl0,lK⟩ hbA FL;have hl:=fQ hbA hl0;have hk:=fQ hbA lK;have hy:=run_yield (P:=P) (args:=Dw x) hl (by rw[Dx];exact KW x);rw[Dx]at hy;refine⟨fn,_,assign,body,hy,roundIn_of_wpIn hfn (Y8 _ pre x A0 A _ cH hi hbA FL ?_)⟩;clear hy;intro a' B hkf hkp hax;have Hi:=hkf.same _ _ (by omega) hl rfl;have jJ:=hkf.same _ _ (aS _) hk rfl;have aA:=(yj.1 Hi).1;refine⟨_,run_beginRound Hi (by rw[Dx]),?_⟩;have uR:(B.putObj (w.heap.size+1) (.loop {rec .ready none with state:=.busy})).heap[w.heap.size+1]? =some (.loop {rec .ready none with state:=.busy}):=World.putObj_heap_same aA;have zE:(B.putObj (w.heap.size+1) (.loop {rec .ready none with state:=.busy})).heap[w.heap.size]? =some (.deferred (some [])):=(World.putObj_heap_other (by omega)).trans jJ;have AD:Kp B (B.putObj (w.heap.size+1) (.loop {rec .ready none with state:=.busy})):=hKb _ _ _ _ (by omega) Hi rfl rfl;refine wpIn_mono (agi _ pre x a' _ cH (hAx pre x a' _ _ _ _ hax (by omega) Hi rfl)) ?_;have fin: ∀(jump:Option Code) (C:World),KeepsFrom w.heap.size (B.putObj (w.heap.size+1) (.loop {rec .ready none with state:=.busy})) C→
     (Instr.endRound (w.heap.size+1) jump).run P C= .ok (.bool jump.isNone) (C.putObj (w.heap.size+1) (.loop (rec (if jump.isNone then .ready else .done) jump)))∧
     C.heap[w.heap.size+1]? =some (.loop {rec .ready none with state:=.busy})∧
     (C.putObj (w.heap.size+1) (.loop (rec (if jump.isNone then .ready else .done) jump))).heap[w.heap.size+1]? =some (.loop (rec (if jump.isNone then .ready else .done) jump))∧
     (C.putObj (w.heap.size+1) (.loop (rec (if jump.isNone then .ready else .done) jump))).heap[w.heap.size]? =some (.deferred (some [])):=fun jump C RS=>by
    have PG:=RS.same _ _ (by omega) uR rfl;have hr:=run_endRound (P:=P) jump PG;rw[Dx]at hr ⊢
    exact⟨hr,by rw[Dx]at PG;exact PG,World.putObj_heap_same (yj.1 PG).1,(World.putObj_heap_other (by omega)).trans (RS.same _ _ (aS _) zE rfl)⟩
   rintro e a3 C hp;cases e with
   |normal=>
    obtain⟨RS,akp,Pk⟩:=hp;obtain⟨hr,PG,hl4,u4⟩:=fin none C RS;exact⟨_,_,hr,.inl ⟨rfl,⟨hI.putObj _ Pk (by omega) PG rfl,hl4,u4⟩,hKt hkp (hKt (hKt AD akp) (hKb _ _ _ _ (by omega) PG rfl rfl))⟩⟩
   |ret=>
    obtain⟨RS,Pk⟩:=hp;obtain⟨hr,PG,hl4,u4⟩:=fin (some .ret) C RS;exact⟨_,_,hr,.inr ⟨rfl,.ret,(hIx _).putObj _ Pk (by omega) PG rfl,hl4,u4⟩⟩
   |exit id=>
    obtain⟨RS,Pk⟩:=hp;obtain⟨hr,PG,hl4,u4⟩:=fin (some (.exit id)) C RS;exact⟨_,_,hr,.inr ⟨rfl,.exit id,(hIx _).putObj _ Pk (by omega) PG rfl,hl4,u4⟩⟩
   |goto t=>
    obtain⟨RS,Pk⟩:=hp;obtain⟨hr,PG,hl4,u4⟩:=fin (some (.goto t)) C RS;exact⟨_,_,hr,.inr ⟨rfl,.goto t,(hIx _).putObj _ Pk (by omega) PG rfl,hl4,u4⟩⟩
   |panic ch=>exact hp.elim
   |outgrown=>exact hp.elim
  ·rintro e C ⟨⟨v,rfl⟩,(⟨xs,hs,hi,hl,hk⟩|⟨pre,hs,c,hi,hl,hk⟩)⟩
   ·exact⟨none,_,by have hr:=run_endLoop (P:=P) hl (by rw[Dx];simp);rw[Dx]at hr;exact hr,agj _ xs _ (aS _) (hS xs _ _ _ _ hs (by omega) hl rfl) (hI.putObj _ hi (by omega) hl rfl) ((World.putObj_heap_other (by omega)).trans hk)⟩
   ·exact⟨some c,_,by have hr:=run_endLoop (P:=P) hl (by rw[Dx];simp);rw[Dx]at hr;exact hr,agk _ c pre _ (aS _) (hSp pre _ _ _ _ hs (by omega) hl rfl) ((hIx c).putObj _ hi (by omega) hl rfl) ((World.putObj_heap_other (by omega)).trans hk)⟩
