import Derived.Test.YtcdoilkjmjbgmaaGreatDoorW45
import Derived.Deep.MidRow
/- Part of the proof of YtcdoilkjmjbgmaaGreatDoorCardX: TvW TkN TwE TwF. -/
set_option maxRecDepth 100000
set_option maxHeartbeats 4000000
set_option linter.unusedVariables false
set_option linter.unusedSimpArgs false
namespace Go.Proofs.YtcdoilkjmjbgmaaGreatDoor
open Go.RowKit
open Go.Proofs.Tryz
variable {rs:List PR} {r:PR} {w W WL W' U WB W3:World} {b n c m z lo g k gi B i hi D:Nat} {e t:TypeId} {a:Option Addr} {xs:List Value} {pre:List WI} {x:WI} {P:Program} {o:Oper} {Q:Exit→Act→World→Prop} {vm vo vi vl:Value} {ds:List Nat} {T:Nat→World→Prop}
theorem yd (rs:List PR):(gZ rs).map (·.2)=rowsOf rs:=by
 unfold rowsOf;split
 ·rename_i h;exact FB h
 ·rename_i h;unfold gZ;rw[af h];rfl
theorem JW (rs:List PR):(gZ rs).length=(rowsOf rs).length:=by rw[←yd,kG]
theorem NJ (rs:List PR):(rowsOf rs).length≤rs.length:=by
 unfold rowsOf;split
 ·exact aP _
 ·exact aT _
theorem NK (h:r∈rowsOf rs):r∈rs:=by
 unfold rowsOf at h;split at h
 ·exact h
 ·cases h
theorem RQ (h:w.ownsRow b e z (.slice a n c) m xs):n=m:=by
 rcases h.2 with⟨hv,h0⟩|⟨g,cap,cur,hv,_⟩
 ·injection hv with e1 e2 e3;omega
 ·injection hv
structure KM (w w2:World) (d:Nat) (cH:Nat→List (Nat×PR)) (i:Nat) (t7:Value) (W:World):Prop where
 ks: ∃(ks:List Value) (sg:Nat→List (Nat×PR)),ks.length=i∧W.ownsRow w2.heap.size 27 1 t7 i ks∧(∀j (h:j<ks.length),qN w.heap.size (d+1) t7 W ks[j] (sg j))∧(∀j,j<i→(sg j).length=(cH j).length)∧ ∀v∈ks,∃t x,v= .iface t x
 below:Below w2.heap.size w2 W
theorem abR {X C:Prop} (h:X→C) (x:X):C:=h x
theorem K3 (rs:List PR):da (rowsOf rs)=(gZ rs).map (·.1):=by
 unfold rowsOf;split
 ·rename_i h;rw[yb h,wU (ir (mR.1 h).1).1];unfold da;rw[ar (lU (mR.1 h).1)]
 ·rename_i h;unfold gZ;rw[af h];rfl
theorem Wc (h:(pre++[x]).map WI.key<+:gZ rs):
  ∃(h1:pre.length<(rowsOf rs).length) (h2:pre.length<(da (rowsOf rs)).length),(rowsOf rs)[pre.length]=x.r∧(da (rowsOf rs))[pre.length]=x.d:=by
 obtain⟨t,ht⟩:=h;rw[mZ]at ht;have hl:(gZ rs)[pre.length]? =some x.key:=by
  rw[←ht,lj,A5 (by simp)];simp
 have e1:(rowsOf rs)[pre.length]? =some x.r:=by rw[←yd,A8,hl];rfl
 have e2:(da (rowsOf rs))[pre.length]? =some x.d:=by rw[K3,A8,hl];rfl
 obtain⟨h1,e1⟩:=FX.1 e1;obtain⟨h2,e2⟩:=FX.1 e2;exact⟨h1,h2,e1,e2⟩
theorem Zw (W:World) (e:TypeId) (us:List Value) {b:Nat} (hb:b≤W.heap.size):(W.alloc (.cells us.toArray e)).ownsRow b e us.length (.slice (some ⟨W.heap.size,0,none⟩) 1 1) 1 us:=
 ⟨by simp,.inr ⟨W.heap.size,1,us.toArray,rfl,hb,World.alloc_heap_new W _,aP _,by decide,by simp,by simp⟩⟩
theorem acN (x:WI):x.cs.length=17:=rfl
theorem RR (h:x.Px lo W) (hl:iO x.r) (Aq:lo≤W.heap.size):
  Calls prog 13 #[.slice (some ⟨W.heap.size,0,none⟩) 1 1] (W.alloc (.cells x.cs.toArray 46)) fun e w'=>e= .returned (.bool true)∧fQ lo W.heap.size (W.alloc (.cells x.cs.toArray 46)) w':=by
 have ho:=Zw W 46 x.cs (aP W.heap.size);rw[acN]at ho;have hp:=h.1.below ((aS _ W).alloc (aP _) (.cells x.cs.toArray 46));refine V9 (lo:=lo) (b:=W.heap.size) (hi:=W.heap.size) (xs:=[x]) ⟨by simpa using ho,fun i hi=>?_⟩ ⟨List.pairwise_singleton _ _,fun y hy u hu q hq=>?_,fun y hy=>?_,fun y hy=>?_,by simp;omega,by simp⟩ (by simp)
 ·have h0:i=0:=by simpa using hi
  subst h0;exact⟨fun h=>absurd h (Nat.lt_irrefl _),fun _=>hp⟩
 ·rw[u9.1 hy]at hu;simp only[gq,kE,iN]at hu;rcases hu with rfl|rfl|rfl|rfl
  ·exact(h.1.m.lt q hq).2
  ·exact(h.1.o.lt q hq).2
  ·exact(h.1.i.lt q hq).2
  ·exact(h.1.l.lt q hq).2
 ·rw[u9.1 hy];exact⟨h.1.oi,h.1.ol,h.1.il⟩
 ·rw[u9.1 hy];exact hl
theorem ye {F:Fence} {a:Act} {K:Act→World→Prop} {c:Bool} {E:Prop} (ty:TypeId) (x:Operand) (ho:o.op= .load ty x) {p:Value} (hx:a.eval x=p) {v:Value}
  (hr:(Instr.loadAt ty p).run P w= .ok v w) (hc:c=true) (h:K (a.put o.dst v) w):if c=true then Oper.wpIn F n P o a w K Q else E:=by
 rw[ar hc];unfold Oper.wpIn;refine⟨fun f hf=>(by simp[Oper.about,ho]at hf),?_⟩;rw[Oper.semAt_plain F _ _ (by rw[ho];intro c hc;cases hc)];unfold execOp;simp only[ho,hx,vA,hr,A7,Bf];exact h
theorem Wd (r:PR) (m o i l:Value):Value.agg (lF r m o i l).toArray=jP r m o i l:=rfl
theorem RS {o:Nat} (h: ∀k (hk:k<17),W.cell? ⟨g,o+k,none⟩=some ((lF r vm vo vi vl)[k]'hk)):(Instr.loadAt 46 (.pointer (some ⟨g,o,none⟩))).run prog W= .ok (jP r vm vo vi vl) W:=by
 rw[←Wd];refine run_loadAt_mid W g o _ _ _ (fun j v hv=>?_) underlying46 rfl (by kernel_rfl);obtain⟨hj,rfl⟩:=FX.1 hv;exact h j hj
theorem CL (h:aH W g t (dN r vm vo vi vl)):(Instr.loadAt 46 (.pointer (some ⟨g,0,none⟩))).run prog W= .ok (jP r vm vo vi vl) W:=by
 simp only[Instr.loadAt,Instr.sureAddr,vA,Bf,A7];exact run_loadVar_row W g t 46 (dN r vm vo vi vl) (0,0) _ h underlying46 rfl (by kernel_rfl)
def mark (D:Nat):Deferred:={target:=.collected D,args:=#[]}
structure TW (WL:World) (k:Nat) (ds:List Nat) (g:Nat) (W:World):Prop where
 below:Below WL.heap.size WL W
 le:k≤3
 lo:WL.heap.size≤g
 box:aH W g 3 #[.int .i64 (k:Int)]
 len:ds.length=k
 ne:ds.Pairwise (· ≠ ·)
 held: ∀D∈ds,WL.heap.size≤D∧W.heap[D]? =some (.deferred (some []))
theorem TW.start (WL:World):TW WL 0 [] WL.heap.size (WL.alloc (.cells #[.int .i64 0] 3)):=
 ⟨(aS _ _).alloc (aP _) _,by omega,aP _,aH.new _ _ _,rfl,List.Pairwise.nil,fun D h=>by cases h⟩
theorem acO (t:Array Value) (h:t.size=100): ∃u:Nat→Value,t= #[u 0,u 1,u 2,u 3,u 4,u 5,u 6,u 7,u 8,u 9,u 10,u 11,u 12,u 13,u 14,u 15,u 16,u 17,u 18,u 19,u 20,u 21,u 22,u 23,u 24,u 25,u 26,u 27,u 28,u 29,u 30,u 31,u 32,u 33,u 34,u 35,u 36,u 37,u 38,u 39,u 40,u 41,u 42,u 43,u 44,u 45,u 46,u 47,u 48,u 49,u 50,u 51,u 52,u 53,u 54,u 55,u 56,u 57,u 58,u 59,u 60,u 61,u 62,u 63,u 64,u 65,u 66,u 67,u 68,u 69,u 70,u 71,u 72,u 73,u 74,u 75,u 76,u 77,u 78,u 79,u 80,u 81,u 82,u 83,u 84,u 85,u 86,u 87,u 88,u 89,u 90,u 91,u 92,u 93,u 94,u 95,u 96,u 97,u 98,u 99]:=by
 obtain⟨u,hu⟩: ∃u:Nat→Value,u=fun i=>t.getD i undef:=⟨_,rfl⟩
 refine⟨u,Array.ext_getElem? fun i=>?_⟩;by_cases hi:i<100
 ·have e:t[i]? =some (u i):=by rw[hu];simp[h,hi]
  rw[e];clear e h hu
  iterate 100 (rcases i with _|i;·rfl)
  omega
 ·rw[vq (by omega),vq (by simp;omega)]
theorem zH {F:Fence} {n:Nat} {P:Program} {fn:Func} {tmps:Array Value} {R:Ending→World→Prop} {B:Nat} {G:World→Prop} (hG: ∀W D o',B≤D→W.heap[D]? =some (.deferred (some []))→G W→G (W.putObj D o'))
  (kH: ∀W,G W→ ∃v,(results fn tmps).run P W= .ok v W∧R (.returned v) W): ∀(ds:List Nat) (W:World),ds.Pairwise (· ≠ ·)→(∀D∈ds,B≤D∧W.heap[D]? =some (.deferred (some [])))→G W→LeavesInM F n P fn tmps R (ds.map mark) .returning W
 |[],W,_,_,h=>kH W h
 |D::ds,W,hp,hd,h=>⟨by simp,.inl ⟨D,_,rfl,run_takeDeferred (hd D (by simp)).2,zH hG kH ds (W.putObj D (.deferred none)) (List.pairwise_cons.1 hp).2
   (fun D' h'=>⟨(hd D' (by simp[h'])).1,(World.putObj_heap_other (Ne.symm ((List.pairwise_cons.1 hp).1 D' h'))).trans (hd D' (by simp[h'])).2⟩) (hG W D _ (hd D (by simp)).1 (hd D (by simp)).2 h)⟩⟩
theorem We {α β:Type} (f:α→β) (l:List α):l.map f=l.flatMap (fun d=>[f d]):=by
 induction l with
 |nil=>rfl
 |cons a l ih=>rw[mv,xk,ih];rfl
structure TR (WL:World) (k:Nat) (ds:List Nat) (g gi i:Nat) (W:World):Prop where
 below:Below WL.heap.size WL W
 box:aH W g 3 #[.int .i64 (k:Int)]
 uv:aH W gi 3 #[.int .i64 (i:Int)]
 held: ∀D∈ds,W.heap[D]? =some (.deferred (some []))
theorem TR.own (hB:WL.heap.size≤B) (Sl: ∀D∈ds,D<B):OwnFrom B (fun(pre:List WI)=>TR WL k ds g gi pre.length):=by
 rintro pre W W' row h hg hr;have hc: ∀{q:Nat} {t:TypeId} {cs:Array Value},aH W q t cs→aH W' q t cs:=fun {q t cs} hb=>GI (B:=B) () W W' row hb hg hr
 exact⟨h.below.grown hg h.below.size fun q e=>bn hB (hr q e).1,hc h.box,hc h.uv,fun D hD=>(hg.block D (u7.1 (h.held D hD)).1 fun e=>by
  have h1:=(hr D e.symm).1;have h2:=Sl D hD;omega).trans (h.held D hD)⟩
theorem TR.of (h:TR WL k ds g gi i W) (hb:Below W.heap.size W W'):TR WL k ds g gi i W':=
 ⟨h.below.trans (hb.mono h.below.size),h.box.below hb h.box.lt,h.uv.below hb h.uv.lt,fun D hD=>(hb.block D (u7.1 (h.held D hD)).1).trans (h.held D hD)⟩
theorem TR.ah4 (h:TR WL k ds g gi i U) (hb:Below U.heap.size U WB) (hs:fQ lo hi WB W3) (h1:g<lo) (h2:gi<lo) (h3:WL.heap.size≤lo) (h4: ∀D∈ds,D<lo):
  TR WL k ds g gi i W3∧KeepsFrom B U W3∧mG WL.heap.size U W3:=by
 have hB:=h.of hb;have nr:Below WL.heap.size U W3:=(hb.mono h.below.size).trans (hs.1.mono h3);refine⟨⟨h.below.trans nr,(hs.1.block g h1).trans hB.box,(hs.1.block gi h2).trans hB.uv,fun D hD=>(hs.1.block D (h4 D hD)).trans (hB.held D hD)⟩,?_,⟨nr,(gU.ia hb).trans (hs.2.2.1 _ (by decide) (by decide))⟩,(gU.ia hb).trans (hs.2.2.1 _ (by decide) (by decide))⟩;exact(lA hb).trans ⟨hs.2.2.2.1,fun q o _ hq ho=>hs.2.2.2.2 q o (aT _) hq ho⟩
theorem TR.next (h:TR WL k ds g gi i U) (bC:g≠gi) (hle:WL.heap.size≤gi):
  TR WL k ds g gi (i+1) (U.setCell ⟨gi,0,none⟩ (.int .i64 ((i:Int)+1)))∧KeepsFrom B U (U.setCell ⟨gi,0,none⟩ (.int .i64 ((i:Int)+1)))∧mG WL.heap.size U (U.setCell ⟨gi,0,none⟩ (.int .i64 ((i:Int)+1))):=by
 have hk: ∀t,t≠3→gU t U (U.setCell ⟨gi,0,none⟩ (.int .i64 ((i:Int)+1))):=fun t ht q cs hb=>hb.Dm (by rintro rfl;exact aH.ne_ hb h.uv ht rfl) _
 refine⟨⟨h.below.setCell (p:=⟨gi,0,none⟩) hle _,h.box.Dm bC _,by have:=h.uv.dw 0 (.int .i64 ((i:Int)+1));simpa using this,fun D hD=>?_⟩,Ea h.uv _,⟨(aS _ _).setCell (p:=⟨gi,0,none⟩) hle _,hk _ (by decide)⟩,hk _ (by decide)⟩;rw[vr U ⟨gi,0,none⟩ _ D ?_]
 ·exact h.held D hD
 ·show D≠gi;rintro rfl;have h1:=h.held _ hD;rw[show U.heap[D]? =_ from h.uv]at h1;cases h1
theorem TW.again (h:TR WL k ds g gi i U) (hk:k<3) (hl:ds.length=k) (hp:ds.Pairwise (· ≠ ·)) (Sl: ∀D'∈ds,WL.heap.size≤D'∧D'<B) (hB:WL.heap.size≤B) (hD:B≤D) (hd:U.heap[D]? =some (.deferred (some []))):
  TW WL (k+1) (D::ds) U.heap.size (U.alloc (.cells #[.int .i64 ((k:Int)+1)] 3)):=by
 have hold: ∀D',U.heap[D']? =some (Obj.deferred (some []))→(U.alloc (.cells #[.int .i64 ((k:Int)+1)] 3)).heap[D']? =some (Obj.deferred (some [])):=fun D' h'=>(Below.heap_alloc _ _ _ (u7.1 h').1).trans h'
 refine⟨h.below.alloc h.below.size _,hk,h.below.size,aH.new _ _ _,by simp[hl],List.pairwise_cons.2 ⟨fun D' h'=>?_,hp⟩,fun D' h'=>?_⟩
 ·have:=(Sl D' h').2;omega
 ·rcases gq.1 h' with rfl|h'
  ·exact⟨bn hB hD,hold _ hd⟩
  ·exact⟨(Sl D' h').1,hold _ (h.held D' h')⟩
theorem Zx (g:Nat) (W:World):(binOp .eql 37 (.func (.func 33) #[] #[.pointer (some ⟨g,0,none⟩)]) .nilFunc).run prog W= .ok (.bool false) W:=by kernel_rfl
attribute [local go_sem] Oper.semAt_some
theorem Eb (hT:pT (fun _=>True) T) (w:World) (ao:Option Addr) (na ca:Nat) (stop:Int) (rs:List PR) (h:eA w (.slice ao na ca) rs) (hlen:rs.length≤1048576) (pG: ∀r∈rs,jU r) (kD:T w.heap.size w):
  Calls prog 3 #[.slice ao na ca,.int .i64 stop] w (aC w true):=by
 have HAW:Hid (∀W,Below w.heap.size w W→Calls prog 7 #[] W (aC W true)):=aa fun W hb=>KY hT W (hT.mono (hT.fN kD hb) hb.size)
 have hna:na=rs.length:=by obtain⟨_,_,hv,_⟩:=h.2;injection hv
 have HRB:Hid (∀W,Below w.heap.size w W→Calls prog 8 #[.slice ao na ca] W (gA W rs)):=aa fun W hb=>RN (h.below hb) hlen pG
 have HTB:Hid (∀W,Below w.heap.size w W→Calls prog 9 #[.slice ao na ca] W (iC W rs)):=aa fun W hb=>CI hT (h.below hb) hlen pG (hT.mono (hT.fN kD hb) hb.size)
 have xb:=aa pG;have atq:na≤1048576:=by omega
 have HNA:=aa hna;clear h hlen pG kD hna;refine(oJ (n:=5)).1 ?_;refine callsIn_of_wp_marks func3 rfl trivial ?_ rfl;simp only[ntmps3,List.size_toArray,dI,oB,Nat.reduceAdd,Nat.reduceSub,Oo,Oq,List.push_toArray,Ou,vy,pJ]
 gi_wp2_with fail
 obtain⟨W0,ι⟩: ∃W0,W0=(w.alloc (.cells #[.int .i64 stop] 3)).alloc (.cells #[.bool false] 4):=⟨_,rfl⟩;have yn:aH W0 w.heap.size 3 #[.int .i64 stop]:=by rw[ι];exact(aH.new _ _ _).alloc _
 have SY:aH W0 (w.heap.size+1) 4 #[.bool false]:=by rw[ι];have:=aH.new (w.alloc (.cells #[.int .i64 stop] 3)) 4 #[.bool false];simpa using this
 have Dp:Below w.heap.size w W0:=by rw[ι];exact((aS _ w).alloc (aP _) _).alloc (by simp) _
 rw[←ι];have B0:=aa Dp;have HZ0:Hid (∀W,Below W0.heap.size W0 W→aH W w.heap.size 3 #[.int .i64 stop]∧aH W (w.heap.size+1) 4 #[.bool false]):=aa fun W hb=>⟨yn.below hb yn.lt,SY.below hb SY.lt⟩
 clear Dp yn SY ι;refine⟨trivial,?_⟩;refine(oJ.2 (HAW.out W0 B0.out)).mono ?_;rintro e w1 ⟨rfl,hb⟩;have B01:=aa hb;have B1:=aa (B0.out.trans (hb.mono B0.out.size));clear hb HAW;by_cases iJ:65536<na
 ·have p1:((65536:Int)<(na:Int))=True:=az (by omega);have r1:=(HZ0.out _ B01.out).2;have c1:w1.cell? ⟨w.heap.size+1,0,none⟩=some (.bool false):=r1.cell 0;have f1:=r1.frozen 0
  try simp at f1
  have s1:=r1.lt;have HF:Hid (Below w.heap.size w (w1.setCell ⟨w.heap.size+1,0,none⟩ (.bool true))):=aa (B1.out.setCell (p:=⟨w.heap.size+1,0,none⟩) (by simp) _)
  gi_wp2_with fail
  refine⟨.bool true,?_,rfl,HF.out⟩;simp[results,results3,go_sem,c1,s1]
 have p1:((65536:Int)<(na:Int))=False:=bL (by omega)
 gi_wp2_with fail
 refine⟨trivial,?_⟩;refine(oJ.2 (HRB.out _ B1.out)).mono ?_;rintro e w2 ⟨aw,nw,cw,xs,rfl,Xd,hb⟩;have Z8:nw=(rowsOf rs).length:=(RQ Xd.own).trans Xd.len;have HOR:=aa Xd;have HNW:=aa Z8;have B02:=aa (B01.out.trans (hb.mono B01.out.size));have B2:=aa (B1.out.trans (hb.mono B1.out.size));clear hb Xd Z8
 gi_wp2_with fail
 obtain⟨WA,hWA⟩: ∃WA,WA=w2.alloc (.cells #[.slice aw nw cw] 22):=⟨_,rfl⟩;have S8:Below w2.heap.size w2 WA:=by rw[hWA];exact(aS _ w2).alloc (aP _) _
 have hzA:aH WA w2.heap.size 22 #[.slice aw nw cw]:=by rw[hWA];exact aH.new _ _ _
 rw[←hWA];have BA:=aa (B2.out.trans (S8.mono B2.out.size));have Lx:=aa (And.intro S8 hzA);clear hWA S8 hzA;refine⟨trivial,?_⟩;refine(oJ.2 (HTB.out _ BA.out)).mono ?_;rintro e w3 ⟨v,rfl,TU,cr⟩;have ov:[v].all (·.oneCell')=true:=by simp[TU.one]
 have HR3:=aa TU;have BA3:=aa cr;clear cr TU
 gi_wp2_with (refine mW rfl 29 (.tmp 7) (.tmp 29) rfl w3.heap.size _ rfl rfl (aH.new _ _ _) RG rfl ov ?_;intro W4 ou XR;have Ls:=aa ou;have B34:Hid (Below w3.heap.size w3 W4):=aa (ic ((aS _ w3).alloc (aP _) _) XR (by simp) (aP _));have k4:W4.cell? ⟨w2.heap.size,0,none⟩=some (.slice aw nw cw):=(B34.out.cell (p:=⟨w2.heap.size,0,none⟩) (gO Lx.out.2.lt BA3.out.size)).trans ((BA3.out.cell (p:=⟨w2.heap.size,0,none⟩) Lx.out.2.lt).trans (Lx.out.2.cell 0));clear ou XR)
 have B24:Hid (Below WA.heap.size WA W4):=aa (BA3.out.trans (B34.out.mono BA3.out.size));have B4:Hid (Below w.heap.size w W4):=aa (BA.out.trans (B24.out.mono BA.out.size));have HW4:Hid (oM 0 W4 (.slice aw nw cw) (rowsOf rs)):=aa (((HOR.out.below Lx.out.1).below B24.out).rows.1);have ZW:(rowsOf rs).length≤1048576:=by have:=NJ rs;have:=HNA.out;omega
 refine⟨trivial,?_⟩;refine(oJ.2 (Cx HW4.out ZW)).mono ?_;rintro e w5 ⟨ad,nd,cd,rfl,hod,mn⟩;have HOD:=aa hod;have B45:=aa mn;clear hod mn k4;have k5:w5.cell? ⟨w3.heap.size,0,none⟩=some v:=(B45.out.cell (p:=⟨w3.heap.size,0,none⟩) Ls.out.lt).trans (Ls.out.cell 0);have s5:w3.heap.size<w5.heap.size:=gO Ls.out.lt B45.out.size
 gi_wp2_with fail
 obtain⟨W6,hW6⟩: ∃W6,W6=w5.alloc (.cells #[.slice ad nd cd] 33):=⟨_,rfl⟩;have Lw:Below w5.heap.size w5 W6:=by rw[hW6];exact(aS _ w5).alloc (aP _) _
 have hz6:aH W6 w5.heap.size 33 #[.slice ad nd cd]:=by rw[hW6];exact aH.new _ _ _
 rw[←hW6];clear hW6 k5 s5;refine⟨trivial,?_⟩;refine(oJ.2 (RD v W6)).mono ?_;rintro e w7 ⟨rfl,rfl⟩;obtain⟨WL,hWL⟩: ∃WL,WL=W6.alloc (.cells #[v] 29):=⟨_,rfl⟩;have hbL:Below W6.heap.size W6 WL:=by rw[hWL];exact(aS _ W6).alloc (aP _) _
 have hzL:aH WL W6.heap.size 29 #[v]:=by rw[hWL];exact aH.new _ _ _
 rw[←hWL];clear hWL;have B5L:Hid (Below w5.heap.size w5 WL):=aa (Lw.trans (hbL.mono Lw.size));have B4L:Hid (Below W4.heap.size W4 WL):=aa (B45.out.trans (B5L.out.mono B45.out.size));have BL:Hid (Below w.heap.size w WL):=aa (B4.out.trans (B4L.out.mono B4.out.size));have HRL:Hid (gY 0 WL v (gZ rs)):=aa (((HR3.out.below B34.out).below B4L.out).lo (aT _));have HWL:Hid (oM 0 WL (.slice aw nw cw) (rowsOf rs)):=aa (HW4.out.below B4L.out);have HOL:Hid (WL.ownsRow W4.heap.size 3 1 (.slice ad nd cd) (da (rowsOf rs)).length ((da (rowsOf rs)).map pV)):=aa (aD HOD.out B5L.out);have H7:Hid (aH WL w.heap.size 3 #[.int .i64 stop]∧aH WL (w.heap.size+1) 4 #[.bool false]∧aH WL w2.heap.size 22 #[.slice aw nw cw]∧aH WL w5.heap.size 33 #[.slice ad nd cd]∧aH WL W6.heap.size 29 #[v]):=by
  have h0L:Below W0.heap.size W0 WL:=B02.out.trans ((Lx.out.1.trans ((B24.out.trans (B4L.out.mono B24.out.size)).mono Lx.out.1.size)).mono B02.out.size);have hAL:Below WA.heap.size WA WL:=B24.out.trans (B4L.out.mono B24.out.size);exact aa ⟨(HZ0.out _ h0L).1,(HZ0.out _ h0L).2,Lx.out.2.below hAL Lx.out.2.lt,hz6.below hbL hz6.lt,hzL⟩
 have HLN:Hid (∀r∈rowsOf rs,iO r):=aa fun r hr=>(xb.out r (NK hr)).len
 clear Lw hz6 hbL hzL HOR HRB HTB HZ0 B0 B01 B02 B1 B2 BA Lx BA3 HR3 Ls B34 B24 B4 HW4 HOD B45 B4L B5L xb;have aky:=Zx W6.heap.size
 gi_wp2_with fail
 refine wpIn_loop (fun a W=> ∃(k:Nat) (ds:List Nat) (g:Nat),Hid (TW WL k ds g W)∧Hid (a.tmps.size=100∧a.tmps.getD 3 undef= .pointer (some ⟨w.heap.size,0,none⟩)∧a.tmps.getD 4 undef= .pointer (some ⟨w.heap.size+1,0,none⟩)∧a.tmps.getD 5 undef= .pointer (some ⟨w2.heap.size,0,none⟩)∧a.tmps.getD 9 undef= .pointer (some ⟨w5.heap.size,0,none⟩)∧a.tmps.getD 11 undef= .func (.func 33) #[] #[.pointer (some ⟨W6.heap.size,0,none⟩)]∧a.tmps.getD 12 undef= .pointer (some ⟨g,0,none⟩))∧a.defers=ds.map mark) (fun a _=>3-a.defers.length) ?start ?round
 case start=>exact⟨0,[],WL.heap.size,aa (TW.start WL),aa ⟨rfl,rfl,rfl,rfl,rfl,rfl,rfl⟩,rfl⟩
 case round=>
  rintro⟨t,df⟩ W ⟨k,ds,g,hI,⟨FG,h3,h4,h5,h9,h11,ZK⟩,Dt⟩;have alj:df=ds.map mark:=Dt;subst alj;obtain⟨u,rfl⟩:=acO t FG;have e3:u 3= .pointer (some ⟨w.heap.size,0,none⟩):=h3;have e4:u 4= .pointer (some ⟨w.heap.size+1,0,none⟩):=h4;have e5:u 5= .pointer (some ⟨w2.heap.size,0,none⟩):=h5;have e9:u 9= .pointer (some ⟨w5.heap.size,0,none⟩):=h9;have e11:u 11= .func (.func 33) #[] #[.pointer (some ⟨W6.heap.size,0,none⟩)]:=h11;have e12:u 12= .pointer (some ⟨g,0,none⟩):=ZK;rw[e3,e4,e5,e9,e11,e12];clear h3 h4 h5 h9 h11 ZK e3 e4 e5 e9 e11 e12 FG Dt;have hc:=hI.out.box.cell 0;have c12:W.cell? ⟨g,0,none⟩=some (.int .i64 (k:Int)):=hc;have HE:Hid (aH W (w.heap.size+1) 4 #[.bool false]):=aa (H7.out.2.1.below hI.out.below H7.out.2.1.lt);clear hc;by_cases hk:k<3
  ·have p2:((k:Int)<3)=True:=az (by omega)
   gi_wp2_with fail
   obtain⟨V,hV⟩: ∃V,V=W.alloc (.cells #[.int .i64 0] 3):=⟨_,rfl⟩;have hbV:Below W.heap.size W V:=by rw[hV];exact(aS _ W).alloc (aP _) _
   have hiV:aH V W.heap.size 3 #[.int .i64 0]:=by rw[hV];exact aH.new _ _ _
   rw[←hV];have HV:Hid (TR WL k ds g W.heap.size 0 V):=aa ⟨hI.out.below.trans (hbV.mono hI.out.below.size),hI.out.box.below hbV hI.out.box.lt,hiV,fun D hD=>(hbV.block D (u7.1 (hI.out.held D hD).2).1).trans (hI.out.held D hD).2⟩;have Sx:Hid ((∀D∈ds,D<V.heap.size)∧g<W.heap.size∧W.heap.size<V.heap.size∧W.heap.size≤V.heap.size):=aa ⟨fun D hD=>(u7.1 (HV.out.held D hD)).1,hI.out.box.lt,hiV.lt,hbV.size⟩;have sr:=aa (ND (w:=V) HRL.out HV.out.below (HV.out.below.cell (p:=⟨W6.heap.size,0,none⟩) H7.out.2.2.2.2.lt |>.trans (H7.out.2.2.2.2.cell 0)) (gO H7.out.2.2.2.2.lt HV.out.below.size) (fun x hx=>HLN.out x.2 (by rw[←yd];exact vD.2 ⟨x,hx,rfl⟩)) (by rw[JW];omega) 4);have HVS:Hid (V.heap.size=W.heap.size+1):=aa (by rw[hV];simp);clear hbV hiV hV c12;refine D6 rfl (by omega) (gf:=33) (lb:=#[.pointer (some ⟨W6.heap.size,0,none⟩)]) rfl trivial (enters_of func33 (by kernel_rfl) rfl) sr.out
    (fun xs A l o o' h _ _ _=>h) (fun xs A l o o' h _ _ _=>h) (fun h k=>h.trans k) (fun U l o o' hl=>mG.putObj U l o o' (bn HV.out.below.size hl)) (fun _=>rfl)
    (fun pre=>TR WL k ds g W.heap.size pre.length) (fun c pre U=>TR WL k ds g W.heap.size pre.length U∧c=Code.exit 2∧k≠1∧(pre.length:Int)=stop)
    (TR.own HV.out.below.size Sx.out.1) (fun c pre U U' row h hg hr=>⟨TR.own HV.out.below.size Sx.out.1 pre U U' row h.1 hg hr,h.2⟩) HV.out
    (fun pre x a' U=> ∃lo gr v49,(V.heap.size≤lo∧lo≤U.heap.size)∧TR WL k ds g W.heap.size pre.length U∧x.Px lo U∧aH U gr 46 (dN x.r x.m x.o x.i x.l)∧a'={tmps:=#[u 0,u 1,u 2,.pointer (some ⟨w.heap.size,0,none⟩),.pointer (some ⟨w.heap.size+1,0,none⟩),.pointer (some ⟨w2.heap.size,0,none⟩),u 6,u 7,u 8,.pointer (some ⟨w5.heap.size,0,none⟩),u 10,.func (.func 33) #[] #[.pointer (some ⟨W6.heap.size,0,none⟩)],.pointer (some ⟨g,0,none⟩),.pointer (some ⟨W.heap.size,0,none⟩),.int .i64 (x.d:Int),.pointer (some ⟨gr,0,none⟩),u 16,u 17,u 18,u 19,u 20,u 21,u 22,u 23,u 24,u 25,u 26,u 27,u 28,u 29,u 30,u 31,u 32,u 33,u 34,u 35,u 36,u 37,u 38,u 39,u 40,u 41,u 42,.int .i64 (k:Int),.bool true,u 45,u 46,.func (.func 33) #[] #[.pointer (some ⟨W6.heap.size,0,none⟩)],.int .i64 (x.d:Int),v49,u 50,u 51,u 52,u 53,u 54,u 55,u 56,u 57,u 58,u 59,u 60,u 61,u 62,u 63,u 64,u 65,u 66,u 67,u 68,u 69,u 70,u 71,u 72,u 73,u 74,u 75,u 76,u 77,u 78,u 79,u 80,u 81,u 82,u 83,u 84,u 85,u 86,u 87,u 88,u 89,u 90,u 91,u 92,u 93,u 94,u 95,u 96,u 97,u 98,u 99],defers:=[]}) ?absx ?assign ?body ?done ?stop
   case absx=>
    rintro pre x a' A l o o' ⟨lo,gr,v49,h1,h2,h3,h4,h5⟩ hl ho hn;exact⟨lo,gr,v49,⟨h1.1,by simpa using h1.2⟩,ya (TR.own HV.out.below.size Sx.out.1) pre A l o o' h2 hl ho hn,ya WI.Ul x A l o o' h3 hl ho hn,ya GI () A l o o' h4 hl ho hn,h5⟩
   case assign=>
    rintro l pre x W0 U K cC hJ S8 LH hK;have HI:=aa (And.intro (hJ.of S8) (And.intro LH (And.intro hJ.below.size S8.size)));have HLO:Hid (V.heap.size≤W0.heap.size):=aa (by have:=HVS.out;have:=hJ.uv.lt;omega);clear hJ LH S8 cC;simp only[WI.DK,jP];have h17:=rl.2 (aaa x HI.out.2.1)
    gi_wp2_with (refine mW rfl 46 (.tmp 15) (.tmp 49) rfl U.heap.size #[.int .i64 x.r.kind,.int .i64 x.r.kids,.string x.r.op,.string x.r.text,x.m,.string x.r.bQ,.string x.r.step,.string x.r.off,.string x.r.tim,.bool x.r.bool,.bool x.r.given,.bool x.r.on,x.o,.int .i64 x.r.card,x.i,.bool x.r.without,x.l] rfl rfl (aH.new U 46 zc) (by kernel_rfl) rfl h17 ?_;intro U2 aM tm;have bD:=aa (And.intro aM tm);clear aM tm)
    have nr:Below U.heap.size U U2:=ic ((aS _ U).alloc (aP _) _) bD.out.2 (by simp) (aP _);exact hK _ _ (lA nr) (mG.ia HI.out.1.below.size nr) ⟨W0.heap.size,U.heap.size,_,⟨HLO.out,bn HI.out.2.2.2 nr.size⟩,HI.out.1.of nr,HI.out.2.1.below nr,bD.out.1,rfl⟩
   case body=>
    rintro l pre ⟨xd,xr,xm,xo,xi,xl⟩ a' U cC ⟨lo,gr,v49,⟨aga,agb⟩,hU,LH,iu,rfl⟩;obtain⟨Z2,Ar,e1,e2⟩:=Wc cC;have XO:dA lo U xr xm xo xi xl:=LH.1;have hxd:xd≤1099511627776:=LH.2;clear LH;replace e1:(rowsOf rs)[pre.length]=xr:=e1;replace e2:(da (rowsOf rs))[pre.length]=xd:=e2;replace iu:aH U gr 46 (dN xr xm xo xi xl):=iu;obtain⟨oam,cm,rfl,-⟩:=sA XO.m;obtain⟨oao,co,rfl,-⟩:=sA XO.o;obtain⟨oai,ci,rfl,-⟩:=sA XO.i;obtain⟨oal,cl,rfl,-⟩:=sA XO.l;have HU:=aa hU;have HPX:Hid (WI.Px lo ⟨xd,xr,.slice oam xr.ms.length cm,.slice oao xr.mls.length co,.slice oai xr.inc.length ci,.slice oal xr.labels.length cl⟩ U):=aa ⟨XO,hxd⟩;have HLO:=aa (And.intro aga agb);have HLX:Hid (iO xr):=aa (HLN.out _ (by rw[←e1];exact gj Z2));obtain⟨aw',cw',hvw,hcw⟩:=HWL.out;injection hvw with i1 i2 i3
    subst i1 i2 i3;obtain⟨gw,ow,rfl,-,hgw,vm,vo,vi,vl,mj,aZ⟩:=hcw pre.length Z2;rw[e1]at mj aZ;have hod:=HOL.out;rw[We]at hod;obtain⟨ad',cd',hvd,hcd⟩:=mL (fun d:Nat=>[pV d]) 1 (fun _=>rfl) (da (rowsOf rs)) hod;injection hvd with i1 i2 i3
    subst i1 i2 i3;obtain⟨gd,od,rfl,-,Sc,Tv⟩:=hcd pre.length Ar;replace Tv:=Tv 0 (by omega);rw[e2]at Tv;have d0:WL.cell? ⟨gd,od+pre.length,none⟩=some (.int .i64 (xd:Int)):=by simpa [pV]using Tv
    have kU: ∀q o v,q<WL.heap.size→WL.cell? ⟨q,o,none⟩=some v→U.drew.cell? ⟨q,o,none⟩=some v:=fun q o v hq hc=>(HU.out.below.cell (p:=⟨q,o,none⟩) hq).trans hc
    have S5:U.drew.cell? ⟨W.heap.size,0,none⟩=some (.int .i64 (pre.length:Int)):=hU.uv.cell 0;have c5:U.drew.cell? ⟨w2.heap.size,0,none⟩=some (.slice (some ⟨gw,ow,none⟩) (rowsOf rs).length cw):=kU _ _ _ H7.out.2.2.1.lt (H7.out.2.2.1.cell 0);have c9:U.drew.cell? ⟨w5.heap.size,0,none⟩=some (.slice (some ⟨gd,od,none⟩) (da (rowsOf rs)).length cd):=kU _ _ _ H7.out.2.2.2.1.lt (H7.out.2.2.2.1.cell 0);have cd0:=kU _ _ _ Sc d0;have p3:(((rowsOf rs).length:Int)≤(pre.length:Int))=False:=bL (by omega);have p4:((pre.length:Int)<((rowsOf rs).length:Int))=True:=az (by omega);have p5:((pre.length:Int)<((da (rowsOf rs)).length:Int))=True:=az (by omega);obtain⟨V1,hV1⟩: ∃V1,V1=jP xr (.slice oam xr.ms.length cm) (.slice oao xr.mls.length co) (.slice oai xr.inc.length ci) (.slice oal xr.labels.length cl):=⟨_,rfl⟩;obtain⟨V2,hV2⟩: ∃V2,V2=jP xr vm vo vi vl:=⟨_,rfl⟩;have HSR:Hid (∀W',Below U.heap.size U W'→Calls prog 12 #[V1,V2] W' (aC W' true)):=aa fun W' hb=>by rw[hV1,hV2];exact Dg (XO.ls.below hb) ((mj.below HU.out.below).below hb) HLX.out
    have HL1:Hid ((Instr.loadAt 46 (.pointer (some ⟨gr,0,none⟩))).run prog U.drew= .ok V1 U.drew):=aa (by rw[hV1];exact CL (show aH U.drew gr 46 _ from iu));have HL2:Hid ((Instr.loadAt 46 (.pointer (some ⟨gw,ow+pre.length*17,none⟩))).run prog U.drew= .ok V2 U.drew):=aa (by rw[hV2];exact RS fun k hk=>kU _ _ _ hgw (aZ k hk));have HL3:Hid (∀W',Below U.heap.size U W'→(Instr.loadAt 46 (.pointer (some ⟨gr,0,none⟩))).run prog W'= .ok (.agg #[.int .i64 xr.kind,.int .i64 xr.kids,.string xr.op,.string xr.text,.slice oam xr.ms.length cm,.string xr.bQ,.string xr.step,.string xr.off,.string xr.tim,.bool xr.bool,.bool xr.given,.bool xr.on,.slice oao xr.mls.length co,.int .i64 xr.card,.slice oai xr.inc.length ci,.bool xr.without,.slice oal xr.labels.length cl]) W'):=aa fun W' hb=>CL (iu.below hb iu.lt)
    have Xp:Hid (∀W',Below U.heap.size U W'→Calls prog 13 #[.slice (some ⟨W'.heap.size,0,none⟩) 1 1] (W'.alloc (.cells #[.int .i64 xr.kind,.int .i64 xr.kids,.string xr.op,.string xr.text,.slice oam xr.ms.length cm,.string xr.bQ,.string xr.step,.string xr.off,.string xr.tim,.bool xr.bool,.bool xr.given,.bool xr.on,.slice oao xr.mls.length co,.int .i64 xr.card,.slice oai xr.inc.length ci,.bool xr.without,.slice oal xr.labels.length cl] 46)) fun e w'=>e= .returned (.bool true)∧fQ lo W'.heap.size (W'.alloc (.cells #[.int .i64 xr.kind,.int .i64 xr.kids,.string xr.op,.string xr.text,.slice oam xr.ms.length cm,.string xr.bQ,.string xr.step,.string xr.off,.string xr.tim,.bool xr.bool,.bool xr.given,.bool xr.on,.slice oao xr.mls.length co,.int .i64 xr.card,.slice oai xr.inc.length ci,.bool xr.without,.slice oal xr.labels.length cl] 46)) w'):=aa fun W' hb=>RR (HPX.out.below hb) HLX.out (bn HLO.out.2 hb.size)
    have hpl:pre.length≤1048576:=by omega
    dsimp only;clear hU XO hxd Tv hod d0 aga agb aZ hcw kU iu Sc hgw Z2 Ar e1 e2 hV1 hV2 mj
    gi_wp2_with fail
    refine wpIn_region_any (by kernel_rfl) ?_;rename_i KK yr;have HKK:=aa yr;clear yr;change wpAnyIn _ _ _ _ _ _ _ _ _ (World.drew _);refine abR (X:=?X1) (fun hk=>?m1) ?s1
    case m1=>
     repeat' (first|((with_reducible show AllReadyIn _ _ _ _ _ _ _ _ _ _ []);exact AllReadyIn.nil)|((with_reducible show AllReadyIn _ _ _ _ _ _ _ _ _ _ (_::_));refine AllReadyIn.cons rfl (fun K hK=>?_) ?_)|((with_reducible show wpAnyIn _ _ _ _ _ _ _ _ _ _);first|(refine wpAnyIn_ready (rs:=[0,1]) (by decide+kernel) (by simp) ?_)|(refine wpAnyIn_ready (rs:=[1]) (by decide+kernel) (by simp) ?_)|(refine wpAnyIn_ready (rs:=[0,2]) (by decide+kernel) (by simp) ?_)|(refine wpAnyIn_ready (rs:=[0]) (by decide+kernel) (by simp) ?_)|(refine wpAnyIn_ready (rs:=[2]) (by decide+kernel) (by simp) ?_)|(refine wpAnyIn_ready (rs:=[3]) (by decide+kernel) (by simp) ?_)|(refine wpAnyIn_ready (rs:=[4]) (by decide+kernel) (by simp) ?_))|((with_reducible show ite _ _ _);go_simp;refine hK _ _ ?_;clear hK K))
     all_goals exact hk
    refine abR (X:=?X2) (fun hk=>?m2) ?s2
    case m2=>
     repeat' (first|((with_reducible show AllReadyIn _ _ _ _ _ _ _ _ _ _ []);exact AllReadyIn.nil)|((with_reducible show AllReadyIn _ _ _ _ _ _ _ _ _ _ (_::_));refine AllReadyIn.cons rfl (fun K hK=>?_) ?_)|((with_reducible show wpAnyIn _ _ _ _ _ _ _ _ _ _);first|(refine wpAnyIn_ready (rs:=[5,6,7]) (by decide+kernel) (by simp) ?_)|(refine wpAnyIn_ready (rs:=[6,7]) (by decide+kernel) (by simp) ?_)|(refine wpAnyIn_ready (rs:=[5,7]) (by decide+kernel) (by simp) ?_)|(refine wpAnyIn_ready (rs:=[5,6]) (by decide+kernel) (by simp) ?_)|(refine wpAnyIn_ready (rs:=[7]) (by decide+kernel) (by simp) ?_)|(refine wpAnyIn_ready (rs:=[6]) (by decide+kernel) (by simp) ?_)|(refine wpAnyIn_ready (rs:=[5]) (by decide+kernel) (by simp) ?_)|(refine wpAnyIn_ready (rs:=[5,8]) (by decide+kernel) (by simp) ?_)|(refine wpAnyIn_ready (rs:=[8]) (by decide+kernel) (by simp) ?_)|(refine wpAnyIn_ready (rs:=[5,9]) (by decide+kernel) (by simp) ?_)|(refine wpAnyIn_ready (rs:=[9]) (by decide+kernel) (by simp) ?_))|((with_reducible show ite _ _ _);go_simp;refine hK _ _ ?_;clear hK K))
     all_goals exact hk
    refine abR (X:=?X3) (fun hk=>?m3) ?s3
    case m3=>
     repeat' (first|((with_reducible show AllReadyIn _ _ _ _ _ _ _ _ _ _ []);exact AllReadyIn.nil)|((with_reducible show AllReadyIn _ _ _ _ _ _ _ _ _ _ (_::_));refine AllReadyIn.cons rfl (fun K hK=>?_) ?_)|((with_reducible show wpAnyIn _ _ _ _ _ _ _ _ _ _);first|(refine wpAnyIn_ready (rs:=[10]) (by decide+kernel) (by simp) ?_)|(refine wpAnyIn_ready (rs:=[11]) (by decide+kernel) (by simp) ?_)|(refine wpAnyIn_ready (rs:=[12]) (by decide+kernel) (by simp) ?_)|(refine wpAnyIn_ready (rs:=[13,14,15]) (by decide+kernel) (by simp) ?_)|(refine wpAnyIn_ready (rs:=[14,15]) (by decide+kernel) (by simp) ?_)|(refine wpAnyIn_ready (rs:=[13,15]) (by decide+kernel) (by simp) ?_)|(refine wpAnyIn_ready (rs:=[13,14]) (by decide+kernel) (by simp) ?_)|(refine wpAnyIn_ready (rs:=[15]) (by decide+kernel) (by simp) ?_)|(refine wpAnyIn_ready (rs:=[14]) (by decide+kernel) (by simp) ?_)|(refine wpAnyIn_ready (rs:=[13,16]) (by decide+kernel) (by simp) ?_)|(refine wpAnyIn_ready (rs:=[16]) (by decide+kernel) (by simp) ?_)|(refine wpAnyIn_ready (rs:=[13,17]) (by decide+kernel) (by simp) ?_)|(refine wpAnyIn_ready (rs:=[17]) (by decide+kernel) (by simp) ?_)|(refine wpAnyIn_ready (rs:=[13]) (by decide+kernel) (by simp) ?_))|((with_reducible show ite _ _ _);first|(refine ye 46 (.tmp 15) rfl rfl HL1.out (by kernel_rfl) ?_;refine hK _ _ ?_;clear hK K)|(refine ye 46 (.tmp 66) rfl rfl HL2.out (by kernel_rfl) ?_;refine hK _ _ ?_;clear hK K)|(go_simp;refine hK _ _ ?_;clear hK K)))
     all_goals exact hk
    refine wpAnyIn_ready (rs:=[18]) (by kernel_rfl) (by simp) ?_;refine AllReadyIn.cons rfl (fun K hK=>?_) AllReadyIn.nil;go_simp;refine⟨trivial,?_⟩;refine(CallsIn.inRound l (oJ.2 (HSR.out _ (aS _ U).drew))).mono ?_;rintro e W2 ⟨rfl,hb⟩;have zO:Hid (Below U.heap.size U W2):=aa ((aS _ U).drew.trans hb);clear hb;refine hK _ _ ?_;clear hK K;refine wpAnyIn_ready (rs:=[19]) (by kernel_rfl) (by simp) ?_;refine AllReadyIn.cons rfl (fun K hK=>?_) AllReadyIn.nil;go_simp;refine hK _ _ ?_;clear hK K;refine wpAnyIn_ready (rs:=[20]) (by kernel_rfl) (by simp) ?_;refine AllReadyIn.cons rfl (fun K hK=>?_) AllReadyIn.nil;go_simp;refine hK _ _ ?_;clear hK K;refine wpAnyIn_ready (rs:=[21]) (by kernel_rfl) (by simp) ?_;refine AllReadyIn.cons rfl (fun K hK=>?_) AllReadyIn.nil;go_simp;refine hK _ _ ?_;clear hK K;refine wpAnyIn_ready (rs:=[22]) (by kernel_rfl) (by simp) ?_;refine AllReadyIn.cons rfl (fun K hK=>?_) AllReadyIn.nil;refine ye 46 (.tmp 15) rfl rfl (HL3.out _ zO.out) (by kernel_rfl) ?_;refine hK _ _ ?_;clear hK K;refine wpAnyIn_ready (rs:=[23]) (by kernel_rfl) (by simp) ?_;refine AllReadyIn.cons rfl (fun K hK=>?_) AllReadyIn.nil;go_simp;refine hK _ _ ?_;clear hK K;refine wpAnyIn_ready (rs:=[24]) (by kernel_rfl) (by simp) ?_;refine AllReadyIn.cons rfl (fun K hK=>?_) AllReadyIn.nil;go_simp;refine⟨trivial,?_⟩;refine(CallsIn.inRound l (oJ.2 (Xp.out _ zO.out))).mono ?_;rintro e W3 ⟨rfl,gJ⟩;obtain⟨PY,hK3,hP3⟩:=TR.ah4 (B:=V.heap.size) HU.out (zO.out.alloc zO.out.size _) gJ (by have:=Sx.out;have:=HLO.out;omega) (by have:=Sx.out;have:=HLO.out;omega) (by have:=HV.out.below.size;have:=HLO.out;omega) (fun D hD=>by have:=Sx.out.1 D hD;have:=HLO.out;omega);have HT3:=aa PY;have HN:=aa (PY.next (B:=V.heap.size) (show g≠W.heap.size by have:=Sx.out;omega) (by have:=Sx.out;have:=hI.out.below.size;omega));have HK3:=aa (And.intro hK3 hP3);have k13:W3.cell? ⟨W.heap.size,0,none⟩=some (.int .i64 (pre.length:Int)):=PY.uv.cell 0;have k12:W3.cell? ⟨g,0,none⟩=some (.int .i64 (k:Int)):=PY.box.cell 0;have kst:W3.cell? ⟨w.heap.size,0,none⟩=some (.int .i64 stop):=(PY.below.cell (p:=⟨w.heap.size,0,none⟩) H7.out.1.lt).trans (H7.out.1.cell 0);have f13:=PY.uv.frozen 0;have s13:=PY.uv.lt;have n1: ¬(g=W.heap.size):=by have:=Sx.out;omega
    have n2: ¬(w.heap.size=W.heap.size):=by have:=H7.out.1.lt;have:=hI.out.below.size;omega
    clear gJ PY hK3 hP3;refine hK _ _ ?_;clear hK K;refine wpAnyIn_ready (rs:=[25]) (by kernel_rfl) (by simp) ?_;refine AllReadyIn.cons rfl (fun K hK=>?_) AllReadyIn.nil;go_simp;refine hK _ _ ?_;clear hK K;refine wpAnyIn_ready (rs:=[26]) (by kernel_rfl) (by simp) ?_;refine AllReadyIn.cons rfl (fun K hK=>?_) AllReadyIn.nil;go_simp;refine hK _ _ ?_;clear hK K;refine wpAnyIn_done (by kernel_rfl) ?_ _;refine HKK.out _ _ ?_;by_cases lC:k=1
    ·have p6:((k:Int)==1)=true:=by simp[lC]
     have p7:((k:Int)=1)=True:=az (by omega)
     gi_wp2_with fail
     refine⟨HK3.out.1.trans HN.out.2.1,HK3.out.2.trans HN.out.2.2,?_⟩;show TR WL k ds g W.heap.size (pre++[_]).length _;rw[fT];exact HN.out.1
    ·have p6:((k:Int)==1)=false:=by simp;omega
     have p7:((k:Int)=1)=False:=bL (by omega);by_cases cA:(pre.length:Int)+1=stop
     ·have p8:((pre.length:Int)+1==stop)=true:=by simp[cA]
      gi_wp2_with fail
      have HN2:=HN.out;rw[cA]at HN2;refine⟨HK3.out.1.trans HN2.2.1,?_,rfl,lC,by simp[cA]⟩;show TR WL k ds g W.heap.size (pre++[_]).length _;rw[fT];exact HN2.1
     ·have p8:((pre.length:Int)+1==stop)=false:=by simp[cA]
      have p9:((pre.length:Int)+1=stop)=False:=bL cA
      gi_wp2_with fail
      refine⟨HK3.out.1.trans HN.out.2.1,HK3.out.2.trans HN.out.2.2,?_⟩;show TR WL k ds g W.heap.size (pre++[_]).length _;rw[fT];exact HN.out.1
   case done=>
    rintro D xs U hD Xs hU hK;have NZ:xs.length=(rowsOf rs).length:=by
     have:=bT List.length Xs
     rwa [kG,JW]at this
    have HU:=aa hU;have HHK:=aa (And.intro hD hK);have k13:U.cell? ⟨W.heap.size,0,none⟩=some (.int .i64 ((rowsOf rs).length:Int)):=by rw[←NZ];exact hU.uv.cell 0
    have k12:U.cell? ⟨g,0,none⟩=some (.int .i64 (k:Int)):=hU.box.cell 0;have kw:U.cell? ⟨w2.heap.size,0,none⟩=some (.slice aw nw cw):=(hU.below.cell (p:=⟨w2.heap.size,0,none⟩) H7.out.2.2.1.lt).trans (H7.out.2.2.1.cell 0);rw[HNW.out]at kw;clear hU hK hD Xs
    gi_wp2_with fail
    refine⟨⟨k+1,D::ds,U.heap.size,aa (TW.again HU.out hk hI.out.len hI.out.ne (fun D' h'=>⟨(hI.out.held D' h').1,Sx.out.1 D' h'⟩) HV.out.below.size HHK.out.1 HHK.out.2),aa ⟨rfl,rfl,rfl,rfl,rfl,rfl,rfl⟩,rfl⟩,?_⟩;have:=hI.out.len;simp only[dI,kG];omega
   case stop=>
    rintro D c pre U hD F4 ⟨hU,rfl,lC,cA⟩ hK;have HU:=aa hU;have HHK:=aa (And.intro hD hK);have k13:U.cell? ⟨W.heap.size,0,none⟩=some (.int .i64 (pre.length:Int)):=hU.uv.cell 0;have k12:U.cell? ⟨g,0,none⟩=some (.int .i64 (k:Int)):=hU.box.cell 0;have kst:U.cell? ⟨w.heap.size,0,none⟩=some (.int .i64 (pre.length:Int)):=by rw[cA];exact(hU.below.cell (p:=⟨w.heap.size,0,none⟩) H7.out.1.lt).trans (H7.out.1.cell 0)
    have kw:U.cell? ⟨w2.heap.size,0,none⟩=some (.slice aw nw cw):=(hU.below.cell (p:=⟨w2.heap.size,0,none⟩) H7.out.2.2.1.lt).trans (H7.out.2.2.1.cell 0);rw[HNW.out]at kw;have p6:((k:Int)==1)=false:=by simp;omega
    have p7:((k:Int)=1)=False:=bL (by omega);clear hU hK hD cA;by_cases hpe:pre.length=(rowsOf rs).length
    ·rw[hpe]at k13 kst
     gi_wp2_with fail
     refine⟨⟨k+1,D::ds,U.heap.size,aa (TW.again HU.out hk hI.out.len hI.out.ne (fun D' h'=>⟨(hI.out.held D' h').1,Sx.out.1 D' h'⟩) HV.out.below.size HHK.out.1 HHK.out.2),aa ⟨rfl,rfl,rfl,rfl,rfl,rfl,rfl⟩,rfl⟩,?_⟩;have:=hI.out.len;simp only[dI,kG];omega
    ·have q1:((pre.length:Int)==((rowsOf rs).length:Int))=false:=by simp;omega
     have q2:((pre.length:Int)=((rowsOf rs).length:Int))=False:=bL (by omega)
     gi_wp2_with fail
     refine⟨⟨k+1,D::ds,U.heap.size,aa (TW.again HU.out hk hI.out.len hI.out.ne (fun D' h'=>⟨(hI.out.held D' h').1,Sx.out.1 D' h'⟩) HV.out.below.size HHK.out.1 HHK.out.2),aa ⟨rfl,rfl,rfl,rfl,rfl,rfl,rfl⟩,rfl⟩,?_⟩;have:=hI.out.len;simp only[dI,kG];omega
  ·have p2:((k:Int)<3)=False:=bL (by omega);have c4:W.cell? ⟨w.heap.size+1,0,none⟩=some (.bool false):=HE.out.cell 0;have f4:=HE.out.frozen 0;have s4:=HE.out.lt;have HF:Hid (aH (W.setCell ⟨w.heap.size+1,0,none⟩ (.bool true)) (w.heap.size+1) 4 #[.bool true]∧Below w.heap.size w (W.setCell ⟨w.heap.size+1,0,none⟩ (.bool true))∧ ∀D∈ds,w.heap.size≤D∧(W.setCell ⟨w.heap.size+1,0,none⟩ (.bool true)).heap[D]? =some (.deferred (some []))):=by
    refine aa ⟨by have:=HE.out.dw 0 (.bool true);simpa using this,(BL.out.trans (hI.out.below.mono BL.out.size)).setCell (p:=⟨w.heap.size+1,0,none⟩) (by simp) _,fun D hD=>⟨bn BL.out.size (hI.out.held D hD).1,?_⟩⟩;rw[vr W ⟨w.heap.size+1,0,none⟩ _ D ?_]
    ·exact(hI.out.held D hD).2
    ·show D≠w.heap.size+1;rintro rfl;have h1:=(hI.out.held _ hD).2;rw[show W.heap[w.heap.size+1]? =_ from HE.out]at h1;cases h1
   gi_wp2_with fail
   refine zH (B:=w.heap.size) (G:=fun U=>aH U (w.heap.size+1) 4 #[.bool true]∧Below w.heap.size w U) (fun U D o' hD hd hU=>⟨GI (B:=w.heap.size) () U _ (some D) hU.1 (grownBy_putObj' U D o') (fun r e=>by cases e;exact⟨hD,_,hd,rfl⟩),hU.2.grown (grownBy_putObj' U D o') hU.2.size (fun r e=>by cases e;exact hD)⟩) (fun U hU=>⟨.bool true,?_,rfl,hU.2⟩) ds _ hI.out.ne HF.out.2.2 ⟨HF.out.1,HF.out.2.1⟩;have c5:U.cell? ⟨w.heap.size+1,0,none⟩=some (.bool true):=hU.1.cell 0;simp[results,results3,go_sem,c5]
