import Derived.Laws.OwnMore
import Derived.Test.YtibcjfjacielbaaGreatDoorH17
import Derived.Test.YtibcjfjacielbaaGreatDoorH27
/- Part of the proof of YtibcjfjacielbaaGreatDoorCardH: App TsA TsD. -/
set_option maxRecDepth 100000
set_option maxHeartbeats 4000000
set_option linter.unusedVariables false
set_option linter.unusedSimpArgs false
namespace Go.Proofs.YtibcjfjacielbaaGreatDoor
open Go.RowKit
def SameBlk (v v':Value):Prop:= ∃g n m cap,v= .slice (some ⟨g,0,none⟩) n cap∧v'= .slice (some ⟨g,0,none⟩) m cap
theorem run_append_two {P:Program} (w:World) (base:Nat) (t ty e:TypeId) (i:TypeInfo) (z:Value) (size bytes:Nat) (ht:P.underlying t=some (.slice e)) (hi:P.info? e=some i) (hz:i.zero=some z)
  (hsize:i.size=size) (hby:i.bytes=bytes) (hzs:z.cells.size=size) (hsz:0<size)
  (v:Value) (n:Nat) (xs:List Value) (hown:w.ownsRow base e size v n xs)
  (a:Addr) (m c:Nat) (news:List Value) (hl:news.length=m*size) (hnews: ∀j u,news[j]? =some u→w.cell? (a.add j)=some u) (h1: ∀u∈news,u.oneCell'=true)
  (h63:n+m≤maxLen) (hbytes:(n+m)*bytes≤140737488355328) (hbase:base≤w.heap.size) (hm:0<m):
  ∃v' w',(Builtin.append_ #[t,t] ty #[v,.slice (some a) m c]).run P w= .ok v' w'∧w'.ownsRow base e size v' (n+m) (xs++news)∧w.grownBy w' v.ownBlock∧
   (SameBlk v v'∨(v'.ownBlock=some w.heap.size∧w.grownBy w' none)):=by
 obtain⟨v',w',hr,ho,hg,hnil⟩:=run_append_own (P:=P) w base t ty e i z size bytes ht hi hz hsize hby hzs hsz v n xs hown a m c news hl hnews h1 h63 hbytes hbase;refine⟨v',w',hr,ho,hg,?_⟩;rcases hown.2 with⟨rfl,rfl⟩|⟨g,cap,cur,rfl,hbg,hgg,hnc,hcm,hcs,htake⟩
 ·refine .inr ⟨?_,hg⟩;have hb:m*i.bytes≤281474976710656:=by rw[hby];rw[Nat.zero_add]at hbytes;omega
  have hr2:=run_append_nil (P:=P) w t ty e i z ht hi hz a m c news (by rw[hsize];exact hl) hnews hm (by have:=h63;simp only[maxLen]at this;omega) hb;rw[hr2]at hr;injection hr with e1 e2
  subst e1;rfl
 ·subst hsize;by_cases hroom:n+m≤cap
  ·have hfit:n*i.size+news.length≤cur.size:=by rw[hl,hcs,←Nat.add_mul];exact Nat.mul_le_mul_right _ hroom
   have hr2:=run_append_room (P:=P) w t ty e i ht hi g n cap cur hgg a m c news hl hnews h1 hroom hfit;rw[hr2]at hr;injection hr with e1 e2
   subst e1;exact .inl ⟨g,n,n+m,cap,rfl,rfl⟩
  ·have holds: ∀j u,xs[j]? =some u→w.cell? ((⟨g,0,none⟩:Addr).add j)=some u:=hown.cells (g:=g) rfl;have hr2:=run_append_grow (P:=P) w t ty e i z ht hi hz ⟨g,0,none⟩ n cap xs hown.1 holds a m c news hl hnews (by omega) (by have:=h63;simp only[maxLen]at this;omega) (growslice_fits (by omega) (by rw[hby];exact hbytes));rw[hr2]at hr;injection hr with e1 e2
   subst e1;refine .inr ⟨rfl,?_⟩;rw[←e2];exact⟨rfl,rfl,rfl,by simp,fun _ hk _=>heap_alloc_old w.drew _ hk⟩
theorem wpList_push2 {P : Program} {w0 : World} {ops : Array Oper} {rest : List Oper} {o : Oper} {a : Act} {Q : Exit → Act → World → Prop}
    (hg : o.guard = none) (s x : Operand) (t : TypeId) (hop : o.op = Op.call { callee := Callee.builtin Builtin.append, args := #[s, x], argTypes := #[t, t] })
    (base : Nat) (e : TypeId) (z : Value) (size bytes : Nat) (hinfo : (P.info? e).map (fun i => (i.zero, i.size, i.bytes)) = some (some z, size, bytes)) (h1 : P.underlying t = some (.slice e)) (hzs : z.cells.size = size) (hsz : 0 < size)
    (v : Value) (n : Nat) (xs : List Value) (hs : a.eval s = v) (hown : w0.ownsRow base e size v n xs) (us : List Value) (hus : us.length = size)
    (hx : a.eval x = .slice (some ⟨w0.heap.size, 0, none⟩) 1 1) (h1c : ∀ u ∈ us, u.oneCell' = true) (hmax : n + 1 ≤ maxLen) (hb : (n + 1) * bytes ≤ 140737488355328) (hbase : base ≤ w0.heap.size)
    (hK : ∀ v' w', w'.ownsRow base e size v' (n + 1) (xs ++ us) → w0.grownBy w' v.ownBlock → (SameBlk v v' ∨ (v'.ownBlock = some (w0.heap.size + 1) ∧ w0.grownBy w' none)) → wpList P ops Q rest (a.put o.dst v') w') :
    wpList P ops Q (o::rest) a (w0.alloc (.cells us.toArray e)):=by
  obtain⟨i,hi,hz,hsi,hby⟩:=info_parts hinfo
  refine wpList_plain hg fun K hKK=>?_
  obtain ⟨v', w', hr, r1, r2, r3⟩ := run_append_two (P := P) (w0.alloc (.cells us.toArray e)) base t o.type e i z size bytes h1 hi hz hsi hby hzs hsz v n xs (hown.alloc _) ⟨w0.heap.size, 0, none⟩ 1 1 us (by omega)
    (by intro j u hu
        have hj:j<us.length:=(List.getElem?_eq_some_iff.1 hu).1
        rw[Addr.add_lit,Nat.zero_add,World.cell?_alloc_at _ _ _ _ rfl]
        simpa using hu) h1c hmax hb (by simp;omega) (by omega)
  unfold Oper.wp execOp
  simp only[hop,resolve,invoke,builtin,Sem.run_bind,Sem.run_pure,Result.andThen_ok,List.map_toArray,List.map_cons,List.map_nil,hs,hx,hr]
  refine hKK _ _ (hK v' w' r1 (grow_trans (World.grownBy_alloc w0 _ _) r2) ?_)
  rcases r3 with h|⟨h,h'⟩
  · exact .inl h
  · exact .inr ⟨by simpa using h, grow_trans (World.grownBy_alloc w0 _ _) h'⟩
def selC (x:SelR×Value):List Value:=[.string x.1.name,x.2,.string x.1.off,.string x.1.tim]
def MatK (B:Nat) (t5:Value) (W:World) (v:Value) (ms:List PM):Prop:= ∃lo w1,MatS lo w1 v ms∧B≤lo∧Agree lo w1 W∧Off lo w1 t5
theorem MatK.below {B:Nat} {t5:Value} {W W':World} {v:Value} {ms:List PM} (h:MatK B t5 W v ms) (hb:Below W.heap.size W W'):MatK B t5 W' v ms:=by
 obtain⟨lo,w1,h1,h2,h3,h4⟩:=h;exact⟨lo,w1,h1,h2,h3.below hb,h4⟩
theorem MatK.push {B:Nat} {t5 t6:Value} {W W':World} {v:Value} {ms:List PM} (h:MatK B t5 W v ms) (hg:W.grownBy W' t5.ownBlock) (ht:SameBlk t5 t6∨(t6.ownBlock=some (W.heap.size+1)∧W.grownBy W' none)):MatK B t6 W' v ms:=by
 obtain⟨lo,w1,h1,h2,h3,h4⟩:=h;refine⟨lo,w1,h1,h2,h3.grow hg h4,fun q hq=>?_⟩;rcases ht with⟨g,n,m,cap,e1,e2⟩|⟨e1,_⟩
 ·subst e1 e2;exact h4 q (by simpa [Value.ownBlock]using hq)
 ·rw[e1]at hq;injection hq with hq
  have:=h3.1;omega
theorem MatK.set_ {B p i:Nat} {t5 u:Value} {W:World} {v:Value} {ms:List PM} (h:MatK B t5 W v ms) (hp:p<B):MatK B t5 (W.setCell ⟨p,i,none⟩ u) v ms:=by
 obtain⟨lo,w1,h1,h2,h3,h4⟩:=h;refine⟨lo,w1,h1,h2,⟨by simpa using h3.1,fun k hk hl=>?_⟩,h4⟩;rw[Below.heap_setCell W ⟨p,i,none⟩ u k (by show k≠p;omega)];exact h3.2 k hk hl
theorem keepT_own {w w':World} {b:Nat} {e t:TypeId} {size n:Nat} {v:Value} {xs:List Value} (h:w.ownsRow b e size v n xs) (hg:w.grownBy w' v.ownBlock) (hne:e≠t):KeepT t w w':=
 fun g cs hb=>hb.grown hg (own_blk_ne h hb hne).symm
def SelX (B:Nat) (W:World) (zs:List (SelR×Value)):Prop:=(∀z∈zs,MatO B W z.2 z.1.ms)∧zs.Pairwise fun x y=>Apart x.2 y.2
theorem SelX.below {B:Nat} {W W':World} {zs:List (SelR×Value)} (h:SelX B W zs) (hb:Below W.heap.size W W'):SelX B W' zs:=⟨fun z hz=>own_belowE (h.1 z hz) hb,h.2⟩
structure SelsI (p:Nat) (L:List (Nat×PR)) (W:World):Prop where
 ex: ∃(v:Value) (zs:List (SelR×Value)),zs.map (·.1)=selsOf (L.map (·.2))∧Blk W p 30 #[v]∧W.ownsRow (p+1) 36 4 v zs.length (zs.flatMap selC)∧(∀z∈zs,MatK (p+1) v W z.2 z.1.ms)∧SelX (p+1) W zs
theorem SelsI.keep {p:Nat} (s:List (Nat×PR)) (A B:World) (h:SelsI p s A) (hb:Below A.heap.size A B):SelsI p s B:=by
 obtain⟨v,zs,h1,h2,h3,h4,h5⟩:=h.ex;exact⟨⟨v,zs,h1,h2.below hb h2.lt,own_belowE h3 hb,fun z hz=>(h4 z hz).below hb,h5.below hb⟩⟩
theorem selsOf_snoc (L:List PR) (r:PR):selsOf (L++[r])=selsOf L++(if r.kind=3 then[⟨r.text,r.ms,r.off,r.tim⟩]else[]):=by
 unfold selsOf;rw[List.filter_append,List.map_append];by_cases h:r.kind=3<;>simp[h]
theorem SelsI.skip {p d:Nat} {L:List (Nat×PR)} {W:World} {r:PR} (h:SelsI p L W) (hk:r.kind≠3):SelsI p (L++[(d,r)]) W:=by
 obtain⟨v,zs,h1,h2,h3,h4,h5⟩:=h.ex;refine⟨⟨v,zs,?_,h2,h3,h4,h5⟩⟩;rw[List.map_append,List.map_cons,List.map_nil,selsOf_snoc,if_neg hk,List.append_nil,h1]
def SelsPost2 (w:World) (L:List (Nat×PR)) (e:Ending) (w':World):Prop:=
 ∃(v:Value) (zs:List (SelR×Value)),e= .returned v∧zs.map (·.1)=selsOf (L.map (·.2))∧w'.ownsRow w.heap.size 36 4 v zs.length (zs.flatMap selC)∧(∀z∈zs,MatK w.heap.size v w' z.2 z.1.ms)∧Below w.heap.size w w'∧SelX w.heap.size w' zs
def SelS (w:World) (v:Value) (ss:List SelR):Prop:=
 ∃ao c,v= .slice ao ss.length c∧ ∀j (h:j<ss.length),∃g o vm,ao=some ⟨g,o,none⟩∧g<w.heap.size∧MatS 0 w vm ss[j].ms∧w.cell? ⟨g,o+j*4,none⟩=some (.string ss[j].name)∧w.cell? ⟨g,o+j*4+1,none⟩=some vm∧w.cell? ⟨g,o+j*4+2,none⟩=some (.string ss[j].off)∧w.cell? ⟨g,o+j*4+3,none⟩=some (.string ss[j].tim)
theorem SelS.of_own {b:Nat} {w:World} {e:TypeId} {v:Value} {zs:List (SelR×Value)} (h:w.ownsRow b e 4 v zs.length (zs.flatMap selC)) (hm: ∀z∈zs,MatS 0 w z.2 z.1.ms):SelS w v (zs.map (·.1)):=by
 obtain⟨ao,c,h1,h2⟩:=own_flat selC 4 (fun _=>rfl) zs h;refine⟨ao,c,by rw[h1,List.length_map],fun j hj=>?_⟩;have hj':j<zs.length:=by simpa using hj
 obtain⟨g,o,a,l,u,x⟩:=h2 j hj';have e:(zs.map (·.1))[j]=zs[j].1:=by simp
 rw[e];exact⟨g,o,zs[j].2,a,u,hm _ (List.getElem_mem hj'),x 0 (by omega),x 1 (by omega),x 2 (by omega),x 3 (by omega)⟩
theorem step_push2 {P : Program} {w0 : World} {ops : Array Oper} {o : Oper} {a : Act} {K : Act → World → Prop} {Q : Exit → Act → World → Prop} {E : Prop}
    (hg : o.guard = none) (s x : Operand) (t : TypeId) (hop : o.op = Op.call { callee := Callee.builtin Builtin.append, args := #[s, x], argTypes := #[t, t] })
    (base : Nat) (e : TypeId) (z : Value) (size bytes : Nat) (hinfo : (P.info? e).map (fun i => (i.zero, i.size, i.bytes)) = some (some z, size, bytes)) (h1 : P.underlying t = some (.slice e)) (hzs : z.cells.size = size) (hsz : 0 < size)
    (v : Value) (n : Nat) (xs : List Value) (hs : a.eval s = v) (hown : w0.ownsRow base e size v n xs) (us : List Value) (hus : us.length = size)
    (hx : a.eval x = .slice (some ⟨w0.heap.size, 0, none⟩) 1 1) (h1c : ∀ u ∈ us, u.oneCell' = true) (hmax : n + 1 ≤ maxLen) (hb : (n + 1) * bytes ≤ 140737488355328) (hbase : base ≤ w0.heap.size)
    (hK : ∀ v' w', w'.ownsRow base e size v' (n + 1) (xs ++ us) → w0.grownBy w' v.ownBlock → (SameBlk v v' ∨ (v'.ownBlock = some (w0.heap.size + 1) ∧ w0.grownBy w' none)) → K (a.put o.dst v') w') :
    if Region.wanted o (yielded ops a.tmps)=true then Oper.wp P o a (w0.alloc (.cells us.toArray e)) K Q else E:=by
  have hw:Region.wanted o (yielded ops a.tmps)=true:=by simp[Region.wanted,hg]
  rw[if_pos hw]
  obtain⟨i,hi,hz,hsi,hby⟩:=info_parts hinfo
  obtain ⟨v', w', hr, r1, r2, r3⟩ := run_append_two (P := P) (w0.alloc (.cells us.toArray e)) base t o.type e i z size bytes h1 hi hz hsi hby hzs hsz v n xs (hown.alloc _) ⟨w0.heap.size, 0, none⟩ 1 1 us (by omega)
    (by intro j u hu
        have hj:j<us.length:=(List.getElem?_eq_some_iff.1 hu).1
        rw[Addr.add_lit,Nat.zero_add,World.cell?_alloc_at _ _ _ _ rfl]
        simpa using hu) h1c hmax hb (by simp;omega) (by omega)
  unfold Oper.wp execOp
  simp only[hop,resolve,invoke,builtin,Sem.run_bind,Sem.run_pure,Result.andThen_ok,List.map_toArray,List.map_cons,List.map_nil,hs,hx,hr]
  refine hK v' w' r1 (grow_trans (World.grownBy_alloc w0 _ _) r2) ?_
  rcases r3 with h|⟨h,h'⟩
  · exact .inl h
  · exact .inr ⟨by simpa using h, grow_trans (World.grownBy_alloc w0 _ _) h'⟩
theorem info_sel:(Tryz.prog.info? 36).map (fun i=>(i.zero,i.size,i.bytes))=some (some (.agg #[.string ⟨#[]⟩,.slice none 0 0,.string ⟨#[]⟩,.string ⟨#[]⟩]),4,72):=by kernel_rfl
theorem SelsI.push {p d lo:Nat} {pre:List (Nat×PR)} {W W3:World} {v v' vm:Value} {zs:List (SelR×Value)} {r:PR} (h1:zs.map (·.1)=selsOf (pre.map (·.2))) (hb:Blk W p 30 #[v]) (ho:W.ownsRow (p+1) 36 4 v zs.length (zs.flatMap selC)) (hm: ∀z∈zs,MatK (p+1) v W z.2 z.1.ms) (hx:SelX (p+1) W zs)
  (hk:r.kind=3) (hv:MatO lo W vm r.ms) (hap: ∀z∈zs,Apart z.2 vm) (hlo:p+1≤lo) (hoff: ∀q,v.ownBlock=some q→q<lo)
  (ho':W3.ownsRow (p+1) 36 4 v' (zs.length+1) (zs.flatMap selC++[.string r.text,vm,.string r.off,.string r.tim])) (hg:W.grownBy W3 v.ownBlock) (ht:SameBlk v v'∨(v'.ownBlock=some (W.heap.size+1)∧W.grownBy W3 none)):
  SelsI p (pre++[(d,r)]) (W3.setCell ⟨p,0,none⟩ v'):=by
 have hb3:Blk W3 p 30 #[v]:=hb.grown hg (own_blk_ne ho hb (by decide)).symm;have hmo: ∀{m:Value} {ms:List PM} {B:Nat},MatO B W m ms→MatO B (W3.setCell ⟨p,0,none⟩ v') m ms:=fun h=>own_setBlk (h.kept hg (own_own_ne h ho (by decide))) hb3 (by decide) v'
 refine⟨⟨v',zs++[(⟨r.text,r.ms,r.off,r.tim⟩,vm)],?_,?_,?_,?_,?_⟩⟩
 ·rw[List.map_append,List.map_append,List.map_cons,List.map_nil,List.map_cons,List.map_nil,selsOf_snoc,if_pos hk,h1]
 ·have:=hb3.set_ 0 v';simpa using this
 ·rw[List.flatMap_append,List.length_append];exact own_setBlk (by simpa [selC]using ho') hb3 (by decide) v'
 ·intro z hz;rcases List.mem_append.1 hz with hz|hz
  ·exact((hm z hz).push hg ht).set_ (Nat.lt_succ_self p)
  ·rw[List.mem_singleton.1 hz];exact(MatK.push (t5:=v) ⟨lo,W,MatS.of_own hv,hlo,Agree.refl _ _,fun q hq=>.inl (hoff q hq)⟩ hg ht).set_ (Nat.lt_succ_self p)
 ·refine⟨fun z hz=>?_,List.pairwise_append.2 ⟨hx.2,List.pairwise_singleton _ _,fun z hz y hy=>by rw[List.mem_singleton.1 hy];exact hap z hz⟩⟩;rcases List.mem_append.1 hz with hz|hz
  ·exact hmo (hx.1 z hz)
  ·rw[List.mem_singleton.1 hz];exact own_mono (hmo hv) hlo
theorem sel_skip (p d:Nat) (t:TypeId) (x:Value) (W:World) (ht:t≠93):
  Calls Tryz.prog 58 #[.int .i64 (d:Int),.iface t x,.pointer (some ⟨p,0,none⟩)] W fun e W'=>e= .returned (.bool true)∧W=W':=by
 have a1:=asSelector;have h1:(t=93)=False:=eq_false ht;clear ht;go_enter Tryz.func58,Tryz.ntmps58;go_wp2_with fail;go_ret;exact⟨rfl,rfl⟩
theorem one4 (t:ByteArray) (am:Option Addr) (nm cm:Nat) (off tim:ByteArray): ∀u∈[Value.string t,.slice am nm cm,.string off,.string tim],u.oneCell'=true:=by
 intro u hu;simp only[List.mem_cons,List.not_mem_nil,or_false]at hu;rcases hu with rfl|rfl|rfl|rfl<;>rfl
theorem sel_fin {B p d:Nat} {pre:List (Nat×PR)} {W W1 W2:World} {v vm:Value} {zs:List (SelR×Value)} {r:PR} (h1:zs.map (·.1)=selsOf (pre.map (·.2))) (ho:W.ownsRow (p+1) 36 4 v zs.length (zs.flatMap selC)) (hm: ∀z∈zs,MatK (p+1) v W z.2 z.1.ms) (hx:SelX (p+1) W zs) (hk:r.kind=3) (hp:B≤p) (s0:p<W.heap.size)
  (hb1:Below W.heap.size W W1) (hb2:Below W.heap.size W W2) (hz:Blk W2 p 30 #[v]) (ho2:W2.ownsRow (p+1) 36 4 v zs.length (zs.flatMap selC)) (hv:MatO W1.heap.size W2 vm r.ms) (v3:Value) (W3:World)
  (ho3:W3.ownsRow (p+1) 36 4 v3 (zs.length+1) (zs.flatMap selC++[.string r.text,vm,.string r.off,.string r.tim])) (hg:W2.grownBy W3 v.ownBlock) (ht:SameBlk v v3∨(v3.ownBlock=some (W2.heap.size+1)∧W2.grownBy W3 none)):
  VisPost B (SelsI p) (fun _ _=>False) pre (d,r) W (.returned (.bool true)) (W3.setCell ⟨p,0,none⟩ v3):=by
 have hb3:Blk W3 p 30 #[v]:=hz.grown hg (own_blk_ne ho2 hz (by decide)).symm;have hl:=hb1.size;refine .inl ⟨rfl,SelsI.push h1 hz ho2 (fun z hz=>(hm z hz).below hb2) (hx.below hb2) hk hv (fun z hz=>apart_of (hx.1 z hz) hv hl) (by omega) (fun q hq=>by have:=(ho.lt q hq).2;omega) ho3 hg ht,?_⟩;have hbB:Below B W W3:=(hb2.mono (by omega)).grown hg (by have:=hb2.size;omega) (fun q hq=>by have:=(ho2.lt q hq).1;omega);exact⟨hbB.setCell (p:=⟨p,0,none⟩) hp _,((KeepT.of_below hb2).trans (keepT_own ho2 hg (by decide))).trans fun g cs hb=>hb.far (by rintro rfl;exact Blk.ne_ hb hb3 (by decide) rfl) _⟩
theorem sel_take {b B p d g:Nat} {W:World} {pre:List (Nat×PR)} {r:PR} (hn:NodeAt b W (.iface 93 (.pointer (some ⟨g,0,none⟩))) r []) (hk:r.kind=3) (hl:LenOK r) (hI:SelsI p pre W) (hlen:pre.length≤1099511627776) (hp:B≤p):
  Calls Tryz.prog 58 #[.int .i64 (d:Int),.iface 93 (.pointer (some ⟨g,0,none⟩)),.pointer (some ⟨p,0,none⟩)] W (VisPost B (SelsI p) (fun _ _=>False) pre (d,r) W):=by
 have a1:=asSelector;obtain⟨v,zs,h1,h2,h3,h4,h5⟩:=hI.ex;have hzl:zs.length≤1099511627776:=by
  have e:=congrArg List.length h1;rw[List.length_map]at e;have:(selsOf (pre.map (·.2))).length≤pre.length:=by
   unfold selsOf;rw[List.length_map];exact Nat.le_trans (List.length_filter_le _ _) (by simp)
  omega
 obtain⟨ao,no,co,rfl⟩:=own_sl h3;have HROW:Hid (∀W',Below W.heap.size W W'→Calls Tryz.prog 60 #[.iface 93 (.pointer (some ⟨g,0,none⟩))] W' (RowPost W' r)):=Lib.hid fun W' hb=>tree_rowOf (hn.below hb) hl
 have HSEL:Hid (∀W' m o i l,RowLs 0 W' r m o i l→Calls Tryz.prog 59 #[rowV r m o i l] W' (SelPostO W' r)):=Lib.hid fun W' m o i l h=>tree_selectorO h.1 hl.1
 have HK:=Lib.hid (And.intro h1 (And.intro hk hp));have HB:=Lib.hid h2;have HO:=Lib.hid h3;have HM:=Lib.hid h4;have HX5:=Lib.hid h5;have c0:W.drew.cell? ⟨p,0,none⟩=some (.slice ao no co):=h2.cell 0;have s0:=h2.lt;clear hn hk hl hI hlen hp h1 h2 h3 h4 h5;go_enter Tryz.func58,Tryz.ntmps58;go_upto_region 3 with(fail)
 go_region_law (first|(refine step_push2 rfl (.tmp 14) (.tmp 21) 30 rfl (p+1) 36 _ 4 72 info_sel Tryz.underlying30 rfl (by decide) _ zs.length (zs.flatMap selC) rfl HO2.out [.string r.text,.slice am nm cm,.string r.off,.string r.tim] rfl rfl HONE.out (by unfold maxLen;omega) (by omega) (by omega) ?_;intro v3 W3 ho3 hg3 ht3;have HF:=Lib.hid (HFIN.out v3 W3 ho3 hg3 ht3);obtain⟨a3,n3,c3,hv3⟩:=own_sl ho3;subst hv3;have b3:Blk W3 p 30 #[.slice ao no co]:=HB2.out.grown hg3 (own_blk_ne HO2.out HB2.out (by decide)).symm;have k3:W3.cell? ⟨p,0,none⟩=some (.slice ao no co):=b3.cell 0;have f3:=b3.frozen 0;clear ho3 hg3 ht3 b3)|(go_simp;go_at_call 60;(with_reducible refine(HROW.out _ (Below.refl _ W).drew).mono ?_);rintro e W1 ⟨vm,vo,vi,vl,rfl,hro,hb1⟩;have HR1:=Lib.hid (hro.ls.lo (Nat.zero_le _));have HB1:Hid (Below W.heap.size W W1):=Lib.hid (((Below.refl _ W).drew).trans hb1);have k1:W1.cell? ⟨p,0,none⟩=some (.slice ao no co):=(HB1.out.cell (p:=⟨p,0,none⟩) s0).trans (HB.out.cell 0);have s1:p<W1.heap.size:=Nat.lt_of_lt_of_le s0 HB1.out.size;clear hro hb1)|(go_simp;go_at_call 59;(with_reducible refine(HSEL.out _ _ _ _ _ HR1.out).mono ?_);rintro e W2 ⟨gs,am,nm,cm,rfl,hgb,hzs,hms,hb2⟩;have d0:W2.cell? ⟨gs,0,none⟩=some (.string r.text):=hzs.cell 0;have d1:W2.cell? ⟨gs,1,none⟩=some (.slice am nm cm):=hzs.cell 1;have d2:W2.cell? ⟨gs,2,none⟩=some (.string r.off):=hzs.cell 2;have d3:W2.cell? ⟨gs,3,none⟩=some (.string r.tim):=hzs.cell 3;have hgl:=hzs.lt;have HB12:Hid (Below W.heap.size W W2):=Lib.hid (HB1.out.trans (hb2.mono HB1.out.size));have HB2:Hid (Blk W2 p 30 #[.slice ao no co]):=Lib.hid (HB.out.below HB12.out s0);have HO2:Hid (W2.ownsRow (p+1) 36 4 (.slice ao no co) zs.length (zs.flatMap selC)):=Lib.hid (own_belowE HO.out HB12.out);have k2:W2.cell? ⟨p,0,none⟩=some (.slice ao no co):=HB2.out.cell 0;have s2:p<W2.heap.size:=HB2.out.lt;have HONE:Hid (∀u∈[Value.string r.text,.slice am nm cm,.string r.off,.string r.tim],u.oneCell'=true):=Lib.hid (one4 _ _ _ _ _ _);have HFIN:=Lib.hid (sel_fin (d:=d) HK.out.1 HO.out HM.out HX5.out HK.out.2.1 HK.out.2.2 s0 HB1.out HB12.out HB2.out HO2.out hms);clear hzs hb2 hms))
 all_goals
  go_wp2_with fail;go_ret;exact HF.out
theorem node_kind {b:Nat} {w:World} {v:Value} {r:PR} {ks:List Value} (h:NodeAt b w v r ks):(r.kind=3∧ks=[]∧ ∃g,v= .iface 93 (.pointer (some ⟨g,0,none⟩)))∨(r.kind≠3∧ ∃t x,v= .iface t x∧t≠93):=by
 cases h with
 |selector g=>exact .inl ⟨rfl,rfl,g,rfl⟩
 |_=>exact .inr ⟨by simp[zr],_,_,rfl,by decide⟩
theorem sel_visits {b p:Nat} {w0:World} (N:Nat) (hN:N≤1099511627776) (hp:w0.heap.size≤p):Visits b w0 58 #[.pointer (some ⟨p,0,none⟩)] (SelsI p) (fun _ _=>False) (fun l=>l.length≤N) LenOK:=by
 intro n d pre v r ks W hR hn hj _ hlt _;simp only[List.length_append,List.length_cons,List.length_nil]at hlt;refine calls_visit ?_;rcases node_kind hn with⟨hk,rfl,g,rfl⟩|⟨hk,t,x,rfl,ht⟩
 ·exact sel_take hn hk hR hj (by omega) hp
 ·refine(sel_skip p d t x W ht).mono ?_;rintro e W' ⟨rfl,rfl⟩;exact .inl ⟨rfl,hj.skip hk,Kept.refl _ _⟩
theorem SelsI.start (w:World):SelsI w.heap.size [] (w.alloc (.cells #[.slice none 0 0] 30)):=⟨⟨_,[],rfl,Blk.new _ _ _,World.ownsRow_nil _ _ _ _,(fun z h=>by cases h),(fun z h=>by cases h),List.Pairwise.nil⟩⟩
theorem SelsI.post {w W:World} {p:Nat} {L:List (Nat×PR)} (h:SelsI p L W) (hp:w.heap.size≤p+1) (hb:Below w.heap.size w W): ∃ao n c,Blk W p 30 #[.slice ao n c]∧SelsPost2 w L (.returned (.slice ao n c)) W:=by
 obtain⟨v,zs,h1,h2,h3,h4,h5⟩:=h.ex;obtain⟨ao,n,c,rfl⟩:=own_sl h3;refine⟨ao,n,c,h2,_,zs,rfl,h1,own_mono h3 hp,fun z hz=>?_,hb,fun z hz=>own_mono (h5.1 z hz) hp,h5.2⟩;obtain⟨lo,w1,k1,k2,k3,k4⟩:=h4 z hz;exact⟨lo,w1,k1,Nat.le_trans hp k2,k3,k4⟩
theorem tree_Selectors2 {b:Nat} {w:World} {v:Value} {L:List (Nat×PR)} (h:RootAt b w v L) (hL:1+L.length≤1099511627776) (hR: ∀x∈L,LenOK x.2):
  Calls Tryz.prog 16 #[.agg #[v]] w (SelsPost2 w L):=by
 have HW:Hid (Calls Tryz.prog 57 #[v,.int .i64 1,.func (.func 58) #[] #[.pointer (some ⟨w.heap.size+1,0,none⟩)]] ((w.alloc (.cells #[v] 26)).alloc (.cells #[.slice none 0 0] 30)) fun e W'=>e= .returned (.bool true)∧SelsI (w.heap.size+1) L W'∧Kept w.heap.size ((w.alloc (.cells #[v] 26)).alloc (.cells #[.slice none 0 0] 30)) W'):=
  Lib.hid (walk_root h _ _ (enters_of Tryz.func58 (by kernel_rfl) rfl) L.length _ SelsI.keep (sel_visits _ (by omega) (by omega)) hR (((Below.refl _ w).alloc (Nat.le_refl _) _).alloc (by simp) _)
   (by have:=SelsI.start (w.alloc (.cells #[v] 26));simpa using this) (Nat.le_refl _) hL)
 have hb2:Below w.heap.size w ((w.alloc (.cells #[v] 26)).alloc (.cells #[.slice none 0 0] 30)):=((Below.refl _ w).alloc (Nat.le_refl _) _).alloc (by simp) _;have HB2:=Lib.hid hb2;clear hb2;clear h;go_enter Tryz.func16,Tryz.ntmps16;go_wp2_with fail;refine HW.out.mono ?_;rintro e w2 ⟨rfl,hsi,hk⟩;obtain⟨ao,n,c,hbx,hpost⟩:=hsi.post (w:=w) (by omega) (HB2.out.trans hk.1);have c0:=hbx.cell 0;simp at c0;have HP:=Lib.hid hpost;clear hbx hk hsi hpost;go_wp2_with fail;go_ret;exact HP.out
end Go.Proofs.YtibcjfjacielbaaGreatDoor
