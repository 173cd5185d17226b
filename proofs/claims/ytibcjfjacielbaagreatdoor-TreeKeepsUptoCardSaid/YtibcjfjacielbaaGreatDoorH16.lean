import Derived.Test.YtibcjfjacielbaaGreatDoorH03
import Derived.Test.YtibcjfjacielbaaGreatDoorH15
/- Part of the proof of YtibcjfjacielbaaGreatDoorCardH: TrJ TgP. -/
set_option maxRecDepth 100000
set_option maxHeartbeats 4000000
set_option linter.unusedVariables false
set_option linter.unusedSimpArgs false
namespace Go.Proofs.YtibcjfjacielbaaGreatDoor
open Go.RowKit
inductive TreeAt (b:Nat) (w:World):Nat→Value→List (Nat×PR)→Prop
 |mk (d:Nat) (v:Value) (r:PR) (ks:List Value) (segs:Nat→List (Nat×PR)):NodeAt b w v r ks→(∀i (h:i<ks.length),TreeAt b w (d+1) ks[i] (segs i))→TreeAt b w d v ((d,r)::(List.range ks.length).flatMap segs)
theorem TreeAt.later {b:Nat} {w w':World} (hb:Below w.heap.size w w') {d:Nat} {v:Value} {L:List (Nat×PR)} (h:TreeAt b w d v L):TreeAt b w' d v L:=by
 induction h with
 |mk d v r ks segs h0 _ ih=>exact .mk d v r ks segs (h0.below hb) fun i hi=>ih i hi
theorem NodeAt.kids {b:Nat} {w:World} {v:Value} {r:PR} {ks:List Value} (h:NodeAt b w v r ks):r.kids=(ks.length:Int):=by cases h<;>rfl
theorem NodeAt.nk {b:Nat} {w:World} {v:Value} {r:PR} {ks:List Value} (h:NodeAt b w v r ks):nk r=ks.length:=by
 unfold Go.Proofs.YtibcjfjacielbaaGreatDoor.nk;rw[h.kids];rfl
theorem NodeAt.lo {b b':Nat} {w:World} {v:Value} {r:PR} {ks:List Value} (h:NodeAt b w v r ks) (hb:b'≤b):NodeAt b' w v r ks:=by
 cases h with
 |number g hb' hg t c0=>exact .number g (Nat.le_trans hb hb') hg t c0
 |text g hb' hg t c0=>exact .text g (Nat.le_trans hb hb') hg t c0
 |selector g hb' hg t off tim vm ms hm c0 c1 c2 c3=>exact .selector g (Nat.le_trans hb hb') hg t off tim vm ms (hm.lo hb) c0 c1 c2 c3
 |range g hb' hg d p c0 c1=>exact .range g (Nat.le_trans hb hb') hg d p c0 c1
 |subquery g hb' hg d s off tim t x c0 c1 c2 c3 c4=>exact .subquery g (Nat.le_trans hb hb') hg d s off tim t x c0 c1 c2 c3 c4
 |unary g hb' hg o t x c0 c1=>exact .unary g (Nat.le_trans hb hb') hg o t x c0 c1
 |binary g hb' hg o t u x y bo gi on vl vi ls inc card hl hi c0 c1 c2 c3 c4 c5 c6 c7 c8=>exact .binary g (Nat.le_trans hb hb') hg o t u x y bo gi on vl vi ls inc card (hl.lo hb) (hi.lo hb) c0 c1 c2 c3 c4 c5 c6 c7 c8
 |call g hb' hg o va ks hk c0 c1=>exact .call g (Nat.le_trans hb hb') hg o va ks (by obtain⟨ao,c,h1,h2⟩:=hk;exact⟨ao,c,h1,fun j hj=>by obtain⟨g,o,a,l,u⟩:=h2 j hj;exact⟨g,o,a,Nat.le_trans hb l,u⟩⟩) c0 c1
 |aggr g hb' hg o t x wo vl ls hl c0 c1 c2 c3 c4=>exact .aggr g (Nat.le_trans hb hb') hg o t x wo vl ls (hl.lo hb) c0 c1 c2 c3 c4
 |aggr2 g hb' hg o t u x y wo vl ls hl c0 c1 c2 c3 c4=>exact .aggr2 g (Nat.le_trans hb hb') hg o t u x y wo vl ls (hl.lo hb) c0 c1 c2 c3 c4
theorem TreeAt.lo {b b':Nat} {w:World} (hb:b'≤b) {d:Nat} {v:Value} {L:List (Nat×PR)} (h:TreeAt b w d v L):TreeAt b' w d v L:=by
 induction h with
 |mk d v r ks segs h0 _ ih=>exact .mk d v r ks segs (h0.lo hb) fun i hi=>ih i hi
theorem segs_plain {d:Nat} {segs:Nat→List (Nat×PR)}: ∀n:Nat,(∀i,i<n→trees 1 ((segs i).map (·.2))=true∧depthsOf [d] ((segs i).map (·.2))=(segs i).map (·.1))→
  trees n (((List.range n).flatMap segs).map (·.2))=true∧depthsOf (List.replicate n d) (((List.range n).flatMap segs).map (·.2))=((List.range n).flatMap segs).map (·.1)
 |0,_=>⟨rfl,rfl⟩
 |n+1,h=>by
  obtain⟨h1,h2⟩:=segs_plain n fun i hi=>h i (by omega)
  obtain⟨h3,h4⟩:=h n (by omega);rw[List.range_succ,List.flatMap_append,List.flatMap_cons,List.flatMap_nil,List.append_nil,List.map_append,List.map_append];refine⟨trees_join _ _ n 1 h1 h3,?_⟩;rw[List.replicate_succ',depthsOf_app _ _ _ _ (by rw[List.length_replicate];exact h1),h2,h4]
theorem TreeAt.plain {b:Nat} {w:World} {d:Nat} {v:Value} {L:List (Nat×PR)} (h:TreeAt b w d v L):trees 1 (L.map (·.2))=true∧depthsOf [d] (L.map (·.2))=L.map (·.1):=by
 induction h with
 |mk d v r ks segs h0 _ ih=>
  obtain⟨h1,h2⟩:=segs_plain ks.length fun i hi=>ih i hi
  rw[List.map_cons,List.map_cons];refine⟨?_,?_⟩
  ·show trees (nk r+0) _=true;rw[h0.nk];exact h1
  ·rw[depthsOf,h0.nk,List.append_nil,h2]
def annot (d:Nat) (rs:List PR):List (Nat×PR):=(depthsOf [d] rs).zip rs
theorem zip_map (L:List (Nat×PR)):(L.map (·.1)).zip (L.map (·.2))=L:=by
 induction L with
 |nil=>rfl
 |cons x L ih=>rw[List.map_cons,List.map_cons,List.zip_cons_cons,ih]
theorem TreeAt.annot {b:Nat} {w:World} {d:Nat} {v:Value} {L:List (Nat×PR)} (h:TreeAt b w d v L):L=annot d (L.map (·.2)):=by
 unfold Go.Proofs.YtibcjfjacielbaaGreatDoor.annot;rw[h.plain.2,zip_map]
theorem annot_rows {d:Nat} {rs:List PR} (h:trees 1 rs=true):(annot d rs).map (·.2)=rs:=by
 unfold annot;rw[List.map_snd_zip];have:=depthsOf_len rs [d] h;omega
theorem annot_depths {d:Nat} {rs:List PR} (h:trees 1 rs=true):(annot d rs).map (·.1)=depthsOf [d] rs:=by
 unfold annot;rw[List.map_fst_zip];have:=depthsOf_len rs [d] h;omega
def RootAt (b:Nat) (w:World) (v:Value) (L:List (Nat×PR)):Prop:=(v= .nilIface∧L=[])∨TreeAt b w 1 v L
theorem RootAt.below {b:Nat} {w w':World} (hb:Below w.heap.size w w') {v:Value} {L:List (Nat×PR)} (h:RootAt b w v L):RootAt b w' v L:=h.elim .inl fun h=>.inr (h.later hb)
theorem NodeAt.iface {b:Nat} {w:World} {v:Value} {r:PR} {ks:List Value} (h:NodeAt b w v r ks): ∃t g,v= .iface t (.pointer (some ⟨g,0,none⟩)):=by cases h<;>exact⟨_,_,rfl⟩
theorem TreeAt.iface {b:Nat} {w:World} {d:Nat} {v:Value} {L:List (Nat×PR)} (h:TreeAt b w d v L): ∃t g,v= .iface t (.pointer (some ⟨g,0,none⟩)):=by
 cases h with
 |mk d v r ks segs h0 _=>exact h0.iface
end Go.Proofs.YtibcjfjacielbaaGreatDoor
set_option linter.unusedVariables false
set_option linter.unusedSimpArgs false
namespace Go.Proofs.YtibcjfjacielbaaGreatDoor
theorem shape_parts {rs:List PR} (h:shapeB rs=true):trees 1 rs=true∧rs.all soundRow=true∧rangesB rs=true:=by
 unfold shapeB at h;simp only[Bool.and_eq_true]at h;exact⟨h.1.1,h.1.2,h.2⟩
theorem build_ok {rs:List PR}:buildErr rs=0↔shapeB rs=true∧deepOf rs≤128:=by
 unfold buildErr;by_cases h:shapeB rs=true
 ·rw[if_pos h];by_cases k:128<deepOf rs
  ·rw[if_pos k];simp[h];omega
  ·rw[if_neg k];simp[h];omega
 ·rw[if_neg h];simp[h]
theorem build_deep {rs:List PR} (h:shapeB rs=true) (k:128<deepOf rs):buildErr rs=3:=by
 unfold buildErr;rw[if_pos h,if_pos k]
def small0:PR:=⟨7,2,⟨#[43]⟩,⟨#[]⟩,[],⟨#[]⟩,⟨#[]⟩,⟨#[]⟩,⟨#[]⟩,false,false,false,[],0,[],false,[]⟩
def small1:PR:=⟨1,0,⟨#[]⟩,⟨#[49]⟩,[],⟨#[]⟩,⟨#[]⟩,⟨#[]⟩,⟨#[]⟩,false,false,false,[],0,[],false,[]⟩
def small2:PR:=⟨3,0,⟨#[]⟩,⟨#[117,112]⟩,[],⟨#[]⟩,⟨#[]⟩,⟨#[]⟩,⟨#[]⟩,false,false,false,[],0,[],false,[]⟩
def smallL:List PR:=[small0,small1,small2]
theorem small_build:buildErr smallL=0:=by decide+kernel
theorem small_deep:deepOf smallL=2:=by decide+kernel
end Go.Proofs.YtibcjfjacielbaaGreatDoor
