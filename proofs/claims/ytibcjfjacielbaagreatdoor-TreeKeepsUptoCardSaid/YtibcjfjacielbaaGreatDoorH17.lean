import Derived.Test.YtibcjfjacielbaaGreatDoorH08
import Derived.Test.YtibcjfjacielbaaGreatDoorH09
import Derived.Test.YtibcjfjacielbaaGreatDoorH16
/- Part of the proof of YtibcjfjacielbaaGreatDoorCardH: TrU TrJb. -/
set_option maxRecDepth 100000
set_option maxHeartbeats 4000000
set_option linter.unusedVariables false
set_option linter.unusedSimpArgs false
namespace Go.Proofs.YtibcjfjacielbaaGreatDoor
open Go.RowKit
def LenOK (r:PR):Prop:=r.ms.length≤1099511627776∧r.mls.length≤1099511627776∧r.inc.length≤1099511627776∧r.labels.length≤1099511627776
theorem tree_rowOf {b:Nat} {w:World} {v:Value} {r:PR} {ks:List Value} (h:NodeAt b w v r ks) (hl:LenOK r):Calls Tryz.prog 60 #[v] w (RowPost w r):=by
 cases h with
 |number g hb hg t c0=>exact rowOf_number g hb hg t c0
 |text g hb hg t c0=>exact rowOf_text g hb hg t c0
 |selector g hb hg t off tim vm ms hm c0 c1 c2 c3=>
  obtain⟨ao,c,rfl,_⟩:=id hm;exact rowOf_selector g hb hg t off tim _ _ _ ms hl.1 hm c0 c1 c2 c3
 |range g hb hg d p c0 c1=>exact rowOf_range g hb hg d p c0 c1
 |subquery g hb hg d s off tim t x c0 c1 c2 c3 c4=>exact rowOf_subquery g hb hg d s off tim t x c0 c1 c2 c3 c4
 |unary g hb hg o t x c0 c1=>exact rowOf_unary g hb hg o t x c0 c1
 |binary g hb hg o t u x y bo gi on vl vi ls inc card hl' hi c0 c1 c2 c3 c4 c5 c6 c7 c8=>
  obtain⟨ao,c,rfl,_⟩:=id hl';obtain⟨ai,ci,rfl,_⟩:=id hi;exact rowOf_binary g hb hg o t u x y bo gi on _ _ _ _ _ _ ls inc card hl.2.1 hl.2.2.1 hl' hi c0 c1 c2 c3 c4 c5 c6 c7 c8
 |call g hb hg o va ks hk c0 c1=>exact rowOf_call g hb hg o va ks hk c0 c1
 |aggr g hb hg o t x wo vl ls hl' c0 c1 c2 c3 c4=>
  obtain⟨ao,c,rfl,_⟩:=id hl';exact rowOf_aggr g hb hg o t x wo _ _ _ ls hl.2.2.2 hl' c0 c1 c2 c3 c4
 |aggr2 g hb hg o t u x y wo vl ls hl' c0 c1 c2 c3 c4=>
  obtain⟨ao,c,rfl,_⟩:=id hl';exact rowOf_aggr2 g hb hg o t u x y wo _ _ _ ls hl.2.2.2 hl' c0 c1 c2 c3 c4
def Agree (b:Nat) (w w':World):Prop:=w.heap.size≤w'.heap.size∧ ∀k,b≤k→k<w.heap.size→w'.heap[k]? =w.heap[k]?
theorem Agree.cell {b:Nat} {w w':World} (h:Agree b w w') {g o:Nat} (hb:b≤g) (hg:g<w.heap.size):w'.cell? ⟨g,o,none⟩=w.cell? ⟨g,o,none⟩:=World.cell?_of_block (h.2 g hb hg)
theorem Agree.refl (b:Nat) (w:World):Agree b w w:=⟨Nat.le_refl _,fun _ _ _=>rfl⟩
theorem Agree.below {b:Nat} {w w' w'':World} (h:Agree b w w') (hb:Below w'.heap.size w' w''):Agree b w w'':=⟨Nat.le_trans h.1 hb.size,fun k h1 h2=>(hb.block k (Nat.lt_of_lt_of_le h2 h.1)).trans (h.2 k h1 h2)⟩
def Off (b:Nat) (w:World) (v:Value):Prop:= ∀q,v.ownBlock=some q→q<b∨w.heap.size≤q
theorem Agree.grow {b:Nat} {w w' w'':World} {v:Value} (h:Agree b w w') (hg:w'.grownBy w'' v.ownBlock) (ho:Off b w v):Agree b w w'':=
 ⟨Nat.le_trans h.1 hg.size,fun k h1 h2=>(hg.block k (Nat.lt_of_lt_of_le h2 h.1) (fun e=>by rcases ho k e.symm with h3|h3<;>omega)).trans (h.2 k h1 h2)⟩
theorem StrS.agree {b:Nat} {w w':World} {v:Value} {ss:List ByteArray} (h:StrS b w v ss) (hB:Agree b w w'):StrS b w' v ss:=by
 obtain⟨ao,c,h1,h2⟩:=h;refine⟨ao,c,h1,fun j hj=>?_⟩;obtain⟨g,o,a,l,u,x⟩:=h2 j hj;exact⟨g,o,a,l,Nat.lt_of_lt_of_le u hB.1,(hB.cell l u).trans x⟩
theorem MatS.agree {b:Nat} {w w':World} {v:Value} {ms:List PM} (h:MatS b w v ms) (hB:Agree b w w'):MatS b w' v ms:=by
 obtain⟨ao,c,h1,h2⟩:=h;refine⟨ao,c,h1,fun j hj=>?_⟩;obtain⟨g,o,a,l,u,x,y,z⟩:=h2 j hj;exact⟨g,o,a,l,Nat.lt_of_lt_of_le u hB.1,(hB.cell l u).trans x,(hB.cell l u).trans y,(hB.cell l u).trans z⟩
theorem ExpS.agree {b:Nat} {w w':World} {v:Value} {ks:List Value} (h:ExpS b w v ks) (hB:Agree b w w'):ExpS b w' v ks:=by
 obtain⟨ao,c,h1,h2⟩:=h;refine⟨ao,c,h1,fun j hj=>?_⟩;obtain⟨g,o,a,l,u,x⟩:=h2 j hj;exact⟨g,o,a,l,Nat.lt_of_lt_of_le u hB.1,(hB.cell l u).trans x⟩
theorem NodeAt.agree {b:Nat} {w w':World} {v:Value} {r:PR} {ks:List Value} (h:NodeAt b w v r ks) (hB:Agree b w w'):NodeAt b w' v r ks:=by
 cases h with
 |number g hb hg t c0=>exact .number g hb (Nat.lt_of_lt_of_le hg hB.1) t ((hB.cell hb hg).trans c0)
 |text g hb hg t c0=>exact .text g hb (Nat.lt_of_lt_of_le hg hB.1) t ((hB.cell hb hg).trans c0)
 |selector g hb hg t off tim vm ms hm c0 c1 c2 c3=>exact .selector g hb (Nat.lt_of_lt_of_le hg hB.1) t off tim vm ms (hm.agree hB) ((hB.cell hb hg).trans c0) ((hB.cell hb hg).trans c1) ((hB.cell hb hg).trans c2) ((hB.cell hb hg).trans c3)
 |range g hb hg d p c0 c1=>exact .range g hb (Nat.lt_of_lt_of_le hg hB.1) d p ((hB.cell hb hg).trans c0) ((hB.cell hb hg).trans c1)
 |subquery g hb hg d s off tim t x c0 c1 c2 c3 c4=>exact .subquery g hb (Nat.lt_of_lt_of_le hg hB.1) d s off tim t x ((hB.cell hb hg).trans c0) ((hB.cell hb hg).trans c1) ((hB.cell hb hg).trans c2) ((hB.cell hb hg).trans c3) ((hB.cell hb hg).trans c4)
 |unary g hb hg o t x c0 c1=>exact .unary g hb (Nat.lt_of_lt_of_le hg hB.1) o t x ((hB.cell hb hg).trans c0) ((hB.cell hb hg).trans c1)
 |binary g hb hg o t u x y bo gi on vl vi ls inc card hl hi c0 c1 c2 c3 c4 c5 c6 c7 c8=>exact .binary g hb (Nat.lt_of_lt_of_le hg hB.1) o t u x y bo gi on vl vi ls inc card (hl.agree hB) (hi.agree hB) ((hB.cell hb hg).trans c0) ((hB.cell hb hg).trans c1) ((hB.cell hb hg).trans c2) ((hB.cell hb hg).trans c3) ((hB.cell hb hg).trans c4) ((hB.cell hb hg).trans c5) ((hB.cell hb hg).trans c6) ((hB.cell hb hg).trans c7) ((hB.cell hb hg).trans c8)
 |call g hb hg o va ks hk c0 c1=>exact .call g hb (Nat.lt_of_lt_of_le hg hB.1) o va ks (hk.agree hB) ((hB.cell hb hg).trans c0) ((hB.cell hb hg).trans c1)
 |aggr g hb hg o t x wo vl ls hl c0 c1 c2 c3 c4=>exact .aggr g hb (Nat.lt_of_lt_of_le hg hB.1) o t x wo vl ls (hl.agree hB) ((hB.cell hb hg).trans c0) ((hB.cell hb hg).trans c1) ((hB.cell hb hg).trans c2) ((hB.cell hb hg).trans c3) ((hB.cell hb hg).trans c4)
 |aggr2 g hb hg o t u x y wo vl ls hl c0 c1 c2 c3 c4=>exact .aggr2 g hb (Nat.lt_of_lt_of_le hg hB.1) o t u x y wo vl ls (hl.agree hB) ((hB.cell hb hg).trans c0) ((hB.cell hb hg).trans c1) ((hB.cell hb hg).trans c2) ((hB.cell hb hg).trans c3) ((hB.cell hb hg).trans c4)
theorem TreeAt.agree {b:Nat} {w w':World} (hB:Agree b w w') {d:Nat} {v:Value} {L:List (Nat×PR)} (h:TreeAt b w d v L):TreeAt b w' d v L:=by
 induction h with
 |mk d v r ks segs h0 _ ih=>exact .mk d v r ks segs (h0.agree hB) fun i hi=>ih i hi
end Go.Proofs.YtibcjfjacielbaaGreatDoor
