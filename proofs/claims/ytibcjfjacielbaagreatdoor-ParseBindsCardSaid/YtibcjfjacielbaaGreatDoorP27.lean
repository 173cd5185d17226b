import Derived.WalkMore
import Derived.ScopeJumps
import Derived.OwnWalk
import Derived.Test.YtibcjfjacielbaaGreatDoorP26
import Derived.Test.YtibcjfjacielbaaGreatDoorP20
/- Part of the proof of YtibcjfjacielbaaGreatDoorCardP: TrB TrJ PaA LexJ. -/
set_option maxRecDepth 100000
set_option maxHeartbeats 4000000
set_option linter.unusedVariables false
set_option linter.unusedSimpArgs false
namespace Go.Proofs.YtibcjfjacielbaaGreatDoor
def maxL (l:List Nat):Nat:=l.foldl max 0
theorem foldl_max (l:List Nat): ∀a b:Nat,l.foldl max (max a b)=max a (l.foldl max b):=by
 induction l with
 |nil=>intro a b;rfl
 |cons x l ih=>intro a b;rw[List.foldl_cons,List.foldl_cons,Nat.max_assoc,ih]
theorem maxL_cons (a:Nat) (l:List Nat):maxL (a::l)=max a (maxL l):=by
 rw[maxL,List.foldl_cons,show max 0 a=max a 0 by omega,foldl_max];rfl
theorem maxL_app (a b:List Nat):maxL (a++b)=max (maxL a) (maxL b):=by
 induction a with
 |nil=>simp[maxL]
 |cons x a ih=>rw[List.cons_append,maxL_cons,maxL_cons,ih,Nat.max_assoc]
structure SelR where
 name:ByteArray
 ms:List PM
 off:ByteArray
 tim:ByteArray
end Go.Proofs.YtibcjfjacielbaaGreatDoor
set_option linter.unusedVariables false
set_option linter.unusedSimpArgs false
namespace Go.Proofs.YtibcjfjacielbaaGreatDoor
open Go.RowKit
inductive TreeAt (b:Nat) (w:World):Nat→Value→List (Nat×PR)→Prop
 |mk (d:Nat) (v:Value) (r:PR) (ks:List Value) (segs:Nat→List (Nat×PR)):NodeAt b w v r ks→(∀i (h:i<ks.length),TreeAt b w (d+1) ks[i] (segs i))→TreeAt b w d v ((d,r)::(List.range ks.length).flatMap segs)
theorem TreeAt.later {b:Nat} {w w':World} (hb:Below w.heap.size w w') {d:Nat} {v:Value} {L:List (Nat×PR)} (h:TreeAt b w d v L):TreeAt b w' d v L:=by
 induction h with
 |mk d v r ks segs h0 _ ih=>exact .mk d v r ks segs (h0.below hb) fun i hi=>ih i hi
theorem NodeAt.lo {b b':Nat} {w:World} {v:Value} {r:PR} {ks:List Value} (h:NodeAt b w v r ks) (hb:b'≤b):NodeAt b' w v r ks:=by
 cases h with
 |number g hb' hg t c0=>exact .number g (Nat.le_trans hb hb') hg t c0
 |text g hb' hg t c0=>exact .text g (Nat.le_trans hb hb') hg t c0
 |selector g hb' hg t off tim vm ms hm c0 c1 c2 c3=>exact .selector g (Nat.le_trans hb hb') hg t off tim vm ms (hm.lo hb) c0 c1 c2 c3
 |range g hb' hg d p c0 c1=>exact .range g (Nat.le_trans hb hb') hg d p c0 c1
 |subquery g hb' hg d s off tim t x c0 c1 c2 c3 c4=>exact .subquery g (Nat.le_trans hb hb') hg d s off tim t x c0 c1 c2 c3 c4
 |unary g hb' hg o t x c0 c1=>exact .unary g (Nat.le_trans hb hb') hg o t x c0 c1
 |binary g hb' hg o t u x y bo gi on vl vi ls inc card hl hi c0 c1 c2 c3 c4 c5 c6 c7 c8=>exact .binary g (Nat.le_trans hb hb') hg o t u x y bo gi on vl vi ls inc card (hl.lo hb) (hi.lo hb) c0 c1 c2 c3 c4 c5 c6 c7 c8
 |call g hb' hg o va ks hk c0 c1=>exact .call g (Nat.le_trans hb hb') hg o va ks (by obtain⟨ao,c,h1,h2⟩:=hk;exact⟨ao,c,h1,fun j hj=>by obtain⟨g,o,a,l,u⟩:=h2 j hj;exact⟨g,o,a,Nat.le_trans hb l,u⟩⟩) c0 c1
 |aggr g hb' hg o t x wo vl ls hl c0 c1 c2 c3 c4=>exact .aggr g (Nat.le_trans hb hb') hg o t x wo vl ls (hl.lo hb) c0 c1 c2 c3 c4
 |aggr2 g hb' hg o t u x y wo vl ls hl c0 c1 c2 c3 c4=>exact .aggr2 g (Nat.le_trans hb hb') hg o t u x y wo vl ls (hl.lo hb) c0 c1 c2 c3 c4
def RootAt (b:Nat) (w:World) (v:Value) (L:List (Nat×PR)):Prop:=(v= .nilIface∧L=[])∨TreeAt b w 1 v L
theorem RootAt.below {b:Nat} {w w':World} (hb:Below w.heap.size w w') {v:Value} {L:List (Nat×PR)} (h:RootAt b w v L):RootAt b w' v L:=h.elim .inl fun h=>.inr (h.later hb)
theorem NodeAt.iface {b:Nat} {w:World} {v:Value} {r:PR} {ks:List Value} (h:NodeAt b w v r ks): ∃t g,v= .iface t (.pointer (some ⟨g,0,none⟩)):=by cases h<;>exact⟨_,_,rfl⟩
theorem TreeAt.iface {b:Nat} {w:World} {d:Nat} {v:Value} {L:List (Nat×PR)} (h:TreeAt b w d v L): ∃t g,v= .iface t (.pointer (some ⟨g,0,none⟩)):=by
 cases h with
 |mk d v r ks segs h0 _=>exact h0.iface
end Go.Proofs.YtibcjfjacielbaaGreatDoor
set_option linter.unusedVariables false
set_option linter.unusedSimpArgs false
namespace Go.Proofs.YtibcjfjacielbaaGreatDoor
structure Th where
 rows:List PR
 deep:Nat
def tk0:List Tok→Nat
 |[]=>0
 |t::_=>t.kind
def tx0:List Tok→List UInt8
 |[]=>[]
 |t::_=>t.text
def ps0:List Tok→Nat
 |[]=>0
 |t::_=>t.pos
def txB (ts:List Tok):ByteArray:=⟨(tx0 ts).toArray⟩
def isO (s:List UInt8) (ts:List Tok):Bool:=tk0 ts==6&&decide (tx0 ts=s)
def wd (ts:List Tok):List UInt8:=if tk0 ts=1 then(if word (tx0 ts)=true then(tx0 ts).map low else[])else[]
def sOr:List UInt8:=[111,114]
def sAnd:List UInt8:=[97,110,100]
def sUnl:List UInt8:=[117,110,108,101,115,115]
def lev3 (s:List UInt8):Bool:=decide (s=[61,61])||decide (s=[33,61])||decide (s=[60])||decide (s=[62])||decide (s=[60,61])||decide (s=[62,61])
def lev4 (s:List UInt8):Bool:=decide (s=[43])||decide (s=[45])
def lev5 (s:List UInt8):Bool:=decide (s=[42])||decide (s=[47])||decide (s=[37])
def bindR (ts:List Tok):Nat×List UInt8:=
 if wd ts=sOr then(1,sOr)
 else if wd ts=sAnd∨wd ts=sUnl then(2,wd ts)
 else if tk0 ts≠6 then(0,[])
 else if lev3 (tx0 ts)=true then(3,tx0 ts)
 else if lev4 (tx0 ts)=true then(4,tx0 ts)
 else if lev5 (tx0 ts)=true then(5,tx0 ts)
 else(0,[])
def sBool:List UInt8:=[98,111,111,108]
def sOn:List UInt8:=[111,110]
def sIgn:List UInt8:=[105,103,110,111,114,105,110,103]
def sOff:List UInt8:=[111,102,102,115,101,116]
def bare (ts:List Tok):Bool:=decide (wd ts≠sBool)&&decide (wd ts≠sOn)&&decide (wd ts≠sIgn)
def ends (ts:List Tok):Bool:= !isO [91] ts&&decide (wd ts≠sOff)&& !isO [64] ts
def rNum (s:List UInt8):PR:={zr 1 0 with text:=⟨s.toArray⟩}
def rSel (s:List UInt8):PR:={zr 3 0 with text:=⟨s.toArray⟩}
def rUn (s:List UInt8):PR:={zr 6 1 with op:=⟨s.toArray⟩}
def rBin (s:List UInt8):PR:={zr 7 2 with op:=⟨s.toArray⟩}
def mkU (s:List UInt8) (x:Th):Option Th:=if x.deep+1≤128 then some ⟨rUn s::x.rows,x.deep+1⟩else none
def mkB (s:List UInt8) (x y:Th):Option Th:=if max x.deep y.deep+1≤128 then some ⟨rBin s::(x.rows++y.rows),max x.deep y.deep+1⟩else none
def plainN (ts:List Tok):Bool:=tk0 ts==1&&decide (wd ts=[])&& !isO [40] (ts.drop 1)&& !isO [123] (ts.drop 1)
inductive Mode where
 |bin (least:Nat)
 |loop (least:Nat) (x:Th)
 |una
 |pow
 |prim
abbrev Out:=Option (Th×List Tok×Nat)
def pars:Nat→Mode→List Tok→Nat→Out
 |0,_,_,_=>none
 |n+1,.bin least,ts,o=>match pars n .una ts o with
  |none=>none
  |some (x,ts1,o1)=>pars n (.loop least x) ts1 o1
 |n+1,.loop least x,ts,o=>
  if (bindR ts).1<least∨(bindR ts).1=0 then some (x,ts,o)
  else if bare (ts.drop 1)=false then none
  else match pars n (.bin ((bindR ts).1+1)) (ts.drop 1) o with
  |none=>none
  |some (y,ts2,o2)=>match mkB (bindR ts).2 x y with
   |none=>none
   |some z=>pars n (.loop least z) ts2 o2
 |n+1,.una,ts,o=>
  if isO [43] ts=true∨isO [45] ts=true then
   match pars n .una (ts.drop 1) o with
   |none=>none
   |some (x,ts1,o1)=>match mkU (tx0 ts) x with
    |none=>none
    |some z=>some (z,ts1,o1)
  else pars n .pow ts o
 |n+1,.pow,ts,o=>match pars n .prim ts o with
  |none=>none
  |some (x,ts1,o1)=>
   if ends ts1=false then none
   else if isO [94] ts1=false then some (x,ts1,o1)
   else if bare (ts1.drop 1)=false then none
   else match pars n .una (ts1.drop 1) o1 with
   |none=>none
   |some (y,ts2,o2)=>match mkB [94] x y with
    |none=>none
    |some z=>some (z,ts2,o2)
 |n+1,.prim,ts,o=>
  if tk0 ts=3∨tk0 ts=4 then some (⟨[rNum (tx0 ts)],1⟩,ts.drop 1,o)
  else if isO [40] ts=true then
   if 300≤o then none
   else match pars n (.bin 1) (ts.drop 1) (o+1)with
   |none=>none
   |some (x,ts1,o1)=>if isO [41] ts1=true∧1≤o1 then some (x,ts1.drop 1,o1-1)else none
  else if plainN ts=true then some (⟨[rSel (tx0 ts)],1⟩,ts.drop 1,o)
  else none
end Go.Proofs.YtibcjfjacielbaaGreatDoor
set_option linter.unusedVariables false
set_option linter.unusedSimpArgs false
namespace Go.Proofs.YtibcjfjacielbaaGreatDoor
open Go.RowKit
def TokSl (w:World) (v:Value) (xs:List (Int×ByteArray×Int)):Prop:=
 (v= .slice none 0 0∧xs=[])∨ ∃g o c,v= .slice (some ⟨g,o,none⟩) xs.length c∧TokRow w g o xs
end Go.Proofs.YtibcjfjacielbaaGreatDoor
