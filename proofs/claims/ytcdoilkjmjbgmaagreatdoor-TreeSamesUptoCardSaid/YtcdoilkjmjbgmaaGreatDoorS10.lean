import Derived.Shelf.SlicesE.Clone
import Derived.Shelf.SlicesQ.Equal
import Derived.Shelf.SlicesQ.IndexFunc
import Derived.Shelf.SlicesE.IndexFunc
import Derived.Test.YtcdoilkjmjbgmaaGreatDoorS01
/- Part of the proof of YtcdoilkjmjbgmaaGreatDoorCardY: ShelfC TrE. -/
set_option maxRecDepth 100000
set_option maxHeartbeats 4000000
set_option linter.unusedVariables false
set_option linter.unusedSimpArgs false
namespace Go.Proofs
open Go.Shelf
open Go.Proofs.Tryz
def Tryz.MN:Go.Shelf.Ren:=⟨fun|41=>63|n=>n,fun|22=>39|23=>65|4=>4|n=>n,fun|n=>n⟩
theorem Tryz.TS:Go.Proofs.SlLaysE0.n41 prog Tryz.MN:={
 mixed:=by kernel_rfl
 f41:=⟨f63.name,by decide,func63.trans (cn some (by kernel_rfl))⟩
 t4:=underlying4
 a4:=Tryz.isAgg4
 z4:=Tryz.sizeOf4
 v4:=Tryz.zeroValue4
 t22:=underlying39
 a22:=Tryz.isAgg39
 z22:=Tryz.sizeOf39
 v22:=Tryz.zeroValue39}
def Tryz.MO:Go.Shelf.Ren:=⟨fun|41=>65|n=>n,fun|22=>42|23=>9|4=>4|n=>n,fun|n=>n⟩
theorem Tryz.TT:Go.Proofs.SlLaysE0.n41 prog Tryz.MO:={
 mixed:=by kernel_rfl
 f41:=⟨f65.name,by decide,func65.trans (cn some (by kernel_rfl))⟩
 t4:=underlying4
 a4:=Tryz.isAgg4
 z4:=Tryz.sizeOf4
 v4:=Tryz.zeroValue4
 t22:=underlying42
 a22:=Tryz.isAgg42
 z22:=Tryz.sizeOf42
 v22:=Tryz.zeroValue42}
def Tryz.DL:Go.Shelf.Ren:=⟨fun|8=>82|6=>104|n=>n,fun|22=>39|23=>65|25=>146|4=>4|3=>3|0=>0|n=>n,fun|n=>n⟩
theorem Tryz.QF:Go.Proofs.SlLaysH0.n8 prog Tryz.DL:={
 mixed:=by kernel_rfl
 f6:=⟨f104.name,by decide,func104.trans (cn some (by kernel_rfl))⟩
 f8:=⟨f82.name,by decide,func82.trans (cn some (by kernel_rfl))⟩
 t0:=underlying0
 a0:=Tryz.isAgg0
 z0:=Tryz.sizeOf0
 v0:=Tryz.zeroValue0
 t3:=underlying3
 a3:=Tryz.isAgg3
 z3:=Tryz.sizeOf3
 v3:=Tryz.zeroValue3
 t4:=underlying4
 a4:=Tryz.isAgg4
 z4:=Tryz.sizeOf4
 v4:=Tryz.zeroValue4
 t22:=underlying39
 a22:=Tryz.isAgg39
 z22:=Tryz.sizeOf39
 v22:=Tryz.zeroValue39
 t25:=underlying146
 a25:=Tryz.isAgg146
 z25:=Tryz.sizeOf146
 v25:=Tryz.zeroValue146}
def Tryz.DM:Go.Shelf.Ren:=⟨fun|8=>106|6=>120|n=>n,fun|22=>42|23=>9|25=>91|4=>4|3=>3|0=>0|n=>n,fun|n=>n⟩
theorem Tryz.xK:Go.Proofs.SlLaysH.n8 prog Tryz.DM:={
 mixed:=by kernel_rfl
 f6:=⟨f120.name,by decide,func120.trans (cn some (by kernel_rfl))⟩
 f8:=⟨f106.name,by decide,func106.trans (cn some (by kernel_rfl))⟩
 t0:=underlying0
 a0:=Tryz.isAgg0
 z0:=Tryz.sizeOf0
 v0:=Tryz.zeroValue0
 t3:=underlying3
 a3:=Tryz.isAgg3
 z3:=Tryz.sizeOf3
 v3:=Tryz.zeroValue3
 t4:=underlying4
 a4:=Tryz.isAgg4
 z4:=Tryz.sizeOf4
 v4:=Tryz.zeroValue4
 t22:=underlying42
 a22:=Tryz.isAgg42
 z22:=Tryz.sizeOf42
 v22:=Tryz.zeroValue42
 a23:=Tryz.isAgg9
 z23:=Tryz.sizeOf9
 t25:=underlying91
 a25:=Tryz.isAgg91
 z25:=Tryz.sizeOf91
 v25:=Tryz.zeroValue91}
end Go.Proofs
namespace Go.Proofs.YtcdoilkjmjbgmaaGreatDoor
open Go.RowKit
open Go.Proofs.Tryz
variable {b:Nat} {w:World} {e:TypeId} {v:Value} {ms:List PM} {ss:List ByteArray}
theorem BK {α β:Type} (f:α→List β) (k:Nat) (hk: ∀x,(f x).length=k): ∀(l:List α) (j i:Nat) (hj:j<l.length),i<k→(l.flatMap f)[j*k+i]? =(f l[j])[i]?
 |x::l,0,i,_,hi=>by
  rw[vs,yB,mr,Tj (by rw[hk];exact hi)];rfl
 |x::l,j+1,i,hj,hi=>by
  rw[vs,Nat.succ_mul,Iq (by rw[hk];omega),hk,show j*k+k+i-k=j*k+i by omega];exact BK f k hk l j i (by simpa using hj) hi
theorem rD {α β:Type} (f:α→List β) (k:Nat) (hk: ∀x,(f x).length=k) (l:List α):(l.flatMap f).length=l.length*k:=by
 induction l with
 |nil=>simp
 |cons x l ih=>rw[vs,iF,hk,ih,ek,Nat.succ_mul];omega
theorem pQ {α:Type} (f:α→List Value) (k:Nat) (hk: ∀x,(f x).length=k) (k0:0<k) (l:List α) (w:World) (g o:Nat) (h: ∀j (hj:j<l.length) i,i<k→w.cell? ⟨g,o+j*k+i,none⟩=(f l[j])[i]?):
  ∀n u,(l.flatMap f)[n]? =some u→w.cell? ⟨g,o+n,none⟩=some u:=fun n u hn=>by
 have hl:=(AV.1 hn).1;rw[rD f k hk]at hl;have hj:n/k<l.length:=Nat.div_lt_of_lt_mul (by rw[fx];exact hl);have hi:n%k<k:=my _ k0;have xd:n/k*k+n%k=n:=by rw[fx];exact Nat.div_add_mod n k
 have h1:=h (n/k) hj (n%k) hi;have h2:=BK f k hk l (n/k) (n%k) hj hi;rw[xd,hn]at h2;rw[A6,xd,←h2]at h1;exact h1
theorem wh {α:Type} (f:α→List Value) (k:Nat) (hk: ∀x,(f x).length=k) (l:List α) {w:World} {b:Nat} {e:TypeId} {v:Value} (h:w.ownsRow b e k v l.length (l.flatMap f)):
  ∃ao c,v= .slice ao l.length c∧ ∀j (hj:j<l.length),∃g o,ao=some ⟨g,o,none⟩∧b≤g∧g<w.heap.size∧ ∀i,i<k→w.cell? ⟨g,o+j*k+i,none⟩=(f l[j])[i]? :=by
 obtain⟨_,h⟩:=h;rcases h with⟨rfl,hn⟩|⟨g,cap,cur,rfl,hb,hh,hn,_,bf,hx⟩
 ·exact⟨none,0,by rw[hn],fun j hj=>absurd hj (by omega)⟩
 ·refine⟨some ⟨g,0,none⟩,cap,rfl,fun j hj=>⟨g,0,rfl,hb,(yj.1 hh).1,fun i hi=>?_⟩⟩;have h2:=BK f k hk l j i hj hi;rw[←hx]at h2;have aA:j*k+i<l.length*k:=by
   have:=fg k (show j+1≤l.length from hj);rw[Nat.succ_mul]at this;omega
  rw[List.getElem?_take_of_lt aA]at h2;rw[←h2,mr];unfold World.cell?;rw[hh];simp
def vh (m:PM):List Value:=[.string m.name,.int .i64 m.op,.string m.value]
def qE (s:ByteArray):List Value:=[.string s]
theorem fV.jt (h:w.ownsRow b e 3 v ms.length (ms.flatMap vh)):fV b w v ms:=by
 obtain⟨ao,c,h1,h2⟩:=wh vh 3 (fun _=>rfl) ms h;refine⟨ao,c,h1,fun j hj=>?_⟩;obtain⟨g,o,a,l,u,x⟩:=h2 j hj;exact⟨g,o,a,l,u,x 0 (by omega),x 1 (by omega),x 2 (by omega)⟩
theorem cO.jt (h:w.ownsRow b e 1 v ss.length (ss.flatMap qE)):cO b w v ss:=by
 obtain⟨ao,c,h1,h2⟩:=wh qE 1 (fun _=>rfl) ss h;refine⟨ao,c,h1,fun j hj=>?_⟩;obtain⟨g,o,a,l,u,x⟩:=h2 j hj;have:=x 0 (by omega);rw[oj,iz]at this;exact⟨g,o,a,l,u,this⟩
def TU (w:World) (ms:List PM) (e:Ending) (w':World):Prop:= ∃v,e= .returned v∧w'.ownsRow w.heap.size 65 3 v ms.length (ms.flatMap vh)∧Below w.heap.size w w'
def LX (w:World) (ss:List ByteArray) (e:Ending) (w':World):Prop:= ∃v,e= .returned v∧w'.ownsRow w.heap.size 9 1 v ss.length (ss.flatMap qE)∧Below w.heap.size w w'
theorem BL:(prog.info? 65).map (fun i=>(i.zero,i.size,i.bytes))=some (some (.agg #[.string ⟨#[]⟩,.int .i64 0,.string ⟨#[]⟩]),3,40):=by kernel_rfl
theorem rE:(prog.info? 9).map (fun i=>(i.zero,i.size,i.bytes))=some (some (.string ⟨#[]⟩),1,16):=by kernel_rfl
theorem CQ (a:Addr) (c:Nat) (w:World):Calls prog 63 #[.slice (some a) 0 c] w (TU w []):=by
 have q: ∀(w:World) (a:Option Addr) (n c n' c':Nat),(binOp .eql 39 (.slice a n c) (.slice none n' c')).run prog w= .ok (.bool a.isNone) w:=fun w a n c n' c'=>Lib.run_eql_slice_nil w _ _ a n c n' c' underlying39
 obtain⟨i0,hi,Dg,de,ej⟩:=lF BL;go_enter func63,ntmps63;go_wp2_with (at_builtin;refine wpList_append_own _ rfl _ _ 39 rfl w.heap.size 65 i0 _ 3 40 underlying39 hi Dg de ej rfl (by decide) _ _ _ rfl (World.ownsRow_made w #[] 0 (aS _) (aV _) (by simp)) a 0 c [] rfl ?qc1 ?qc2 ?qc3 ?qc4 ?qc5 ?qc6 ?_)
 case qc1=>rfl
 case qc2=>intro j u hj;simp at hj
 case qc3=>intro u hu;cases hu
 case qc4=>unfold maxLen;omega
 case qc5=>omega
 case qc6=>simp
 intro v' w1 aP hgrow _;go_wp2;go_ret;exact⟨v',rfl,by simpa using aP,((aU _ w).alloc (aS _) _).grown hgrow (by simp) (by intro k hk;simp[Value.ownBlock]at hk;omega)⟩
theorem CR (a:Addr) (c:Nat) (w:World):Calls prog 65 #[.slice (some a) 0 c] w (LX w []):=by
 have q: ∀(w:World) (a:Option Addr) (n c n' c':Nat),(binOp .eql 42 (.slice a n c) (.slice none n' c')).run prog w= .ok (.bool a.isNone) w:=fun w a n c n' c'=>Lib.run_eql_slice_nil w _ _ a n c n' c' underlying42
 obtain⟨i0,hi,Dg,de,ej⟩:=lF rE;go_enter func65,ntmps65;go_wp2_with (at_builtin;refine wpList_append_own _ rfl _ _ 42 rfl w.heap.size 9 i0 _ 1 16 underlying42 hi Dg de ej rfl (by decide) _ _ _ rfl (World.ownsRow_made w #[] 0 (aS _) (aV _) (by simp)) a 0 c [] rfl ?qc1 ?qc2 ?qc3 ?qc4 ?qc5 ?qc6 ?_)
 case qc1=>rfl
 case qc2=>intro j u hj;simp at hj
 case qc3=>intro u hu;cases hu
 case qc4=>unfold maxLen;omega
 case qc5=>omega
 case qc6=>simp
 intro v' w1 aP hgrow _;go_wp2;go_ret;exact⟨v',rfl,by simpa using aP,((aU _ w).alloc (aS _) _).grown hgrow (by simp) (by intro k hk;simp[Value.ownBlock]at hk;omega)⟩
theorem EY (h:fV b w v ms) (hn:ms.length≤1099511627776):Calls prog 63 #[v] w (TU w ms):=by
 obtain⟨ao,c,rfl,hc⟩:=h;cases ao with
 |none=>
  have h0:ms=[]:=by
   cases ms with
   |nil=>rfl
   |cons m ms=>obtain⟨g,o,h,_⟩:=hc 0 (by simp);cases h
  subst h0;refine(AnyE.slices_Clone_nil Tryz.TS 0 c w).mono ?_;rintro e w' ⟨rfl,rfl⟩;exact⟨_,rfl,sZ _ _ _ _,aU _ _⟩
 |some a=>
  obtain⟨i0,hi,Dg,de,ej⟩:=lF BL;rcases jL ms.length with h0|h0
  ·have h1:ms=[]:=o6.1 h0;subst h1;exact CQ a c w
  ·obtain⟨g,o,he,_⟩:=hc 0 h0;obtain rfl:a=⟨g,o,none⟩:=yy he;refine(AnyE.slices_Clone Tryz.TS i0 _ 3 40 hi Dg de ej rfl (by decide) Tryz.sizeOf65 g o ms.length c (ms.flatMap vh) w (rD vh 3 (fun _=>rfl) ms) (by unfold maxLen;omega) (by omega) (pQ vh 3 (fun _=>rfl) (by decide) ms w g o fun j hj i hi=>?_) ?_).mono ?_
   ·obtain⟨g',o',he,_,_,x,y,z⟩:=hc j hj;cases he
    match i,hi with
    |0,_=>exact x
    |1,_=>exact y
    |2,_=>exact z
   ·intro u hu;obtain⟨m,_,hm⟩:=IB.1 hu;simp only[vh,gL,ll,iX]at hm;rcases hm with rfl|rfl|rfl<;>rfl
   ·rintro e w' ⟨v',rfl,h1,_,h2⟩;exact⟨v',rfl,h1,h2⟩
theorem sH (h:cO b w v ss) (hn:ss.length≤1099511627776):Calls prog 65 #[v] w (LX w ss):=by
 obtain⟨ao,c,rfl,hc⟩:=h;cases ao with
 |none=>
  have h0:ss=[]:=by
   cases ss with
   |nil=>rfl
   |cons m ms=>obtain⟨g,o,h,_⟩:=hc 0 (by simp);cases h
  subst h0;refine(AnyE.slices_Clone_nil Tryz.TT 0 c w).mono ?_;rintro e w' ⟨rfl,rfl⟩;exact⟨_,rfl,sZ _ _ _ _,aU _ _⟩
 |some a=>
  obtain⟨i0,hi,Dg,de,ej⟩:=lF rE;rcases jL ss.length with h0|h0
  ·have h1:ss=[]:=o6.1 h0;subst h1;exact CR a c w
  ·obtain⟨g,o,he,_⟩:=hc 0 h0;obtain rfl:a=⟨g,o,none⟩:=yy he;refine(AnyE.slices_Clone Tryz.TT i0 _ 1 16 hi Dg de ej rfl (by decide) Tryz.sizeOf9 g o ss.length c (ss.flatMap qE) w (rD qE 1 (fun _=>rfl) ss) (by unfold maxLen;omega) (by omega) (pQ qE 1 (fun _=>rfl) (by decide) ss w g o fun j hj i hi=>?_) ?_).mono ?_
   ·obtain⟨g',o',he,_,_,x⟩:=hc j hj;cases he
    match i,hi with
    |0,_=>rw[oj];exact x
   ·intro u hu;obtain⟨m,_,hm⟩:=IB.1 hu;simp only[qE,gL,ll,iX]at hm;rw[hm];rfl
   ·rintro e w' ⟨v',rfl,h1,_,h2⟩;exact⟨v',rfl,h1,h2⟩
