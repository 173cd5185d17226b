import Derived.Test.YtcdoilkjmjbgmaaGreatDoorR00
import Derived.WalkKit
import Derived.WalkSpells
import Derived.WalkLawsBesides
import Derived.Lib.Hide
import Derived.Test.YtcdoilkjmjbgmaaGreatDoorProg
import Derived.Laws.Rows
/- Part of the proof of YtcdoilkjmjbgmaaGreatDoorCardR: Mem PlA LexA LexB TrP Blk TrC RefA TvD TsBx. -/
set_option maxRecDepth 100000
set_option maxHeartbeats 4000000
set_option linter.unusedVariables false
set_option linter.unusedSimpArgs false
namespace Go.Proofs.YtcdoilkjmjbgmaaGreatDoor
open Go.RowKit
open Tryz
variable {a:Act} {b g B g' base size n cap p i k b':Nat} {w w' w0 Zk W:World} {l:List UInt8} {P:Program} {ops:Array Oper} {rest:List Oper} {o:Oper} {Q:Exit→Act→World→Prop} {t' e t ty:TypeId} {ω cs A:Array Value} {v u m:Value} {xs:List Value} {s:ByteArray} {col:Bool} {c:UInt8} {ss:List ByteArray}
theorem ah {a b:Bool} (h:a=b):Ending.returned (.bool a)= .returned (.bool b):=by rw[h]
theorem aH {k:IntKind} {a b:Int} (h:a=b):Ending.returned (.int k a)= .returned (.int k b):=by rw[h]
theorem gl (s:ByteArray) (k:Nat) (h:k<s.data.toList.length):s.data.toList[k]=s[k]'(by simpa using h):=by simp[ByteArray.getElem_eq_getElem_data]
theorem ab (s:ByteArray):s.data.toList.length=s.size:=by simp
theorem mk_data (s:ByteArray):(⟨s.data.toList.toArray⟩:ByteArray)=s:=by cases s;simp
def ez (w:World) (g:Nat) (l:List UInt8):Prop:=
 ∀j (hj:j<l.length),w.cell? ⟨g,j,none⟩=some (.int .u8 (l[j].toNat:Int))∧w.frozen? ⟨g,j,none⟩=false
theorem ez.cell {w:World} {g:Nat} {l:List UInt8} (h:ez w g l) {j:Nat} (hj:j<l.length):w.cell? ⟨g,j,none⟩=some (.int .u8 (l[j].toNat:Int)):=(h j hj).1
theorem ez.free (h:ez w g l) {j:Nat} (hj:j<l.length):w.frozen? ⟨g,j,none⟩=false:=(h j hj).2
theorem ez.below (h:ez w g l) (hb:Below B w w') (hg:g<B):ez w' g l:=
 fun j hj=>⟨(hb.cell (p:=⟨g,j,none⟩) hg).trans (h j hj).1,(hb.frozen (p:=⟨g,j,none⟩) hg).trans (h j hj).2⟩
theorem ez.drew {w:World} {g:Nat} {l:List UInt8} (h:ez w g l):ez w.drew g l:=h
theorem ez.bT (h:ez w g l) {k:Nat} (hk:k<l.length) (c:UInt8):ez (w.setCell ⟨g,k,none⟩ (.int .u8 (c.toNat:Int))) g (l.set k c):=by
 intro j hj;refine⟨?_,(World.frozen?_setCell _ _ _ _).trans (h j (by simpa using hj)).2⟩;by_cases e:j=k
 ·subst e;rw[Eu _ _ _ (h j (by simpa using hj)).1];simp
 ·rw[mV _ _ _ _ (by simp),(h j (by simpa using hj)).1];rw[List.getElem_set_ne (Ne.symm e)]
theorem jP 
  (hg:o.guard=none) (x:Operand) (src dst e:TypeId) (vp:o.op=Op.convert src dst x) (s:ByteArray) (hx:a.eval x= .string s)
  (hs:P.underlying src=some .string) (hd:P.underlying dst=some (.slice e)) (he:P.underlying e=some (.int .u8))
  (hK: ∀cap w',s.size≤cap→ez w' w.heap.size s.data.toList→Below w.heap.size w w'→w.heap.size<w'.heap.size→wpList P ops Q rest (a.put o.dst (.slice (some ⟨w.heap.size,0,none⟩) s.size cap)) w'):
  wpList P ops Q (o::rest) a w:=by
 refine wpList_plain hg fun K hK'=>?_
 have aaN:=run_bytes_of_string (P:=P) w src dst e s hs hd he;unfold Oper.wp;simp only[execOp,vp,hx,rB,aaN,vQ,tR];refine hK' _ _ (hK _ _ (grownCap_ge w s.size 0 e) ?_ ((aV _ _).drew.alloc (aS _) _) (by simp));intro j hj;have Lr:j<s.data.size:=by simpa using hj
 refine⟨?_,?_⟩
 ·rw[show w.heap.size=w.drew.heap.size from rfl,World.cell?_alloc_mark,bytesRow_at s _ j Lr];simp
 ·rw[show w.heap.size=w.drew.heap.size from rfl,World.frozen?_alloc_mark];have h2:s.data.size=s.size:=rfl;have:j<(bytesRow s (grownCap w s.size 0 e)).size:=by simp[bytesRow];omega
  simp;omega
theorem oh (h:ez w g l) (src dst e:TypeId) (n cap:Nat) (hn:n=l.length) (hs:P.underlying src=some (.slice e)) (he:P.underlying e=some (.int .u8)) (hd:P.underlying dst=some .string):
  (convert src dst (.slice (some ⟨g,0,none⟩) n cap)).run P w= .ok (.string ⟨l.toArray⟩) w:=by
 subst hn;refine run_convert_bytes_back w src dst e _ cap l hs he hd fun j hj=>?_
 rw[ri,kP];exact(h j hj).1
def aK (w:World) (g:Nat) (t:TypeId) (cs:Array Value):Prop:=w.heap[g]? =some (.cells cs t (0,0))
section
variable {w w':World} {g:Nat} {t:TypeId} {cs:Array Value}
theorem aK.lt (h:aK w g t cs):g<w.heap.size:=by
 rcases dF g w.heap.size with ax|mg
 ·exact ax
 ·unfold aK at h;rw[Be mg]at h;cases h
theorem aK.cell (h:aK w g t cs) (i:Nat):w.cell? ⟨g,i,none⟩=cs[i]? :=cell_of_row w g i cs t (0,0) h
theorem aK.frozen (h:aK w g t cs) (i:Nat):w.frozen? ⟨g,i,none⟩=false:=by
 unfold aK at h;simp[World.frozen?,h]
theorem aK.new (w:World) (t:TypeId) (cs:Array Value):aK (w.alloc (.cells cs t)) w.heap.size t cs:=heap_alloc_new w _
theorem aK.drew (h:aK w g t cs):aK w.drew g t cs:=h
theorem aK.drewN (h:aK w g t cs) (n:Nat):aK (w.drewN n) g t cs:=h
theorem aK.alloc (h:aK w g t cs) (o:Obj):aK (w.alloc o) g t cs:=(Below.heap_alloc w o g h.lt).trans h
theorem aK.bT (h:aK w g t cs) (i:Nat) (u:Value):aK (w.setCell ⟨g,i,none⟩ u) g t (cs.setIfInBounds i u):=by
 unfold aK at h ⊢
 simp[World.setCell,Array.getElem?_modify,h]
theorem aK.FQ (h:aK w g t cs) {p:Addr} (hp:g≠p.block) (u:Value):aK (w.setCell p u) g t cs:=(yJ w p u g hp).trans h
theorem aK.below (h:aK w g t cs) (hb:Below B w w') (hg:g<B):aK w' g t cs:=(hb.block g hg).trans h
theorem aK.grown {row:Option Nat} (h:aK w g t cs) (hb:w.grownBy w' row) (hg:some g≠row):aK w' g t cs:=(hb.block g h.lt hg).trans h
theorem aK.ne_ (h:aK w g t cs) (h':aK w g' t' ω) (bZ:t≠t'):g≠g':=by
 rintro rfl;unfold aK at h h';rw[h]at h';injection h' with h'
 injection h' with _ ht
 exact bZ ht
theorem cI (h:w.ownsRow base e size v n xs) (hg:aK w g t cs) (bZ:e≠t):v.ownBlock≠some g:=by
 rcases h.2 with⟨rfl,_⟩|⟨g',cap,cur,rfl,_,hh,_⟩
 ·simp[Value.ownBlock]
 ·intro he;have:g'=g:=by simpa [Value.ownBlock]using he
  subst this;exact aK.ne_ (t:=e) hh hg bZ rfl
end
theorem aM {row:Option Nat} (h:w0.grownBy w row) (h':w.grownBy w' row):w0.grownBy w' row:=
 ⟨h'.os.trans h.os,h'.tape.trans h.tape,h'.output.trans h.output,bP h.size h'.size,fun k hk bZ=>(h'.block k (gU hk h.size) bZ).trans (h.block k hk bZ)⟩
theorem ir 
  (hg:o.guard=none) (s x:Operand) (t:TypeId) (vp:o.op=Op.call {callee:=Callee.builtin Builtin.append,args:=#[s,x],argTypes:=#[t,t]})
  (base:Nat) (e:TypeId) (z:Value) (size bytes:Nat) (jD:(P.info? e).map (fun i=>(i.zero,i.size,i.bytes))=some (some z,size,bytes)) (h1:P.underlying t=some (.slice e)) (yA:z.cells.size=size) (iE:0<size)
  (v:Value) (n:Nat) (xs:List Value) (hs:a.eval s=v) (aL:w0.ownsRow base e size v n xs) (us:List Value) (WV:us.length=size)
  (hx:a.eval x= .slice (some ⟨w0.heap.size,0,none⟩) 1 1) (PD: ∀u∈us,u.oneCell'=true) (pC:n+1≤maxLen) (hb:(n+1)*bytes≤140737488355328) (cN:base≤w0.heap.size)
  (hK: ∀v' w',w'.ownsRow base e size v' (n+1) (xs++us)→w0.grownBy w' v.ownBlock→wpList P ops Q rest (a.put o.dst v') w'):
  wpList P ops Q (o::rest) a (w0.alloc (.cells us.toArray e)):=by
 obtain⟨i,hi,hz,H8,H9⟩:=kR jD;refine wpList_append_own _ hg s x t vp base e i z size bytes h1 hi hz H8 H9 yA iE v n xs hs (aL.alloc _) ⟨w0.heap.size,0,none⟩ 1 1 us hx (by omega) ?_ PD pC hb (by simp;omega) ?_
 ·intro j u hu;have hj:j<us.length:=(yF.1 hu).1;rw[ri,kP,vC _ _ _ _ rfl];simpa using hu
 ·intro v' w' ho jw _;exact hK v' w' ho (aM (tN w0 _ _) jw)
theorem o7 
  (hg:o.guard=none) (s x:Operand) (t:TypeId) (vp:o.op=Op.call {callee:=Callee.builtin Builtin.append,args:=#[s,x],argTypes:=#[t,t]})
  (base:Nat) (e:TypeId) (z:Value) (size bytes:Nat) (jD:(P.info? e).map (fun i=>(i.zero,i.size,i.bytes))=some (some z,size,bytes)) (h1:P.underlying t=some (.slice e))
  (g k cap:Nat) (xs:List Value) (hs:a.eval s= .slice (some ⟨g,0,none⟩) k cap) (aL:w0.ownsRow base e size (.slice (some ⟨g,0,none⟩) k cap) k xs) (us:List Value) (WV:us.length=size)
  (hx:a.eval x= .slice (some ⟨w0.heap.size,0,none⟩) 1 1) (PD: ∀u∈us,u.oneCell'=true) (hk:k+1≤cap)
  (hK: ∀w',w'.ownsRow base e size (.slice (some ⟨g,0,none⟩) (k+1) cap) (k+1) (xs++us)→w0.grownBy w' (some g)→wpList P ops Q rest (a.put o.dst (.slice (some ⟨g,0,none⟩) (k+1) cap)) w'):
  wpList P ops Q (o::rest) a (w0.alloc (.cells us.toArray e)):=by
 obtain⟨i,hi,hz,H8,H9⟩:=kR jD;refine wpList_append_fits _ hg s x t vp base e i size h1 hi H8 g k cap xs hs (aL.alloc _) ⟨w0.heap.size,0,none⟩ 1 1 us hx (by omega) ?_ PD hk ?_
 ·intro j u hu;have hj:j<us.length:=(yF.1 hu).1;rw[ri,kP,vC _ _ _ _ rfl];simpa using hu
 ·intro w' ho jw;exact hK w' ho (aM (tN w0 _ _) jw)
theorem zZ (h:u.oneCell'=true): ∀x∈[u],x.oneCell'=true:=by intro x hx;simp at hx;subst hx;exact h
def cellsOf (l:List UInt8):List Value:=l.map fun c=>.int .u8 (c.toNat:Int)
theorem fX (l m:List UInt8):cellsOf (l++m)=cellsOf l++cellsOf m:=by simp[cellsOf]
theorem sw (h:w.ownsRow base e 1 (.slice (some ⟨g,0,none⟩) n cap) n (cellsOf l)):ez w g l:=by
 have hn:l.length=n:=by have:=h.1;simpa [cellsOf]using this
 intro j hj;refine⟨?_,h.frozenAt j⟩;rw[h.cellAt j (by omega)];simp[cellsOf,hj]
theorem fx (h:Below w.heap.size w w') (row:Option Nat):w.grownBy w' row:=⟨h.os,h.tape,h.output,h.size,fun i hi _=>h.block i hi⟩
theorem aD (h:w.ownsRow base e size v n xs) (hp:aK w p t cs) (bZ:e≠t) (u:Value):(w.setCell ⟨p,i,none⟩ u).ownsRow base e size v n xs:=by
 refine⟨h.1,?_⟩;rcases h.2 with hn|⟨g,cap,cur,rfl,h1,h2,h3,h4,h5,h6⟩
 ·exact .inl hn
 ·refine .inr ⟨g,cap,cur,rfl,h1,?_,h3,h4,h5,h6⟩;have XG:g≠p:=aK.ne_ (t:=e) h2 hp bZ;exact(yJ w ⟨p,i,none⟩ u g XG).trans h2
theorem bf (h:w.ownsRow base e size v k xs) (hb:Below w.heap.size w w'):w'.ownsRow base e size v k xs:=
 h.kept (fx hb none) (by cases v.ownBlock<;>simp)
theorem bY (h:w.ownsRow b e size v n xs) (hb:b'≤b):w.ownsRow b' e size v n xs:=by
 refine⟨h.1,?_⟩;rcases h.2 with hn|⟨g,cap,cur,rfl,h1,h2⟩
 ·exact .inl hn
 ·exact .inr ⟨g,cap,cur,rfl,bP hb h1,h2⟩
theorem Below.le (h:Below B w w'):w.heap.size≤w'.heap.size:=h.size
def letter (c:UInt8):Bool:=(97≤c.toNat&&c.toNat≤122)||(65≤c.toNat&&c.toNat≤90)||c.toNat==95
def digit (c:UInt8):Bool:=48≤c.toNat&&c.toNat≤57
def bu (abr:Bool) (c:UInt8):Bool:=letter c||digit c||(abr&&c.toNat==58)
def low (c:UInt8):UInt8:=if 65≤c.toNat∧c.toNat≤90 then c+32 else c
def kU (l:List UInt8) (k:Nat):List UInt8:=(l.take k).map low++l.drop k
theorem MD (l:List UInt8):kU l 0=l:=by simp[kU]
theorem Qt (l:List UInt8) {k:Nat} (h:l.length≤k):kU l k=l.map low:=by
 simp[kU,A3 h,uD h]
theorem ES (l:List UInt8) (k:Nat):(kU l k).length=l.length:=by simp[kU];omega
theorem Jp (l:List UInt8) (k:Nat) (h:k<l.length):(kU l k)[k]'(by rw[ES];exact h)=l[k]:=by
 simp only[kU];rw[List.getElem_append_right (by simp;omega)];simp[mW (ju h)]
theorem Ck (l:List UInt8) (k:Nat) (h:k<l.length):kU l (k+1)=(kU l k).set k (low l[k]):=by
 have h0:k-((l.take k).map low).length=0:=by simp;omega
 have h1:(l.drop k).set 0 (low l[k])=low l[k]::l.drop (k+1):=by rw[pq h];rfl
 unfold kU;rw[List.set_append_right _ _ (by simp;omega),h0,h1,jy h,mX,tx];rfl
theorem ME (l:List UInt8) (k:Nat) (h:k<l.length) (hl:low l[k]=l[k]):kU l (k+1)=kU l k:=by
 rw[Ck l k h,hl]
 conv=>lhs;rw[←Jp l k h]
 exact List.set_getElem_self _
theorem TR (c:UInt8) (h:65≤c.toNat∧c.toNat≤90):((low c).toNat:Int)=(c.toNat:Int)+32:=by
 rw[low,au h,UInt8.toNat_add];simp;omega
theorem TS (c:UInt8) (h: ¬(65≤c.toNat∧c.toNat≤90)):low c=c:=by rw[low,af h]
def ae (p:UInt8→Bool) (l:List UInt8) (i:Nat):Nat:=i+((l.drop i).takeWhile p).length
theorem iC {p:UInt8→Bool} (h:i<l.length) (hp:p l[i]=true):ae p l (i+1)=ae p l i:=by
 unfold ae;rw[pq h,rf,au hp];simp;omega
theorem xa {p:UInt8→Bool} (h:i<l.length) (hp:p l[i]=false):ae p l i=i:=by
 unfold ae;rw[pq h,rf,af (by simp[hp])];simp
theorem bR {p:UInt8→Bool} (h:l.length≤i):ae p l i=i:=by
 unfold ae;rw[uD h];simp
theorem gH {p:UInt8→Bool} (h:k<s.size) (hp:p s[k]=true):ae p s.data.toList (k+1)=ae p s.data.toList k:=
 iC (by simpa using h) (by rw[gl];exact hp)
theorem gI {p:UInt8→Bool} (h:k<s.size) (hp:p s[k]=false):ae p s.data.toList k=k:=
 xa (by simpa using h) (by rw[gl];exact hp)
theorem aX (p:UInt8→Bool) (l:List UInt8) (i:Nat):i≤ae p l i:=by unfold ae;omega
theorem bL (p:UInt8→Bool) (l:List UInt8) (i:Nat) (h:i≤l.length):ae p l i≤l.length:=by
 unfold ae;have:=(List.takeWhile_prefix p (l:=l.drop i)).length_le;simp at this;omega
def rK (l:List UInt8) (k:Nat):List UInt8:=(l.take k).map low
theorem Kj (l:List UInt8) (k:Nat) (h:k<l.length):rK l (k+1)=rK l k++[low l[k]]:=by
 rw[rK,jy h,mX];rfl
def Wj:List (List UInt8):=[[97,110,100],[98,111,111,108],[98,121],[103,114,111,117,112,95,108,101,102,116],[103,114,111,117,112,95,114,105,103,104,116],[105,103,110,111,114,105,110,103],[111,102,102,115,101,116],[111,110],[111,114],[117,110,108,101,115,115],[119,105,116,104,111,117,116],[97,118,103],[98,111,116,116,111,109,107],[99,111,117,110,116],[99,111,117,110,116,95,118,97,108,117,101,115],[103,114,111,117,112],[109,97,120],[109,105,110],[113,117,97,110,116,105,108,101],[115,116,100,100,101,118],[115,116,100,118,97,114],[115,117,109],[116,111,112,107]]
def xF (l:List UInt8):Bool:=Wj.contains l
theorem Ul (h:xF l=true):l.length≤12:=by
 have fO: ∀k∈Wj,k.length≤12:=by decide
 exact fO l (by simpa [xF]using h)
def word (l:List UInt8):Bool:=xF (l.map low)
theorem ET (h:12<l.length):word l=false:=by
 cases hw:word l
 ·rfl
 ·have:=Ul hw;simp at this;omega
def dN (l:List UInt8):Bool:=match l with|[]=>false|c::r=>letter c&&(c::r).all (bu false)
def BM (l:List UInt8):Bool:=match l with|[]=>false|c::r=> !digit c&&(c::r).all (bu true)
theorem nQ (p:UInt8→Bool): ∀l:List UInt8,((l.takeWhile p).length==l.length)=l.all p
 |[]=>rfl
 |c::r=>by
  have ih:=nQ p r;cases hp:p c
  ·simp[hp]
  ·simpa [rf,hp]using ih
theorem Kk (p:UInt8→Bool) (l:List UInt8):(ae p l 0==l.length)=l.all p:=by
 rw[←nQ];simp[ae]
def vG (col:Bool) (l:List UInt8) (k:Nat):Bool:=if k=0 then(if col then BM l else dN l)else(l.drop k).all (bu col)
theorem tZ (h:letter c=true):bu col c=true:=by simp[bu,h]
theorem GY (h:digit c=true):bu col c=true:=by simp[bu,h]
theorem GZ (h:letter c=true):digit c=false:=by
 simp[letter,digit]at*;omega
theorem Um (h:k=l.length):vG col l k= !l.isEmpty:=by
 cases l with
 |nil=>subst h;cases col<;>rfl
 |cons c r=>
  have:k≠0:=by simp at h;omega
  rw[vG,af this,uD (by omega)];rfl
theorem Un (col:Bool) (c:UInt8) (r:List UInt8):vG col (c::r) 1=r.all (bu col):=by simp[vG]
theorem sR (h:k<s.size) (hc:letter s[k]=true∨(col=true∧s[k].toNat=58)∨(k≠0∧digit s[k]=true)):vG col s.data.toList (k+1)=vG col s.data.toList k:=by
 have hk:k<s.data.toList.length:=by rw[ab];exact h
 have hg:s.data.toList[k]=s[k]:=gl s k hk;have hn:bu col s[k]=true:=by
  rcases hc with h|⟨h1,h2⟩|⟨_,h⟩
  ·exact tZ h
  ·simp[bu,h1,h2]
  ·exact GY h
 by_cases h0:k=0
 ·subst h0;cases hl:s.data.toList with
  |nil=>rw[hl]at hk;simp at hk
  |cons c r=>
   have bh:c=s[0]:=by rw[←hg];simp[hl]
   rw[Un,vG,au rfl];rw[←bh]at hn hc;cases col
   ·have ax:letter c=true:=by rcases hc with h|⟨h,_⟩|⟨h,_⟩<;>simp_all
    simp[dN,ax,hn]
   ·have hd:digit c=false:=by
     rcases hc with h|⟨_,h⟩|⟨h,_⟩
     ·exact GZ h
     ·simp[digit,h]
     ·simp at h
    simp[BM,hd,hn]
 ·rw[vG,vG,af (by omega),af h0,pq hk,hg,List.all_cons,hn,mC]
theorem EU (h:k<s.size) (hl:letter s[k]=false) (hc:col=true→s[k].toNat≠58) (hd:k=0∨digit s[k]=false):vG col s.data.toList k=false:=by
 have hk:k<s.data.toList.length:=by rw[ab];exact h
 have hg:s.data.toList[k]=s[k]:=gl s k hk;by_cases h0:k=0
 ·subst h0;cases lr:s.data.toList with
  |nil=>rw[lr]at hk;simp at hk
  |cons c r=>
   have bh:c=s[0]:=by rw[←hg];simp[lr]
   rw[vG,au rfl];rw[←bh]at hl hc;cases col
   ·simp[dN,hl]
   ·have:=hc rfl;cases hd:digit c<;>simp[BM,bu,hl,hd,this]
 ·rw[vG,af h0,pq hk,hg,List.all_cons];have hd':digit s[k]=false:=hd.resolve_left h0;have:bu col s[k]=false:=by
   cases col
   ·simp[bu,hl,hd']
   ·simp[bu,hl,hd',hc rfl]
  rw[this,rA]
def aq (l:List UInt8) (i:Nat):UInt8:=l.getD i 0
theorem ar (h:i<s.size):aq s.data.toList i=s[i]:=by
 have hk:i<s.data.toList.length:=by rw[ab];exact h
 rw[←gl s i hk,aq,lA,eG hk];rfl
theorem Bz (h:l.length≤i):aq l i=0:=by
 rw[aq,lA,Ew h];rfl
theorem cA (c:UInt8) (w:World):
  Calls prog 135 #[.int .u8 (c.toNat:Int)] w fun e w'=>e= .returned (.bool (digit c))∧w=w':=by
 go_enter func135,ntmps135;go_wp2
 all_goals (go_ret;exact⟨ah (by rw[eH];simp[digit];omega),rfl⟩)
theorem bD (c:UInt8) (w:World):
  Calls prog 118 #[.int .u8 (c.toNat:Int)] w fun e w'=>e= .returned (.bool (letter c))∧w=w':=by
 go_enter func118,ntmps118;go_wp2
 all_goals (go_ret;exact⟨ah (by rw[eH];simp[letter];omega),rfl⟩)
theorem se (s : ByteArray) (i : Nat) (col : Bool) (w : World) (hs : s.size ≤ maxLen) (hi : i ≤ maxLen) :
    Calls prog 119 #[.string s,.int .i64 (i:Int),.bool col] w fun e w'=>e= .returned (.int .i64 (ae (bu col) s.data.toList i:Nat))∧w=w':=by
  unfold maxLen at hs hi
  go_enter func119,ntmps119
  go_wp2_with fail
  go_loop [1] (fun t=> ∃k:Nat,k≤9223372036854775807∧t= .int .i64 k∧Hid (ae (bu col) s.data.toList k=ae (bu col) s.data.toList i)) (fun t=>s.size-(intOf t).toNat)
  case atStart=>exact⟨i,hi,rfl,rfl⟩
  case round =>
    obtain⟨k,hk,rfl,gV⟩:=hrel
    by_cases ax:k<s.size
    · cases hl : letter s[k] <;> cases hd : digit s[k] <;> cases col
      all_goals
        go_wp2_with (first|(go_at_call 118;refine(bD _ _).mono ?_;rintro e w' ⟨rfl,rfl⟩)|(go_at_call 135;refine(cA _ _).mono ?_;rintro e w' ⟨rfl,rfl⟩))
      all_goals first
        | (go_ret; exact ⟨aH (by rw [← gV.out, gI ax (by simp [bu, *]; try (rename_i h; simp at h; omega))]), rfl⟩)
        | (go_round
           case rel=>exact⟨k+1,by omega,by go_num,(gH ax (by simp[bu, *];try(rename_i h;simp at h;omega))).trans gV⟩
           case measure=>simp[intOf];omega)
    · go_wp2_with fail
      go_ret
      exact⟨aH (by rw[←gV.out,bR (by simpa using ax)]),rfl⟩
theorem EV (s:ByteArray) (w:World) (hs:s.size≤maxLen):
  Calls prog 117 #[.string s] w fun e w'=>e= .returned (.string ⟨(s.data.toList.map low).toArray⟩)∧Below w.heap.size w w':=by
 unfold maxLen at hs;go_enter func117,ntmps117;go_wp2_with (with_reducible refine jP rfl (.tmp 6) 9 147 5 rfl s rfl underlying9 underlying147 underlying5 ?_);intro cap w1 uH aW tT aev;go_wp2_with fail;go_loopw [10] (fun i wr=> ∃k:Nat,k≤s.size∧i= .int .i64 k∧ez wr w.heap.size (kU s.data.toList k)∧Below w.heap.size w wr∧w.heap.size<wr.heap.size) (fun i _=>s.size-(intOf i).toNat)
 case atStart=>exact⟨0,dQ _,rfl,by rw[MD];exact aW,tT,aev⟩
 case round=>
  obtain⟨k,hk,rfl,hb,bQ,iE⟩:=hrel;by_cases ax:k<s.size
  ·have qY:k<s.data.toList.length:=by rw[ab];exact ax
   have aaO:k<(kU s.data.toList k).length:=by rw[ES];exact qY
   have hc:wr.cell? ⟨w.heap.size,k,none⟩=some (.int .u8 (s[k].toNat:Int)):=by
    rw[hb.cell aaO,Jp _ _ qY,gl]
   have hf:wr.frozen? ⟨w.heap.size,k,none⟩=false:=hb.free aaO;by_cases Sd:65≤s[k].toNat∧s[k].toNat≤90
   ·have IG:=hb.bT aaO (low s[k]);rw[TR _ Sd]at IG;have PE:ez (wr.setCell ⟨w.heap.size,k,none⟩ (.int .u8 ((s[k].toNat:Int)+32))) w.heap.size (kU s.data.toList (k+1)):=by
     rw[Ck _ _ qY,gl];exact IG
    have HN:=aa PE;have HB:=aa bQ;clear IG PE hb aW bQ tT;obtain⟨Se,Ls⟩:=Sd;go_wp2_with fail;go_roundw
    case rel=>exact⟨k+1,by omega,by go_num,HN,HB.setCell (aS _) _,by simpa using iE⟩
    case measure=>simp[intOf];omega
   ·have PE:ez wr w.heap.size (kU s.data.toList (k+1)):=by
     rw[ME _ _ qY (by rw[gl];exact TS _ Sd)];exact hb
    have HN:=aa PE;have HB:=aa bQ;clear PE hb aW bQ tT;rcases(show s[k].toNat<65∨(65≤s[k].toNat∧90<s[k].toNat)from by omega)with hu|⟨Se,Ls⟩
    all_goals
     go_wp2_with fail;go_roundw
     case rel=>exact⟨k+1,by omega,by go_num,HN,HB,iE⟩
     case measure=>simp[intOf];omega
  ·have uv:k=s.size:=by omega
   have hlen:s.data.toList.length=s.size:=ab s;rw[Qt _ (by omega)]at hb;have Jd:=oh (P:=prog) hb 147 9 5 s.size cap (by simp) underlying147 underlying5 underlying9;have HB:=aa bQ;clear hlen uv hb bQ;go_wp2_with fail;go_ret;exact⟨rfl,HB⟩
theorem Gm {t:ByteArray} {a b:Bool} (h:s=t) (h':a=b):Ending.returned (.tuple #[.string s,.bool a])= .returned (.tuple #[.string t,.bool b]):=by rw[h,h']
def ky (l:List UInt8):ByteArray:=if word l then⟨(l.map low).toArray⟩else⟨#[]⟩
theorem Ah (w:World):Calls prog 105 #[.string ⟨#[]⟩] w fun e w'=>e= .returned (.bool false)∧w=w':=by
 go_enter func105,ntmps105;go_wp2_with fail;go_ret;exact⟨rfl,rfl⟩
theorem zf (s:ByteArray) (w:World) (hs:s.size≤maxLen):
  Calls prog 105 #[.string s] w fun e w'=>e= .returned (.bool (dN s.data.toList))∧w=w':=by
 cases hl:s.data.toList with
 |nil=>
  have:s=⟨#[]⟩:=by rw[←mk_data s,hl]
  subst this;exact Ah w
 |cons c r=>
  have iE:0<s.size:=by rw[←ab,hl];simp
  have hc:s[0]=c:=by rw[←gl s 0 (by rw[hl];simp)];simp[hl]
  have gV:=Kk (bu false) s.data.toList;rw[ab]at gV;have bZ:(s.toList==[])=false:=by rw[nS,hl];rfl
  have mA:dN s.data.toList=(letter c&&s.data.toList.all (bu false)):=by rw[hl];rfl
  rw[←hl,mA,←gV,←hc];have Wk:=hs;unfold maxLen at Wk;clear mA hc gV hl;cases ax:letter s[0]
  all_goals
   go_enter func105,ntmps105;go_wp2_with (first|(go_at_call 118;refine(bD _ _).mono ?_;rintro e w' ⟨rfl,rfl⟩)|(go_at_call 119;refine(se s 0 false _ hs (by decide)).mono ?_;rintro e w' ⟨rfl,rfl⟩));go_ret;exact⟨ah (by rw[eH];simp;try omega),rfl⟩
theorem Uo (s:ByteArray) (w:World) (hs:s.size≤maxLen):
  Calls prog 103 #[.string s] w fun e w'=>e= .returned (.tuple #[.string (ky s.data.toList),.bool (word s.data.toList)])∧Below w.heap.size w w':=by
 have Wk:=hs;unfold maxLen at Wk;by_cases h12:12<s.size
 ·have hw:word s.data.toList=false:=ET (by rw[ab];exact h12);have xu:ky s.data.toList=⟨#[]⟩:=by simp[ky,hw]
  rw[hw,xu];clear hw xu;go_enter func103,ntmps103;go_wp2_with fail;go_ret2;exact⟨rfl,aV _ _⟩
 ·have hwo:ky s.data.toList=(if xF (s.data.toList.map low)then⟨(s.data.toList.map low).toArray⟩else⟨#[]⟩):=rfl;have hw:word s.data.toList=xF (s.data.toList.map low):=rfl;go_enter func103,ntmps103;have HO:=aa hwo;have HW:=aa hw;clear hwo hw;go_wp2_with fail;refine(EV s _ hs).mono ?_;rintro e w1 ⟨rfl,hb⟩;generalize s.data.toList.map low=L at HO HW ⊢
  have HB:=aa hb;clear hb;cases hk:xF L
  ·have bZ: ∀k,k∈Wj→(L==k)=false:=by
    intro k PF;cases hb:L==k
    ·rfl
    ·have:L=k:=by simpa using hb
     subst this;simp[xF]at hk;exact absurd PF hk
   simp only[Wj,gB,kM,iP,yO,forall_eq]at bZ;obtain⟨h1,h2,h3,h4,h5,h6,h7,h8,h9,Ia,h11,h12,h13,h14,h15,Γ,h17,h18,h19,h20,h21,h22,h23⟩:=bZ;have HK:=aa hk;clear hk;go_wp2_with fail;go_ret2;exact⟨Gm (by rw[HO.out,HK.out];rfl) (by rw[HW.out,HK.out]),HB.out⟩
  ·have hm:L∈Wj:=by simpa [xF]using hk
   simp only[Wj,gB,kM,iP]at hm;have HK:=aa hk;clear hk;rcases hm with rfl|rfl|rfl|rfl|rfl|rfl|rfl|rfl|rfl|rfl|rfl|rfl|rfl|rfl|rfl|rfl|rfl|rfl|rfl|rfl|rfl|rfl|rfl
   all_goals
    go_wp2_with fail;go_ret2;exact⟨Gm (by rw[HO.out,HK.out];rfl) (by rw[HW.out,HK.out]),HB.out⟩
structure PM where
 name:ByteArray
 op:Int
 value:ByteArray
structure PR where
 kind:Int
 kids:Int
 op:ByteArray
 text:ByteArray
 ms:List PM
 bV:ByteArray
 step:ByteArray
 off:ByteArray
 tim:ByteArray
 bool:Bool
 given:Bool
 on:Bool
 mls:List ByteArray
 card:Int
 inc:List ByteArray
 without:Bool
 labels:List ByteArray
theorem xb (w:World) (g:Nat) (cs:Array Value):w.grownBy (w.setRow g cs) (some g):=by
 refine⟨by simp,by simp,by simp,by simp,fun k hk bZ=>setRow_other w g k cs ?_⟩;rintro rfl;exact bZ rfl
theorem dA (PG:o.guard=none) (ty:TypeId) (x:Operand) (ho:o.op= .load ty x)
  (g:Nat) (hx:a.eval x= .pointer (some ⟨g,0,none⟩)) {t:TypeId} {cs:Array Value} {fs:Array Field} (hb:aK w g t cs)
  (hu:P.underlying ty=some (.struct fs)) (hi:(P.info? ty).map (·.size)=some cs.size)
  (h:wpList P ops Q rest (a.put o.dst (.agg cs)) w):wpList P ops Q (o::rest) a w:=
 wpList_load_row PG ty x ho g hx t cs (0,0) _ hb hu rfl hi h
theorem ay (PG:o.guard=none) (ty:TypeId) (x y:Operand) (ho:o.op= .store ty x y)
  (g:Nat) (cells:Array Value) (hx:a.eval x= .pointer (some ⟨g,0,none⟩)) (hy:a.eval y= .agg cells)
  {t:TypeId} {WX:Array Value} (hb:aK w g t WX) (hi:(P.info? ty).map (·.size)=some cells.size)
  (hold:WX.size=cells.size) (h1:cells.toList.all (·.oneCell')=true)
  (h: ∀W,aK W g t cells→w.grownBy W (some g)→wpList P ops Q rest (a.put o.dst undef) W):wpList P ops Q (o::rest) a w:=
 wpList_store_row PG ty x y ho g cells hx hy t WX hb hi hold (by rw[←Array.all_toList];exact h1) (h _ (setRow_heap w g WX cells t (0,0) hb) (xb w g cells))
theorem aZ {fn:Func} {p:Tmp} (h:fn.results= #[.cell p ty]) {tmps:Array Value} {w:World} {g:Nat} {t:TypeId} {cs:Array Value} {fs:Array Field}
  (hp:tmps.getD p undef= .pointer (some ⟨g,0,none⟩)) (hb:aK w g t cs) (hu:P.underlying ty=some (.struct fs)) (hi:(P.info? ty).map (·.size)=some cs.size):
  (results fn tmps).run P w= .ok (.agg cs) w:=
 results_cell_row h tmps w g t cs (0,0) _ hp hb hu rfl hi
theorem fF (hb:Below B w w') (hg:w'.grownBy Zk (some g)) (hB:B≤w'.heap.size) (hl:B≤g):Below B w Zk:=
 hb.grown hg hB (fun k hk=>by injection hk with hk;omega)
theorem oG (h:w.ownsRow base e size v n xs) (hg:w.grownBy w' (some g)) (hb:aK w g t cs) (bZ:e≠t):w'.ownsRow base e size v n xs:=
 h.kept hg (.inr (cI h hb bZ))
def fN (w:World) (k:Int) (e:Ending) (w':World):Prop:=e= .returned (.int .i64 k)∧Below w.heap.size w w'
def aG (w:World) (b:Bool) (e:Ending) (w':World):Prop:=e= .returned (.bool b)∧Below w.heap.size w w'
def cU (b:Nat) (w:World) (v:Value) (ss:List ByteArray):Prop:=
 ∃ao c,v= .slice ao ss.length c∧ ∀j (h:j<ss.length),∃g o,ao=some ⟨g,o,none⟩∧b≤g∧g<w.heap.size∧w.cell? ⟨g,o+j,none⟩=some (.string ss[j])
def eI (b:Nat) (w:World) (v:Value) (ms:List PM):Prop:=
 ∃ao c,v= .slice ao ms.length c∧ ∀j (h:j<ms.length),∃g o,ao=some ⟨g,o,none⟩∧b≤g∧g<w.heap.size∧w.cell? ⟨g,o+j*3,none⟩=some (.string ms[j].name)∧w.cell? ⟨g,o+j*3+1,none⟩=some (.int .i64 ms[j].op)∧w.cell? ⟨g,o+j*3+2,none⟩=some (.string ms[j].value)
theorem cU.below (h:cU b w v ss) (hb:Below w.heap.size w w'):cU b w' v ss:=by
 obtain⟨ao,c,h1,h2⟩:=h;refine⟨ao,c,h1,fun j hj=>?_⟩;obtain⟨g,o,a,l,u,x⟩:=h2 j hj;exact⟨g,o,a,l,gU u hb.size,(hb.cell (p:=⟨g,_,none⟩) u).trans x⟩
theorem eI.below {ms:List PM} (h:eI b w v ms) (hb:Below w.heap.size w w'):eI b w' v ms:=by
 obtain⟨ao,c,h1,h2⟩:=h;refine⟨ao,c,h1,fun j hj=>?_⟩;obtain⟨g,o,a,l,u,x,y,z⟩:=h2 j hj;exact⟨g,o,a,l,gU u hb.size,(hb.cell (p:=⟨g,_,none⟩) u).trans x,(hb.cell (p:=⟨g,_,none⟩) u).trans y,(hb.cell (p:=⟨g,_,none⟩) u).trans z⟩
theorem cU.lo (h:cU b w v ss) (hb:b'≤b):cU b' w v ss:=by
 obtain⟨ao,c,h1,h2⟩:=h;refine⟨ao,c,h1,fun j hj=>?_⟩;obtain⟨g,o,a,l,u⟩:=h2 j hj;exact⟨g,o,a,bP hb l,u⟩
theorem eI.lo {ms:List PM} (h:eI b w v ms) (hb:b'≤b):eI b' w v ms:=by
 obtain⟨ao,c,h1,h2⟩:=h;refine⟨ao,c,h1,fun j hj=>?_⟩;obtain⟨g,o,a,l,u⟩:=h2 j hj;exact⟨g,o,a,bP hb l,u⟩
theorem cU.FQ (h:cU b w v ss) {p:Addr} (hp:p.block<b) (u:Value):cU b (w.setCell p u) v ss:=by
 obtain⟨ao,c,h1,h2⟩:=h;refine⟨ao,c,h1,fun j hj=>?_⟩;obtain⟨g,o,a,l,k,x⟩:=h2 j hj;exact⟨g,o,a,l,by simpa using k,by rw[mV _ _ _ _ (by intro e;rw[e]at hp;simp only at hp;omega)];exact x⟩
theorem eI.FQ {b:Nat} {w:World} {v:Value} {ms:List PM} (h:eI b w v ms) {p:Addr} (hp:p.block<b) (u:Value):eI b (w.setCell p u) v ms:=by
 obtain⟨ao,c,h1,h2⟩:=h;refine⟨ao,c,h1,fun j hj=>?_⟩;obtain⟨g,o,a,l,k,x,y,z⟩:=h2 j hj;have FQ: ∀n,(w.setCell p u).cell? ⟨g,n,none⟩=w.cell? ⟨g,n,none⟩:=fun n=>mV _ _ _ _ (by intro e;rw[e]at hp;simp only at hp;omega)
 exact⟨g,o,a,l,by simpa using k,(FQ _).trans x,(FQ _).trans y,(FQ _).trans z⟩
def jB (r:PR) (m o i l:Value):Value:=
 .agg #[.int .i64 r.kind,.int .i64 r.kids,.string r.op,.string r.text,m,.string r.bV,.string r.step,.string r.off,.string r.tim,.bool r.bool,.bool r.given,.bool r.on,o,.int .i64 r.card,i,.bool r.without,l]
def dS (r:PR) (m o i l:Value):Array Value:=#[.int .i64 r.kind,.int .i64 r.kids,.string r.op,.string r.text,m,.string r.bV,.string r.step,.string r.off,.string r.tim,.bool r.bool,.bool r.given,.bool r.on,o,.int .i64 r.card,i,.bool r.without,l]
theorem aT {r:PR} {o i l:Value} (h:aK W g t A) (e:A=dS r m o i l):
  W.cell? ⟨g,0,none⟩=some (.int .i64 r.kind)∧W.cell? ⟨g,1,none⟩=some (.int .i64 r.kids)∧W.cell? ⟨g,2,none⟩=some (.string r.op)∧W.cell? ⟨g,3,none⟩=some (.string r.text)∧W.cell? ⟨g,4,none⟩=some m∧W.cell? ⟨g,5,none⟩=some (.string r.bV)∧W.cell? ⟨g,6,none⟩=some (.string r.step)∧W.cell? ⟨g,7,none⟩=some (.string r.off)∧W.cell? ⟨g,8,none⟩=some (.string r.tim)∧W.cell? ⟨g,9,none⟩=some (.bool r.bool)∧W.cell? ⟨g,10,none⟩=some (.bool r.given)∧W.cell? ⟨g,11,none⟩=some (.bool r.on)∧W.cell? ⟨g,12,none⟩=some o∧W.cell? ⟨g,13,none⟩=some (.int .i64 r.card)∧W.cell? ⟨g,14,none⟩=some i∧W.cell? ⟨g,15,none⟩=some (.bool r.without)∧W.cell? ⟨g,16,none⟩=some l:=by
 subst e;exact⟨h.cell 0,h.cell 1,h.cell 2,h.cell 3,h.cell 4,h.cell 5,h.cell 6,h.cell 7,h.cell 8,h.cell 9,h.cell 10,h.cell 11,h.cell 12,h.cell 13,h.cell 14,h.cell 15,h.cell 16⟩
def lO (r:PR) (m o i l:Value):List Value:=
 [.int .i64 r.kind,.int .i64 r.kids,.string r.op,.string r.text,m,.string r.bV,.string r.step,.string r.off,.string r.tim,.bool r.bool,.bool r.given,.bool r.on,o,.int .i64 r.card,i,.bool r.without,l]
def bw (b:Nat) (w:World) (r:PR) (m o i l:Value):Prop:=eI b w m r.ms∧cU b w o r.mls∧cU b w i r.inc∧cU b w l r.labels
theorem bw.below {b:Nat} {w w':World} {r:PR} {m o i l:Value} (h:bw b w r m o i l) (hb:Below w.heap.size w w'):bw b w' r m o i l:=
 ⟨h.1.below hb,h.2.1.below hb,h.2.2.1.below hb,h.2.2.2.below hb⟩
theorem bw.lo {b b':Nat} {w:World} {r:PR} {m o i l:Value} (h:bw b w r m o i l) (hb:b'≤b):bw b' w r m o i l:=
 ⟨h.1.lo hb,h.2.1.lo hb,h.2.2.1.lo hb,h.2.2.2.lo hb⟩
def lP (b:Nat) (w:World) (v:Value) (rs:List PR):Prop:=
 ∃ao c,v= .slice ao rs.length c∧ ∀j (h:j<rs.length),∃g o,ao=some ⟨g,o,none⟩∧b≤g∧g<w.heap.size∧ ∃vm vo vi vl,bw b w rs[j] vm vo vi vl∧ ∀k (hk:k<17),w.cell? ⟨g,o+j*17+k,none⟩=some ((lO rs[j] vm vo vi vl)[k]'(by simp[lO];omega))
theorem lP.below {b:Nat} {w w':World} {v:Value} {rs:List PR} (h:lP b w v rs) (hb:Below w.heap.size w w'):lP b w' v rs:=by
 obtain⟨ao,c,h1,h2⟩:=h;refine⟨ao,c,h1,fun j hj=>?_⟩;obtain⟨g,o,a,l,u,vm,vo,vi,vl,x,y⟩:=h2 j hj;exact⟨g,o,a,l,gU u hb.size,vm,vo,vi,vl,x.below hb,fun k hk=>(hb.cell (p:=⟨g,_,none⟩) u).trans (y k hk)⟩
theorem lP.lo {b b':Nat} {w:World} {v:Value} {rs:List PR} (h:lP b w v rs) (hb:b'≤b):lP b' w v rs:=by
 obtain⟨ao,c,h1,h2⟩:=h;refine⟨ao,c,h1,fun j hj=>?_⟩;obtain⟨g,o,a,l,u,vm,vo,vi,vl,x,y⟩:=h2 j hj;exact⟨g,o,a,bP hb l,u,vm,vo,vi,vl,x.lo hb,y⟩
theorem BN:(prog.info? 5).map (fun i=>(i.zero,i.size,i.bytes))=some (some (.int .u8 0),1,1):=by kernel_rfl
theorem xW (c:UInt8) (w:World):
  Calls prog 95 #[.int .u8 (c.toNat:Int)] w fun e w'=>e= .returned (.bool (digit c))∧w=w':=by
 go_enter func95,ntmps95;go_wp2
 all_goals (go_ret;exact⟨ah (by rw[eH];simp[digit];omega),rfl⟩)
theorem uM (c:UInt8) (w:World):
  Calls prog 93 #[.int .u8 (c.toNat:Int)] w fun e w'=>e= .returned (.bool (letter c))∧w=w':=by
 have hc:c.toNat<95∨c.toNat=95∨95<c.toNat:=by omega
 rcases hc with hc|hc|hc
 all_goals
  first|(have h1:95≤c.toNat∧c.toNat≤95:=by omega)|skip
  first|clear hc|skip
  go_enter func93,ntmps93;go_wp2
  all_goals (go_ret;exact⟨ah (by rw[eH];simp[letter];omega),rfl⟩)
theorem abt (s:ByteArray) (i:Nat) (w:World) (_hs:s.size≤maxLen):
  Calls prog 96 #[.string s,.int .i64 (i:Int)] w fun e w'=>e= .returned (.int .u8 ((aq s.data.toList i).toNat:Int))∧w=w':=by
 by_cases h:i<s.size
 ·have ha:=aa (ar h);go_enter func96,ntmps96;go_wp2_with fail;go_ret;exact⟨aH (by rw[ha.out]),rfl⟩
 ·have ha:=aa (Bz (l:=s.data.toList) (i:=i) (by rw[ab];omega));go_enter func96,ntmps96;go_wp2_with fail;go_ret;exact⟨aH (by rw[ha.out];rfl),rfl⟩
theorem zg (s:ByteArray) (w:World) (hs:s.size≤maxLen):
  Calls prog 75 #[.string s] w fun e w'=>e= .returned (.bool (dN s.data.toList))∧w=w':=by
 unfold maxLen at hs;have h0:vG false s.data.toList 0=dN s.data.toList:=rfl;have H0:=aa h0;clear h0;go_enter func75,ntmps75;go_wp2_with fail;go_loop [3] (fun t=> ∃k:Nat,k≤s.size∧t= .int .i64 k∧Hid (vG false s.data.toList k=dN s.data.toList)) (fun t=>s.size-(intOf t).toNat)
 case atStart=>exact⟨0,dQ _,rfl,H0.out⟩
 case round=>
  obtain⟨k,hk,rfl,gV⟩:=hrel;clear H0;by_cases ax:k<s.size
  ·by_cases lS:k=0
   ·subst lS;cases hl:letter s[0]
    all_goals
     go_wp2_with (first|(go_at_call 93;refine(uM _ _).mono ?_;rintro e w' ⟨rfl,rfl⟩)|(go_at_call 95;refine(xW _ _).mono ?_;rintro e w' ⟨rfl,rfl⟩))
    ·go_ret;exact⟨ah (by rw[←gV.out,EU ax hl (by simp) (.inl rfl)]),rfl⟩
    ·go_round
     case rel=>exact⟨1,by omega,by go_num,(sR ax (.inl hl)).trans gV.out⟩
     case measure=>simp[intOf];omega
   ·have hkp:1≤k:=by omega
    have HK:=aa lS;clear lS;cases hl:letter s[k]<;>cases hd:digit s[k]
    all_goals
     go_wp2_with (first|(go_at_call 93;refine(uM _ _).mono ?_;rintro e w' ⟨rfl,rfl⟩)|(go_at_call 95;refine(xW _ _).mono ?_;rintro e w' ⟨rfl,rfl⟩))
    ·go_ret;exact⟨ah (by rw[←gV.out,EU ax hl (by simp) (.inr hd)]),rfl⟩
    ·go_round
     case rel=>exact⟨k+1,by omega,by go_num,(sR ax (.inr (.inr ⟨HK.out,hd⟩))).trans gV.out⟩
     case measure=>simp[intOf];omega
    ·go_round
     case rel=>exact⟨k+1,by omega,by go_num,(sR ax (.inl hl)).trans gV.out⟩
     case measure=>simp[intOf];omega
    ·go_round
     case rel=>exact⟨k+1,by omega,by go_num,(sR ax (.inl hl)).trans gV.out⟩
     case measure=>simp[intOf];omega
  ·go_wp2_with fail;go_ret;exact⟨ah (by rw[←gV.out,Um (by rw[ab];omega),nS];first|done|(cases s.data.toList<;>rfl)),rfl⟩
theorem EW (s:ByteArray) (w:World) (hs:s.size≤maxLen) (vq:s.size≤281474976710656):
  Calls prog 100 #[.string s] w fun e w'=>e= .returned (.string ⟨(s.data.toList.map low).toArray⟩)∧Below w.heap.size w w':=by
 have Wk:=hs;unfold maxLen at Wk;obtain⟨i0,tE,lB,cK,ep⟩:=kR BN;go_enter func100,ntmps100;go_wp2_with (at_make;refine wpList_make_own _ rfl (.const (.int .i64 0)) (.tmp 7) 147 rfl w.heap.size 5 i0 (.int .u8 0) 1 underlying147 tE lB cK _ _ _ s.size rfl rfl rfl (by rw[ep];omega) hs (aS _) ?_);intro w1 mE hgr1;have tT:Below w.heap.size w w1:=(aV _ _).grown hgr1 (aS _) (by simp);have aew:w.heap.size<w1.heap.size:=(mE.lt w.heap.size rfl).2;go_wp2_with fail;go_loopw [3,4] (fun v i wr=> ∃k:Nat,k≤s.size∧i= .int .i64 k∧v= .slice (some ⟨w.heap.size,0,none⟩) k s.size∧wr.ownsRow w.heap.size 5 1 (.slice (some ⟨w.heap.size,0,none⟩) k s.size) k (cellsOf (rK s.data.toList k))∧Below w.heap.size w wr∧w.heap.size<wr.heap.size) (fun _ i _=>s.size-(intOf i).toNat)
 case atStart=>exact⟨0,dQ _,rfl,rfl,mE,tT,aew⟩
 case round=>
  obtain⟨k,hk,rfl,rfl,aL,bQ,iE⟩:=hrel;clear mE hgr1 tT aew;by_cases ax:k<s.size
  ·have qY:k<s.data.toList.length:=by rw[ab];exact ax
   have htk:cellsOf (rK s.data.toList (k+1))=cellsOf (rK s.data.toList k)++[.int .u8 ((low s[k]).toNat:Int)]:=by
    rw[Kj _ _ qY,gl,fX];rfl
   have HT:=aa htk;clear htk;by_cases Sd:65≤s[k].toNat∧s[k].toNat≤90
   ·have HU:=aa (TR _ Sd);obtain⟨Se,Ls⟩:=Sd;go_wp2_with (at_builtin;refine o7 rfl (.tmp 26) (.tmp 28) 147 rfl w.heap.size 5 (.int .u8 0) 1 1 BN underlying147 w.heap.size k s.size _ rfl aL [.int .u8 ((s[k].toNat:Int)+32)] rfl rfl (zZ rfl) (by omega) ?_);intro w2 kV pD;have HO:=aa kV;have HB:=aa (bQ.grown pD (ju iE) (by intro g hg;cases hg;exact aS _));have aaP:=gU iE pD.size;clear kV pD aL bQ;go_wp2_with fail;go_roundw
    case rel=>exact⟨k+1,by omega,by go_num,rfl,by rw[HT.out,HU.out];exact HO.out,HB.out,aaP⟩
    case measure=>simp[intOf];omega
   ·have HU:=aa (TS _ Sd);rcases(show s[k].toNat<65∨(65≤s[k].toNat∧90<s[k].toNat)from by omega)with hu|⟨Se,Ls⟩
    all_goals
     go_wp2_with (at_builtin;refine o7 rfl (.tmp 26) (.tmp 28) 147 rfl w.heap.size 5 (.int .u8 0) 1 1 BN underlying147 w.heap.size k s.size _ rfl aL [.int .u8 (s[k].toNat:Int)] rfl rfl (zZ rfl) (by omega) ?_);intro w2 kV pD;have HO:=aa kV;have HB:=aa (bQ.grown pD (ju iE) (by intro g hg;cases hg;exact aS _));have aaP:=gU iE pD.size;clear kV pD aL bQ;go_wp2_with fail;go_roundw
     case rel=>exact⟨k+1,by omega,by go_num,rfl,by rw[HT.out,HU.out];exact HO.out,HB.out,aaP⟩
     case measure=>simp[intOf];omega
  ·have uv:rK s.data.toList k=s.data.toList.map low:=by rw[rK,A3 (by rw[ab];omega)]
   have hlk:k=(s.data.toList.map low).length:=by rw[jW,ab];omega
   rw[uv]at aL;have Jd:=oh (P:=prog) (sw aL) 147 9 5 k s.size hlk underlying147 underlying5 underlying9;have HB:=aa bQ;clear uv hlk aL bQ;go_wp2_with fail;go_ret;exact⟨rfl,HB.out⟩
theorem Up (s:ByteArray) (w:World) (hs:s.size≤maxLen):
  Calls prog 74 #[.string s] w fun e w'=>e= .returned (.tuple #[.string (ky s.data.toList),.bool (word s.data.toList)])∧Below w.heap.size w w':=by
 have Wk:=hs;unfold maxLen at Wk;by_cases h12:20<s.size
 ·have hw:word s.data.toList=false:=ET (by rw[ab];omega);have xu:ky s.data.toList=⟨#[]⟩:=by simp[ky,hw]
  rw[hw,xu];clear hw xu;go_enter func74,ntmps74;go_wp2_with fail;go_ret2;exact⟨rfl,aV _ _⟩
 ·have hwo:ky s.data.toList=(if xF (s.data.toList.map low)then⟨(s.data.toList.map low).toArray⟩else⟨#[]⟩):=rfl;have hw:word s.data.toList=xF (s.data.toList.map low):=rfl;go_enter func74,ntmps74;have HO:=aa hwo;have HW:=aa hw;clear hwo hw;go_wp2_with fail;refine(EW s _ hs (by omega)).mono ?_;rintro e w1 ⟨rfl,hb⟩;generalize s.data.toList.map low=L at HO HW ⊢
  have HB:=aa hb;clear hb;cases hk:xF L
  ·have bZ: ∀k,k∈Wj→(L==k)=false:=by
    intro k PF;cases hb:L==k
    ·rfl
    ·have:L=k:=by simpa using hb
     subst this;simp[xF]at hk;exact absurd PF hk
   simp only[Wj,gB,kM,iP,yO,forall_eq]at bZ;obtain⟨h1,h2,h3,h4,h5,h6,h7,h8,h9,Ia,h11,h12,h13,h14,h15,Γ,h17,h18,h19,h20,h21,h22,h23⟩:=bZ;have HK:=aa hk;clear hk;go_wp2_with fail;go_ret2;exact⟨Gm (by rw[HO.out,HK.out];rfl) (by rw[HW.out,HK.out]),HB.out⟩
  ·have hm:L∈Wj:=by simpa [xF]using hk
   simp only[Wj,gB,kM,iP]at hm;have HK:=aa hk;clear hk;rcases hm with rfl|rfl|rfl|rfl|rfl|rfl|rfl|rfl|rfl|rfl|rfl|rfl|rfl|rfl|rfl|rfl|rfl|rfl|rfl|rfl|rfl|rfl|rfl
   all_goals
    go_wp2_with fail;go_ret2;exact⟨Gm (by rw[HO.out,HK.out];rfl) (by rw[HW.out,HK.out]),HB.out⟩
def A4 (b:Bool) (k:Int):Int:=if b=true then k else 0
theorem X3 (w:World) (b:Bool) (k:Int):Calls prog 71 #[.bool b,.int .i64 k] w fun e w'=>e= .returned (.int .i64 (A4 b k))∧w=w':=by
 cases b
 all_goals
  go_enter func71,ntmps71;go_wp2_with fail;go_ret;exact⟨rfl,rfl⟩
theorem jN (PG:o.guard=none) (ty:TypeId) (x:Operand) (ho:o.op= .box ty x)
  (cs:Array Value) (hx:a.eval x= .agg cs) (hc: ∀u∈cs.toList,u.oneCell'=true)
  (h: ∀W,aK W w.heap.size ty cs→Below w.heap.size w W→W.heap.size=w.heap.size+1→wpList P ops Q rest (a.put o.dst (.pointer (some ⟨w.heap.size,0,none⟩))) W):wpList P ops Q (o::rest) a w:=by
 refine wpList_plain PG fun K hK=>?_
 have hn:=h (w.alloc (.cells cs ty)) (aK.new w ty cs) ((aV _ w).alloc (aS _) _) (by simp);unfold Oper.wp execOp;simp only[ho,hx,rB,tR,vQ];simp[go_sem,Value.cells];exact hK _ _ hn
