import Derived.Test.YtcdoilkjmjbgmaaGreatDoorW00
import Derived.WalkKit
import Derived.WalkSpells
import Derived.WalkLawsBesides
import Derived.Lib.Hide
import Derived.Test.YtcdoilkjmjbgmaaGreatDoorProg
import Derived.Laws.Rows
/- Part of the proof of YtcdoilkjmjbgmaaGreatDoorCardX: Mem PlA LexA LexB TrP Blk TrC RefA TvD TsBx. -/
set_option maxRecDepth 100000
set_option maxHeartbeats 4000000
set_option linter.unusedVariables false
set_option linter.unusedSimpArgs false
namespace Go.Proofs.YtcdoilkjmjbgmaaGreatDoor
open Go.RowKit
open Go.Proofs.Tryz
variable {a:Act} {b g B g' base size n cap p i k b':Nat} {w w' w0 ZJ W:World} {l:List UInt8} {P:Program} {ops:Array Oper} {rest:List Oper} {o:Oper} {Q:Exit→Act→World→Prop} {t' e t ty:TypeId} {cs' cs A:Array Value} {v u m:Value} {xs:List Value} {s:ByteArray} {col:Bool} {c:UInt8} {ss:List ByteArray}
theorem ah {a b:Bool} (h:a=b):Ending.returned (.bool a)= .returned (.bool b):=by rw[h]
theorem aE {k:IntKind} {a b:Int} (h:a=b):Ending.returned (.int k a)= .returned (.int k b):=by rw[h]
theorem Yo {a b:ByteArray} (h:a=b):Ending.returned (.string a)= .returned (.string b):=by rw[h]
theorem gl (s:ByteArray) (k:Nat) (h:k<s.data.toList.length):s.data.toList[k]=s[k]'(by simpa using h):=by simp[ByteArray.getElem_eq_getElem_data]
theorem ab (s:ByteArray):s.data.toList.length=s.size:=by simp
theorem mk_data (s:ByteArray):(⟨s.data.toList.toArray⟩:ByteArray)=s:=by cases s;simp
def eu (w:World) (g:Nat) (l:List UInt8):Prop:=
 ∀j (hj:j<l.length),w.cell? ⟨g,j,none⟩=some (.int .u8 (l[j].toNat:Int))∧w.frozen? ⟨g,j,none⟩=false
theorem eu.cell {w:World} {g:Nat} {l:List UInt8} (h:eu w g l) {j:Nat} (hj:j<l.length):w.cell? ⟨g,j,none⟩=some (.int .u8 (l[j].toNat:Int)):=(h j hj).1
theorem eu.free (h:eu w g l) {j:Nat} (hj:j<l.length):w.frozen? ⟨g,j,none⟩=false:=(h j hj).2
theorem eu.below (h:eu w g l) (hb:Below B w w') (hg:g<B):eu w' g l:=
 fun j hj=>⟨(hb.cell (p:=⟨g,j,none⟩) hg).trans (h j hj).1,(hb.frozen (p:=⟨g,j,none⟩) hg).trans (h j hj).2⟩
theorem eu.drew {w:World} {g:Nat} {l:List UInt8} (h:eu w g l):eu w.drew g l:=h
theorem eu.dw (h:eu w g l) {k:Nat} (hk:k<l.length) (c:UInt8):eu (w.setCell ⟨g,k,none⟩ (.int .u8 (c.toNat:Int))) g (l.set k c):=by
 intro j hj;refine⟨?_,(World.frozen?_setCell _ _ _ _).trans (h j (by simpa using hj)).2⟩;by_cases e:j=k
 ·subst e;rw[El _ _ _ (h j (by simpa using hj)).1];simp
 ·rw[mX _ _ _ _ (by simp),(h j (by simpa using hj)).1];rw[List.getElem_set_ne (Ne.symm e)]
theorem jI 
  (hg:o.guard=none) (x:Operand) (src dst e:TypeId) (Dl:o.op=Op.convert src dst x) (s:ByteArray) (hx:a.eval x= .string s)
  (hs:P.underlying src=some .string) (hd:P.underlying dst=some (.slice e)) (he:P.underlying e=some (.int .u8))
  (hK: ∀cap w',s.size≤cap→eu w' w.heap.size s.data.toList→Below w.heap.size w w'→w.heap.size<w'.heap.size→wpList P ops Q rest (a.put o.dst (.slice (some ⟨w.heap.size,0,none⟩) s.size cap)) w'):
  wpList P ops Q (o::rest) a w:=by
 refine wpList_plain hg fun K hK'=>?_
 have abj:=run_bytes_of_string (P:=P) w src dst e s hs hd he;unfold Oper.wp;simp only[execOp,Dl,hx,vA,abj,A7,Bf];refine hK' _ _ (hK _ _ (grownCap_ge w s.size 0 e) ?_ ((aS _ _).drew.alloc (aP _) _) (by simp));intro j hj;have Pw:j<s.data.size:=by simpa using hj
 refine⟨?_,?_⟩
 ·rw[show w.heap.size=w.drew.heap.size from rfl,World.cell?_alloc_mark,bytesRow_at s _ j Pw];simp
 ·rw[show w.heap.size=w.drew.heap.size from rfl,World.frozen?_alloc_mark];have h2:s.data.size=s.size:=rfl;have:j<(bytesRow s (grownCap w s.size 0 e)).size:=by simp[bytesRow];omega
  simp;omega
theorem ku (h:eu w g l) (src dst e:TypeId) (n cap:Nat) (hn:n=l.length) (hs:P.underlying src=some (.slice e)) (he:P.underlying e=some (.int .u8)) (hd:P.underlying dst=some .string):
  (convert src dst (.slice (some ⟨g,0,none⟩) n cap)).run P w= .ok (.string ⟨l.toArray⟩) w:=by
 subst hn;refine run_convert_bytes_back w src dst e _ cap l hs he hd fun j hj=>?_
 rw[mB,mw];exact(h j hj).1
def aH (w:World) (g:Nat) (t:TypeId) (cs:Array Value):Prop:=w.heap[g]? =some (.cells cs t (0,0))
section
variable {w w':World} {g:Nat} {t:TypeId} {cs:Array Value}
theorem aH.lt (h:aH w g t cs):g<w.heap.size:=by
 rcases dD g w.heap.size with au|lW
 ·exact au
 ·unfold aH at h;rw[vq lW]at h;cases h
theorem aH.cell (h:aH w g t cs) (i:Nat):w.cell? ⟨g,i,none⟩=cs[i]? :=cell_of_row w g i cs t (0,0) h
theorem aH.frozen (h:aH w g t cs) (i:Nat):w.frozen? ⟨g,i,none⟩=false:=by
 unfold aH at h;simp[World.frozen?,h]
theorem aH.new (w:World) (t:TypeId) (cs:Array Value):aH (w.alloc (.cells cs t)) w.heap.size t cs:=heap_alloc_new w _
theorem aH.drew (h:aH w g t cs):aH w.drew g t cs:=h
theorem aH.drewN (h:aH w g t cs) (n:Nat):aH (w.drewN n) g t cs:=h
theorem aH.alloc (h:aH w g t cs) (o:Obj):aH (w.alloc o) g t cs:=(Below.heap_alloc w o g h.lt).trans h
theorem aH.dw (h:aH w g t cs) (i:Nat) (u:Value):aH (w.setCell ⟨g,i,none⟩ u) g t (cs.setIfInBounds i u):=by
 unfold aH at h ⊢
 simp[World.setCell,Array.getElem?_modify,h]
theorem aH.Dm (h:aH w g t cs) {p:Addr} (hp:g≠p.block) (u:Value):aH (w.setCell p u) g t cs:=(vr w p u g hp).trans h
theorem aH.below (h:aH w g t cs) (hb:Below B w w') (hg:g<B):aH w' g t cs:=(hb.block g hg).trans h
theorem aH.grown {row:Option Nat} (h:aH w g t cs) (hb:w.grownBy w' row) (hg:some g≠row):aH w' g t cs:=(hb.block g h.lt hg).trans h
theorem aH.ne_ (h:aH w g t cs) (h':aH w g' t' cs') (bC:t≠t'):g≠g':=by
 rintro rfl;unfold aH at h h';rw[h]at h';injection h' with h'
 injection h' with _ ht
 exact bC ht
theorem dL (h:w.ownsRow base e size v n xs) (hg:aH w g t cs) (bC:e≠t):v.ownBlock≠some g:=by
 rcases h.2 with⟨rfl,_⟩|⟨g',cap,cur,rfl,_,hh,_⟩
 ·simp[Value.ownBlock]
 ·intro he;have:g'=g:=by simpa [Value.ownBlock]using he
  subst this;exact aH.ne_ (t:=e) hh hg bC rfl
end
theorem dh {row:Option Nat} (h:w0.grownBy w row) (h':w.grownBy w' row):w0.grownBy w' row:=
 ⟨h'.os.trans h.os,h'.tape.trans h.tape,h'.output.trans h.output,bn h.size h'.size,fun k hk bC=>(h'.block k (gO hk h.size) bC).trans (h.block k hk bC)⟩
theorem iq 
  (hg:o.guard=none) (s x:Operand) (t:TypeId) (Dl:o.op=Op.call {callee:=Callee.builtin Builtin.append,args:=#[s,x],argTypes:=#[t,t]})
  (base:Nat) (e:TypeId) (z:Value) (size bytes:Nat) (oL:(P.info? e).map (fun i=>(i.zero,i.size,i.bytes))=some (some z,size,bytes)) (h1:P.underlying t=some (.slice e)) (Py:z.cells.size=size) (jf:0<size)
  (v:Value) (n:Nat) (xs:List Value) (hs:a.eval s=v) (aL:w0.ownsRow base e size v n xs) (us:List Value) (hus:us.length=size)
  (hx:a.eval x= .slice (some ⟨w0.heap.size,0,none⟩) 1 1) (Xf: ∀u∈us,u.oneCell'=true) (xn:n+1≤maxLen) (hb:(n+1)*bytes≤140737488355328) (cU:base≤w0.heap.size)
  (hK: ∀v' w',w'.ownsRow base e size v' (n+1) (xs++us)→w0.grownBy w' v.ownBlock→wpList P ops Q rest (a.put o.dst v') w'):
  wpList P ops Q (o::rest) a (w0.alloc (.cells us.toArray e)):=by
 obtain⟨i,hi,hz,Sz,NV⟩:=mC oL;refine wpList_append_own _ hg s x t Dl base e i z size bytes h1 hi hz Sz NV Py jf v n xs hs (aL.alloc _) ⟨w0.heap.size,0,none⟩ 1 1 us hx (by omega) ?_ Xf xn hb (by simp;omega) ?_
 ·intro j u hu;have hj:j<us.length:=(FX.1 hu).1;rw[mB,mw,zS _ _ _ _ rfl];simpa using hu
 ·intro v' w' ho iu _;exact hK v' w' ho (dh (Er w0 _ _) iu)
theorem py 
  (hg:o.guard=none) (s x:Operand) (t:TypeId) (Dl:o.op=Op.call {callee:=Callee.builtin Builtin.append,args:=#[s,x],argTypes:=#[t,t]})
  (base:Nat) (e:TypeId) (z:Value) (size bytes:Nat) (oL:(P.info? e).map (fun i=>(i.zero,i.size,i.bytes))=some (some z,size,bytes)) (h1:P.underlying t=some (.slice e))
  (g k cap:Nat) (xs:List Value) (hs:a.eval s= .slice (some ⟨g,0,none⟩) k cap) (aL:w0.ownsRow base e size (.slice (some ⟨g,0,none⟩) k cap) k xs) (us:List Value) (hus:us.length=size)
  (hx:a.eval x= .slice (some ⟨w0.heap.size,0,none⟩) 1 1) (Xf: ∀u∈us,u.oneCell'=true) (hk:k+1≤cap)
  (hK: ∀w',w'.ownsRow base e size (.slice (some ⟨g,0,none⟩) (k+1) cap) (k+1) (xs++us)→w0.grownBy w' (some g)→wpList P ops Q rest (a.put o.dst (.slice (some ⟨g,0,none⟩) (k+1) cap)) w'):
  wpList P ops Q (o::rest) a (w0.alloc (.cells us.toArray e)):=by
 obtain⟨i,hi,hz,Sz,NV⟩:=mC oL;refine wpList_append_fits _ hg s x t Dl base e i size h1 hi Sz g k cap xs hs (aL.alloc _) ⟨w0.heap.size,0,none⟩ 1 1 us hx (by omega) ?_ Xf hk ?_
 ·intro j u hu;have hj:j<us.length:=(FX.1 hu).1;rw[mB,mw,zS _ _ _ _ rfl];simpa using hu
 ·intro w' ho iu;exact hK w' ho (dh (Er w0 _ _) iu)
theorem zU (h:u.oneCell'=true): ∀x∈[u],x.oneCell'=true:=by intro x hx;simp at hx;subst hx;exact h
def cellsOf (l:List UInt8):List Value:=l.map fun c=>.int .u8 (c.toNat:Int)
theorem fM (l m:List UInt8):cellsOf (l++m)=cellsOf l++cellsOf m:=by simp[cellsOf]
theorem sb (h:w.ownsRow base e 1 (.slice (some ⟨g,0,none⟩) n cap) n (cellsOf l)):eu w g l:=by
 have hn:l.length=n:=by have:=h.1;simpa [cellsOf]using this
 intro j hj;refine⟨?_,h.frozenAt j⟩;rw[h.cellAt j (by omega)];simp[cellsOf,hj]
theorem eB (h:Below w.heap.size w w') (row:Option Nat):w.grownBy w' row:=⟨h.os,h.tape,h.output,h.size,fun i hi _=>h.block i hi⟩
theorem aF (h:w.ownsRow base e size v n xs) (hp:aH w p t cs) (bC:e≠t) (u:Value):(w.setCell ⟨p,i,none⟩ u).ownsRow base e size v n xs:=by
 refine⟨h.1,?_⟩;rcases h.2 with hn|⟨g,cap,cur,rfl,h1,h2,h3,h4,h5,h6⟩
 ·exact .inl hn
 ·refine .inr ⟨g,cap,cur,rfl,h1,?_,h3,h4,h5,h6⟩;have XX:g≠p:=aH.ne_ (t:=e) h2 hp bC;exact(vr w ⟨p,i,none⟩ u g XX).trans h2
theorem aD (h:w.ownsRow base e size v k xs) (hb:Below w.heap.size w w'):w'.ownsRow base e size v k xs:=
 h.kept (eB hb none) (by cases v.ownBlock<;>simp)
theorem bW (h:w.ownsRow b e size v n xs) (hb:b'≤b):w.ownsRow b' e size v n xs:=by
 refine⟨h.1,?_⟩;rcases h.2 with hn|⟨g,cap,cur,rfl,h1,h2⟩
 ·exact .inl hn
 ·exact .inr ⟨g,cap,cur,rfl,bn hb h1,h2⟩
theorem Below.le (h:Below B w w'):w.heap.size≤w'.heap.size:=h.size
def letter (c:UInt8):Bool:=(97≤c.toNat&&c.toNat≤122)||(65≤c.toNat&&c.toNat≤90)||c.toNat==95
def digit (c:UInt8):Bool:=48≤c.toNat&&c.toNat≤57
def bg (abW:Bool) (c:UInt8):Bool:=letter c||digit c||(abW&&c.toNat==58)
def low (c:UInt8):UInt8:=if 65≤c.toNat∧c.toNat≤90 then c+32 else c
def kK (l:List UInt8) (k:Nat):List UInt8:=(l.take k).map low++l.drop k
theorem Mq (l:List UInt8):kK l 0=l:=by simp[kK]
theorem Qk (l:List UInt8) {k:Nat} (h:l.length≤k):kK l k=l.map low:=by
 simp[kK,DC h,s9 h]
theorem EL (l:List UInt8) (k:Nat):(kK l k).length=l.length:=by simp[kK];omega
theorem I7 (l:List UInt8) (k:Nat) (h:k<l.length):(kK l k)[k]'(by rw[EL];exact h)=l[k]:=by
 simp only[kK];rw[List.getElem_append_right (by simp;omega)];simp[mr (jt h)]
theorem B3 (l:List UInt8) (k:Nat) (h:k<l.length):kK l (k+1)=(kK l k).set k (low l[k]):=by
 have h0:k-((l.take k).map low).length=0:=by simp;omega
 have h1:(l.drop k).set 0 (low l[k])=low l[k]::l.drop (k+1):=by rw[nV h];rfl
 unfold kK;rw[Om _ _ (by simp;omega),h0,h1,jM h,mZ,lj];rfl
theorem Mr (l:List UInt8) (k:Nat) (h:k<l.length) (hl:low l[k]=l[k]):kK l (k+1)=kK l k:=by
 rw[B3 l k h,hl]
 conv=>lhs;rw[←I7 l k h]
 exact List.set_getElem_self _
theorem TY (c:UInt8) (h:65≤c.toNat∧c.toNat≤90):((low c).toNat:Int)=(c.toNat:Int)+32:=by
 rw[low,ar h,UInt8.toNat_add];simp;omega
theorem TZ (c:UInt8) (h: ¬(65≤c.toNat∧c.toNat≤90)):low c=c:=by rw[low,af h]
def ae (p:UInt8→Bool) (l:List UInt8) (i:Nat):Nat:=i+((l.drop i).takeWhile p).length
theorem iD {p:UInt8→Bool} (h:i<l.length) (hp:p l[i]=true):ae p l (i+1)=ae p l i:=by
 unfold ae;rw[nV h,rf,ar hp];simp;omega
theorem wK {p:UInt8→Bool} (h:i<l.length) (hp:p l[i]=false):ae p l i=i:=by
 unfold ae;rw[nV h,rf,af (by simp[hp])];simp
theorem bO {p:UInt8→Bool} (h:l.length≤i):ae p l i=i:=by
 unfold ae;rw[s9 h];simp
theorem gB {p:UInt8→Bool} (h:k<s.size) (hp:p s[k]=true):ae p s.data.toList (k+1)=ae p s.data.toList k:=
 iD (by simpa using h) (by rw[gl];exact hp)
theorem gC {p:UInt8→Bool} (h:k<s.size) (hp:p s[k]=false):ae p s.data.toList k=k:=
 wK (by simpa using h) (by rw[gl];exact hp)
theorem aV (p:UInt8→Bool) (l:List UInt8) (i:Nat):i≤ae p l i:=by unfold ae;omega
theorem bI (p:UInt8→Bool) (l:List UInt8) (i:Nat) (h:i≤l.length):ae p l i≤l.length:=by
 unfold ae;have:=(List.takeWhile_prefix p (l:=l.drop i)).length_le;simp at this;omega
def rE (l:List UInt8) (k:Nat):List UInt8:=(l.take k).map low
theorem J0 (l:List UInt8) (k:Nat) (h:k<l.length):rE l (k+1)=rE l k++[low l[k]]:=by
 rw[rE,jM h,mZ];rfl
def Wx:List (List UInt8):=[[97,110,100],[98,111,111,108],[98,121],[103,114,111,117,112,95,108,101,102,116],[103,114,111,117,112,95,114,105,103,104,116],[105,103,110,111,114,105,110,103],[111,102,102,115,101,116],[111,110],[111,114],[117,110,108,101,115,115],[119,105,116,104,111,117,116],[97,118,103],[98,111,116,116,111,109,107],[99,111,117,110,116],[99,111,117,110,116,95,118,97,108,117,101,115],[103,114,111,117,112],[109,97,120],[109,105,110],[113,117,97,110,116,105,108,101],[115,116,100,100,101,118],[115,116,100,118,97,114],[115,117,109],[116,111,112,107]]
def xp (l:List UInt8):Bool:=Wx.contains l
theorem Us (h:xp l=true):l.length≤12:=by
 have fF: ∀k∈Wx,k.length≤12:=by decide
 exact fF l (by simpa [xp]using h)
def word (l:List UInt8):Bool:=xp (l.map low)
theorem EM (h:12<l.length):word l=false:=by
 cases hw:word l
 ·rfl
 ·have:=Us hw;simp at this;omega
def dO (l:List UInt8):Bool:=match l with|[]=>false|c::r=>letter c&&(c::r).all (bg false)
def By (l:List UInt8):Bool:=match l with|[]=>false|c::r=> !digit c&&(c::r).all (bg true)
theorem nS (p:UInt8→Bool): ∀l:List UInt8,((l.takeWhile p).length==l.length)=l.all p
 |[]=>rfl
 |c::r=>by
  have ih:=nS p r;cases hp:p c
  ·simp[hp]
  ·simpa [rf,hp]using ih
theorem J1 (p:UInt8→Bool) (l:List UInt8):(ae p l 0==l.length)=l.all p:=by
 rw[←nS];simp[ae]
def vc (col:Bool) (l:List UInt8) (k:Nat):Bool:=if k=0 then(if col then By l else dO l)else(l.drop k).all (bg col)
theorem tL (h:letter c=true):bg col c=true:=by simp[bg,h]
theorem GM (h:digit c=true):bg col c=true:=by simp[bg,h]
theorem GN (h:letter c=true):digit c=false:=by
 simp[letter,digit]at*;omega
theorem Ut (h:k=l.length):vc col l k= !l.isEmpty:=by
 cases l with
 |nil=>subst h;cases col<;>rfl
 |cons c r=>
  have:k≠0:=by simp at h;omega
  rw[vc,af this,s9 (by omega)];rfl
theorem Uu (col:Bool) (c:UInt8) (r:List UInt8):vc col (c::r) 1=r.all (bg col):=by simp[vc]
theorem sC (h:k<s.size) (hc:letter s[k]=true∨(col=true∧s[k].toNat=58)∨(k≠0∧digit s[k]=true)):vc col s.data.toList (k+1)=vc col s.data.toList k:=by
 have hk:k<s.data.toList.length:=by rw[ab];exact h
 have hg:s.data.toList[k]=s[k]:=gl s k hk;have hn:bg col s[k]=true:=by
  rcases hc with h|⟨h1,h2⟩|⟨_,h⟩
  ·exact tL h
  ·simp[bg,h1,h2]
  ·exact GM h
 by_cases h0:k=0
 ·subst h0;cases hl:s.data.toList with
  |nil=>rw[hl]at hk;simp at hk
  |cons c r=>
   have aZ:c=s[0]:=by rw[←hg];simp[hl]
   rw[Uu,vc,ar rfl];rw[←aZ]at hn hc;cases col
   ·have au:letter c=true:=by rcases hc with h|⟨h,_⟩|⟨h,_⟩<;>simp_all
    simp[dO,au,hn]
   ·have hd:digit c=false:=by
     rcases hc with h|⟨_,h⟩|⟨h,_⟩
     ·exact GN h
     ·simp[digit,h]
     ·simp at h
    simp[By,hd,hn]
 ·rw[vc,vc,af (by omega),af h0,nV hk,hg,List.all_cons,hn,mA]
theorem EN (h:k<s.size) (hl:letter s[k]=false) (hc:col=true→s[k].toNat≠58) (hd:k=0∨digit s[k]=false):vc col s.data.toList k=false:=by
 have hk:k<s.data.toList.length:=by rw[ab];exact h
 have hg:s.data.toList[k]=s[k]:=gl s k hk;by_cases h0:k=0
 ·subst h0;cases mj:s.data.toList with
  |nil=>rw[mj]at hk;simp at hk
  |cons c r=>
   have aZ:c=s[0]:=by rw[←hg];simp[mj]
   rw[vc,ar rfl];rw[←aZ]at hl hc;cases col
   ·simp[dO,hl]
   ·have:=hc rfl;cases hd:digit c<;>simp[By,bg,hl,hd,this]
 ·rw[vc,af h0,nV hk,hg,List.all_cons];have hd':digit s[k]=false:=hd.resolve_left h0;have:bg col s[k]=false:=by
   cases col
   ·simp[bg,hl,hd']
   ·simp[bg,hl,hd',hc rfl]
  rw[this,rr]
def an (l:List UInt8) (i:Nat):UInt8:=l.getD i 0
theorem aq (h:i<s.size):an s.data.toList i=s[i]:=by
 have hk:i<s.data.toList.length:=by rw[ab];exact h
 rw[←gl s i hk,an,lf,lB hk];rfl
theorem Bs (h:l.length≤i):an l i=0:=by
 rw[an,lf,En h];rfl
theorem cg (c:UInt8) (w:World):
  Calls prog 135 #[.int .u8 (c.toNat:Int)] w fun e w'=>e= .returned (.bool (digit c))∧w=w':=by
 go_enter func135,ntmps135;go_wp2
 all_goals (go_ret;exact⟨ah (by rw[eE];simp[digit];omega),rfl⟩)
theorem bq (c:UInt8) (w:World):
  Calls prog 118 #[.int .u8 (c.toNat:Int)] w fun e w'=>e= .returned (.bool (letter c))∧w=w':=by
 go_enter func118,ntmps118;go_wp2
 all_goals (go_ret;exact⟨ah (by rw[eE];simp[letter];omega),rfl⟩)
theorem rV (s : ByteArray) (i : Nat) (col : Bool) (w : World) (hs : s.size ≤ maxLen) (hi : i ≤ maxLen) :
    Calls prog 119 #[.string s,.int .i64 (i:Int),.bool col] w fun e w'=>e= .returned (.int .i64 (ae (bg col) s.data.toList i:Nat))∧w=w':=by
  unfold maxLen at hs hi
  go_enter func119,ntmps119
  go_wp2_with fail
  go_loop [1] (fun t=> ∃k:Nat,k≤9223372036854775807∧t= .int .i64 k∧Hid (ae (bg col) s.data.toList k=ae (bg col) s.data.toList i)) (fun t=>s.size-(intOf t).toNat)
  case atStart=>exact⟨i,hi,rfl,rfl⟩
  case round =>
    obtain⟨k,hk,rfl,gJ⟩:=hrel
    by_cases au:k<s.size
    · cases hl : letter s[k] <;> cases hd : digit s[k] <;> cases col
      all_goals
        go_wp2_with (first|(go_at_call 118;refine(bq _ _).mono ?_;rintro e w' ⟨rfl,rfl⟩)|(go_at_call 135;refine(cg _ _).mono ?_;rintro e w' ⟨rfl,rfl⟩))
      all_goals first
        | (go_ret; exact ⟨aE (by rw [← gJ.out, gC au (by simp [bg, *]; try (rename_i h; simp at h; omega))]), rfl⟩)
        | (go_round
           case rel=>exact⟨k+1,by omega,by go_num,(gB au (by simp[bg, *];try(rename_i h;simp at h;omega))).trans gJ⟩
           case measure=>simp[intOf];omega)
    · go_wp2_with fail
      go_ret
      exact⟨aE (by rw[←gJ.out,bO (by simpa using au)]),rfl⟩
theorem EO (s:ByteArray) (w:World) (hs:s.size≤maxLen):
  Calls prog 117 #[.string s] w fun e w'=>e= .returned (.string ⟨(s.data.toList.map low).toArray⟩)∧Below w.heap.size w w':=by
 unfold maxLen at hs;go_enter func117,ntmps117;go_wp2_with (with_reducible refine jI rfl (.tmp 6) 9 147 5 rfl s rfl underlying9 underlying147 underlying5 ?_);intro cap w1 uu aU tG afl;go_wp2_with fail;go_loopw [10] (fun i wr=> ∃k:Nat,k≤s.size∧i= .int .i64 k∧eu wr w.heap.size (kK s.data.toList k)∧Below w.heap.size w wr∧w.heap.size<wr.heap.size) (fun i _=>s.size-(intOf i).toNat)
 case atStart=>exact⟨0,aT _,rfl,by rw[Mq];exact aU,tG,afl⟩
 case round=>
  obtain⟨k,hk,rfl,hb,bN,jf⟩:=hrel;by_cases au:k<s.size
  ·have nU:k<s.data.toList.length:=by rw[ab];exact au
   have abk:k<(kK s.data.toList k).length:=by rw[EL];exact nU
   have hc:wr.cell? ⟨w.heap.size,k,none⟩=some (.int .u8 (s[k].toNat:Int)):=by
    rw[hb.cell abk,I7 _ _ nU,gl]
   have hf:wr.frozen? ⟨w.heap.size,k,none⟩=false:=hb.free abk;by_cases Sa:65≤s[k].toNat∧s[k].toNat≤90
   ·have Is:=hb.dw abk (low s[k]);rw[TY _ Sa]at Is;have Pz:eu (wr.setCell ⟨w.heap.size,k,none⟩ (.int .u8 ((s[k].toNat:Int)+32))) w.heap.size (kK s.data.toList (k+1)):=by
     rw[B3 _ _ nU,gl];exact Is
    have HN:=aa Pz;have HB:=aa bN;clear Is Pz hb aU bN tG;obtain⟨Sb,K9⟩:=Sa;go_wp2_with fail;go_roundw
    case rel=>exact⟨k+1,by omega,by go_num,HN,HB.setCell (aP _) _,by simpa using jf⟩
    case measure=>simp[intOf];omega
   ·have Pz:eu wr w.heap.size (kK s.data.toList (k+1)):=by
     rw[Mr _ _ nU (by rw[gl];exact TZ _ Sa)];exact hb
    have HN:=aa Pz;have HB:=aa bN;clear Pz hb aU bN tG;rcases(show s[k].toNat<65∨(65≤s[k].toNat∧90<s[k].toNat)from by omega)with hu|⟨Sb,K9⟩
    all_goals
     go_wp2_with fail;go_roundw
     case rel=>exact⟨k+1,by omega,by go_num,HN,HB,jf⟩
     case measure=>simp[intOf];omega
  ·have tX:k=s.size:=by omega
   have hlen:s.data.toList.length=s.size:=ab s;rw[Qk _ (by omega)]at hb;have IV:=ku (P:=prog) hb 147 9 5 s.size cap (by simp) underlying147 underlying5 underlying9;have HB:=aa bN;clear hlen tX hb bN;go_wp2_with fail;go_ret;exact⟨rfl,HB⟩
theorem Gb {t:ByteArray} {a b:Bool} (h:s=t) (h':a=b):Ending.returned (.tuple #[.string s,.bool a])= .returned (.tuple #[.string t,.bool b]):=by rw[h,h']
def km (l:List UInt8):ByteArray:=if word l then⟨(l.map low).toArray⟩else⟨#[]⟩
theorem Ab (w:World):Calls prog 105 #[.string ⟨#[]⟩] w fun e w'=>e= .returned (.bool false)∧w=w':=by
 go_enter func105,ntmps105;go_wp2_with fail;go_ret;exact⟨rfl,rfl⟩
theorem yR (s:ByteArray) (w:World) (hs:s.size≤maxLen):
  Calls prog 105 #[.string s] w fun e w'=>e= .returned (.bool (dO s.data.toList))∧w=w':=by
 cases hl:s.data.toList with
 |nil=>
  have:s=⟨#[]⟩:=by rw[←mk_data s,hl]
  subst this;exact Ab w
 |cons c r=>
  have jf:0<s.size:=by rw[←ab,hl];simp
  have hc:s[0]=c:=by rw[←gl s 0 (by rw[hl];simp)];simp[hl]
  have gJ:=J1 (bg false) s.data.toList;rw[ab]at gJ;have bC:(s.toList==[])=false:=by rw[nW,hl];rfl
  have kH:dO s.data.toList=(letter c&&s.data.toList.all (bg false)):=by rw[hl];rfl
  rw[←hl,kH,←gJ,←hc];have Wy:=hs;unfold maxLen at Wy;clear kH hc gJ hl;cases au:letter s[0]
  all_goals
   go_enter func105,ntmps105;go_wp2_with (first|(go_at_call 118;refine(bq _ _).mono ?_;rintro e w' ⟨rfl,rfl⟩)|(go_at_call 119;refine(rV s 0 false _ hs (by decide)).mono ?_;rintro e w' ⟨rfl,rfl⟩));go_ret;exact⟨ah (by rw[eE];simp;try omega),rfl⟩
theorem Uv (s:ByteArray) (w:World) (hs:s.size≤maxLen):
  Calls prog 103 #[.string s] w fun e w'=>e= .returned (.tuple #[.string (km s.data.toList),.bool (word s.data.toList)])∧Below w.heap.size w w':=by
 have Wy:=hs;unfold maxLen at Wy;by_cases ZK:12<s.size
 ·have hw:word s.data.toList=false:=EM (by rw[ab];exact ZK);have AJ:km s.data.toList=⟨#[]⟩:=by simp[km,hw]
  rw[hw,AJ];clear hw AJ;go_enter func103,ntmps103;go_wp2_with fail;go_ret2;exact⟨rfl,aS _ _⟩
 ·have hwo:km s.data.toList=(if xp (s.data.toList.map low)then⟨(s.data.toList.map low).toArray⟩else⟨#[]⟩):=rfl;have hw:word s.data.toList=xp (s.data.toList.map low):=rfl;go_enter func103,ntmps103;have HO:=aa hwo;have HW:=aa hw;clear hwo hw;go_wp2_with fail;refine(EO s _ hs).mono ?_;rintro e w1 ⟨rfl,hb⟩;generalize s.data.toList.map low=L at HO HW ⊢
  have HB:=aa hb;clear hb;cases hk:xp L
  ·have bC: ∀k,k∈Wx→(L==k)=false:=by
    intro k PA;cases hb:L==k
    ·rfl
    ·have:L=k:=by simpa using hb
     subst this;simp[xp]at hk;exact absurd PA hk
   simp only[Wx,gq,kE,iN,yB,forall_eq]at bC;obtain⟨h1,h2,h3,h4,h5,h6,h7,h8,h9,Dn,h11,ZK,h13,h14,h15,h16,h17,h18,h19,h20,h21,h22,h23⟩:=bC;have HK:=aa hk;clear hk;go_wp2_with fail;go_ret2;exact⟨Gb (by rw[HO.out,HK.out];rfl) (by rw[HW.out,HK.out]),HB.out⟩
  ·have hm:L∈Wx:=by simpa [xp]using hk
   simp only[Wx,gq,kE,iN]at hm;have HK:=aa hk;clear hk;rcases hm with rfl|rfl|rfl|rfl|rfl|rfl|rfl|rfl|rfl|rfl|rfl|rfl|rfl|rfl|rfl|rfl|rfl|rfl|rfl|rfl|rfl|rfl|rfl
   all_goals
    go_wp2_with fail;go_ret2;exact⟨Gb (by rw[HO.out,HK.out];rfl) (by rw[HW.out,HK.out]),HB.out⟩
structure PM where
 name:ByteArray
 op:Int
 value:ByteArray
structure PR where
 kind:Int
 kids:Int
 op:ByteArray
 text:ByteArray
 ms:List PM
 bQ:ByteArray
 step:ByteArray
 off:ByteArray
 tim:ByteArray
 bool:Bool
 given:Bool
 on:Bool
 mls:List ByteArray
 card:Int
 inc:List ByteArray
 without:Bool
 labels:List ByteArray
theorem wL (w:World) (g:Nat) (cs:Array Value):w.grownBy (w.setRow g cs) (some g):=by
 refine⟨by simp,by simp,by simp,by simp,fun k hk bC=>setRow_other w g k cs ?_⟩;rintro rfl;exact bC rfl
theorem dx (Sc:o.guard=none) (ty:TypeId) (x:Operand) (ho:o.op= .load ty x)
  (g:Nat) (hx:a.eval x= .pointer (some ⟨g,0,none⟩)) {t:TypeId} {cs:Array Value} {fs:Array Field} (hb:aH w g t cs)
  (hu:P.underlying ty=some (.struct fs)) (hi:(P.info? ty).map (·.size)=some cs.size)
  (h:wpList P ops Q rest (a.put o.dst (.agg cs)) w):wpList P ops Q (o::rest) a w:=
 wpList_load_row Sc ty x ho g hx t cs (0,0) _ hb hu rfl hi h
theorem ay (Sc:o.guard=none) (ty:TypeId) (x y:Operand) (ho:o.op= .store ty x y)
  (g:Nat) (cells:Array Value) (hx:a.eval x= .pointer (some ⟨g,0,none⟩)) (hy:a.eval y= .agg cells)
  {t:TypeId} {Xg:Array Value} (hb:aH w g t Xg) (hi:(P.info? ty).map (·.size)=some cells.size)
  (hold:Xg.size=cells.size) (h1:cells.toList.all (·.oneCell')=true)
  (h: ∀W,aH W g t cells→w.grownBy W (some g)→wpList P ops Q rest (a.put o.dst undef) W):wpList P ops Q (o::rest) a w:=
 wpList_store_row Sc ty x y ho g cells hx hy t Xg hb hi hold (by rw[←Array.all_toList];exact h1) (h _ (setRow_heap w g Xg cells t (0,0) hb) (wL w g cells))
theorem bf {fn:Func} {p:Tmp} (h:fn.results= #[.cell p ty]) {tmps:Array Value} {w:World} {g:Nat} {t:TypeId} {cs:Array Value} {fs:Array Field}
  (hp:tmps.getD p undef= .pointer (some ⟨g,0,none⟩)) (hb:aH w g t cs) (hu:P.underlying ty=some (.struct fs)) (hi:(P.info? ty).map (·.size)=some cs.size):
  (results fn tmps).run P w= .ok (.agg cs) w:=
 results_cell_row h tmps w g t cs (0,0) _ hp hb hu rfl hi
theorem ic (hb:Below B w w') (hg:w'.grownBy ZJ (some g)) (hB:B≤w'.heap.size) (hl:B≤g):Below B w ZJ:=
 hb.grown hg hB (fun k hk=>by injection hk with hk;omega)
theorem vV (h:w.ownsRow base e size v n xs) (hg:w.grownBy w' (some g)) (hb:aH w g t cs) (bC:e≠t):w'.ownsRow base e size v n xs:=
 h.kept hg (.inr (dL h hb bC))
def ko (w:World) (k:Int) (e:Ending) (w':World):Prop:=e= .returned (.int .i64 k)∧Below w.heap.size w w'
def aC (w:World) (b:Bool) (e:Ending) (w':World):Prop:=e= .returned (.bool b)∧Below w.heap.size w w'
def cL (b:Nat) (w:World) (v:Value) (ss:List ByteArray):Prop:=
 ∃ao c,v= .slice ao ss.length c∧ ∀j (h:j<ss.length),∃g o,ao=some ⟨g,o,none⟩∧b≤g∧g<w.heap.size∧w.cell? ⟨g,o+j,none⟩=some (.string ss[j])
def fU (b:Nat) (w:World) (v:Value) (ms:List PM):Prop:=
 ∃ao c,v= .slice ao ms.length c∧ ∀j (h:j<ms.length),∃g o,ao=some ⟨g,o,none⟩∧b≤g∧g<w.heap.size∧w.cell? ⟨g,o+j*3,none⟩=some (.string ms[j].name)∧w.cell? ⟨g,o+j*3+1,none⟩=some (.int .i64 ms[j].op)∧w.cell? ⟨g,o+j*3+2,none⟩=some (.string ms[j].value)
theorem cL.below (h:cL b w v ss) (hb:Below w.heap.size w w'):cL b w' v ss:=by
 obtain⟨ao,c,h1,h2⟩:=h;refine⟨ao,c,h1,fun j hj=>?_⟩;obtain⟨g,o,a,l,u,x⟩:=h2 j hj;exact⟨g,o,a,l,gO u hb.size,(hb.cell (p:=⟨g,_,none⟩) u).trans x⟩
theorem fU.below {ms:List PM} (h:fU b w v ms) (hb:Below w.heap.size w w'):fU b w' v ms:=by
 obtain⟨ao,c,h1,h2⟩:=h;refine⟨ao,c,h1,fun j hj=>?_⟩;obtain⟨g,o,a,l,u,x,y,z⟩:=h2 j hj;exact⟨g,o,a,l,gO u hb.size,(hb.cell (p:=⟨g,_,none⟩) u).trans x,(hb.cell (p:=⟨g,_,none⟩) u).trans y,(hb.cell (p:=⟨g,_,none⟩) u).trans z⟩
theorem cL.lo (h:cL b w v ss) (hb:b'≤b):cL b' w v ss:=by
 obtain⟨ao,c,h1,h2⟩:=h;refine⟨ao,c,h1,fun j hj=>?_⟩;obtain⟨g,o,a,l,u⟩:=h2 j hj;exact⟨g,o,a,bn hb l,u⟩
theorem fU.lo {ms:List PM} (h:fU b w v ms) (hb:b'≤b):fU b' w v ms:=by
 obtain⟨ao,c,h1,h2⟩:=h;refine⟨ao,c,h1,fun j hj=>?_⟩;obtain⟨g,o,a,l,u⟩:=h2 j hj;exact⟨g,o,a,bn hb l,u⟩
theorem cL.Dm (h:cL b w v ss) {p:Addr} (hp:p.block<b) (u:Value):cL b (w.setCell p u) v ss:=by
 obtain⟨ao,c,h1,h2⟩:=h;refine⟨ao,c,h1,fun j hj=>?_⟩;obtain⟨g,o,a,l,k,x⟩:=h2 j hj;exact⟨g,o,a,l,by simpa using k,by rw[mX _ _ _ _ (by intro e;rw[e]at hp;simp only at hp;omega)];exact x⟩
theorem fU.Dm {b:Nat} {w:World} {v:Value} {ms:List PM} (h:fU b w v ms) {p:Addr} (hp:p.block<b) (u:Value):fU b (w.setCell p u) v ms:=by
 obtain⟨ao,c,h1,h2⟩:=h;refine⟨ao,c,h1,fun j hj=>?_⟩;obtain⟨g,o,a,l,k,x,y,z⟩:=h2 j hj;have Dm: ∀n,(w.setCell p u).cell? ⟨g,n,none⟩=w.cell? ⟨g,n,none⟩:=fun n=>mX _ _ _ _ (by intro e;rw[e]at hp;simp only at hp;omega)
 exact⟨g,o,a,l,by simpa using k,(Dm _).trans x,(Dm _).trans y,(Dm _).trans z⟩
def jP (r:PR) (m o i l:Value):Value:=
 .agg #[.int .i64 r.kind,.int .i64 r.kids,.string r.op,.string r.text,m,.string r.bQ,.string r.step,.string r.off,.string r.tim,.bool r.bool,.bool r.given,.bool r.on,o,.int .i64 r.card,i,.bool r.without,l]
def dN (r:PR) (m o i l:Value):Array Value:=#[.int .i64 r.kind,.int .i64 r.kids,.string r.op,.string r.text,m,.string r.bQ,.string r.step,.string r.off,.string r.tim,.bool r.bool,.bool r.given,.bool r.on,o,.int .i64 r.card,i,.bool r.without,l]
theorem aQ {r:PR} {o i l:Value} (h:aH W g t A) (e:A=dN r m o i l):
  W.cell? ⟨g,0,none⟩=some (.int .i64 r.kind)∧W.cell? ⟨g,1,none⟩=some (.int .i64 r.kids)∧W.cell? ⟨g,2,none⟩=some (.string r.op)∧W.cell? ⟨g,3,none⟩=some (.string r.text)∧W.cell? ⟨g,4,none⟩=some m∧W.cell? ⟨g,5,none⟩=some (.string r.bQ)∧W.cell? ⟨g,6,none⟩=some (.string r.step)∧W.cell? ⟨g,7,none⟩=some (.string r.off)∧W.cell? ⟨g,8,none⟩=some (.string r.tim)∧W.cell? ⟨g,9,none⟩=some (.bool r.bool)∧W.cell? ⟨g,10,none⟩=some (.bool r.given)∧W.cell? ⟨g,11,none⟩=some (.bool r.on)∧W.cell? ⟨g,12,none⟩=some o∧W.cell? ⟨g,13,none⟩=some (.int .i64 r.card)∧W.cell? ⟨g,14,none⟩=some i∧W.cell? ⟨g,15,none⟩=some (.bool r.without)∧W.cell? ⟨g,16,none⟩=some l:=by
 subst e;exact⟨h.cell 0,h.cell 1,h.cell 2,h.cell 3,h.cell 4,h.cell 5,h.cell 6,h.cell 7,h.cell 8,h.cell 9,h.cell 10,h.cell 11,h.cell 12,h.cell 13,h.cell 14,h.cell 15,h.cell 16⟩
def lF (r:PR) (m o i l:Value):List Value:=
 [.int .i64 r.kind,.int .i64 r.kids,.string r.op,.string r.text,m,.string r.bQ,.string r.step,.string r.off,.string r.tim,.bool r.bool,.bool r.given,.bool r.on,o,.int .i64 r.card,i,.bool r.without,l]
def bw (b:Nat) (w:World) (r:PR) (m o i l:Value):Prop:=fU b w m r.ms∧cL b w o r.mls∧cL b w i r.inc∧cL b w l r.labels
theorem bw.below {b:Nat} {w w':World} {r:PR} {m o i l:Value} (h:bw b w r m o i l) (hb:Below w.heap.size w w'):bw b w' r m o i l:=
 ⟨h.1.below hb,h.2.1.below hb,h.2.2.1.below hb,h.2.2.2.below hb⟩
theorem bw.lo {b b':Nat} {w:World} {r:PR} {m o i l:Value} (h:bw b w r m o i l) (hb:b'≤b):bw b' w r m o i l:=
 ⟨h.1.lo hb,h.2.1.lo hb,h.2.2.1.lo hb,h.2.2.2.lo hb⟩
def oM (b:Nat) (w:World) (v:Value) (rs:List PR):Prop:=
 ∃ao c,v= .slice ao rs.length c∧ ∀j (h:j<rs.length),∃g o,ao=some ⟨g,o,none⟩∧b≤g∧g<w.heap.size∧ ∃vm vo vi vl,bw b w rs[j] vm vo vi vl∧ ∀k (hk:k<17),w.cell? ⟨g,o+j*17+k,none⟩=some ((lF rs[j] vm vo vi vl)[k]'(by simp[lF];omega))
theorem oM.below {b:Nat} {w w':World} {v:Value} {rs:List PR} (h:oM b w v rs) (hb:Below w.heap.size w w'):oM b w' v rs:=by
 obtain⟨ao,c,h1,h2⟩:=h;refine⟨ao,c,h1,fun j hj=>?_⟩;obtain⟨g,o,a,l,u,vm,vo,vi,vl,x,y⟩:=h2 j hj;exact⟨g,o,a,l,gO u hb.size,vm,vo,vi,vl,x.below hb,fun k hk=>(hb.cell (p:=⟨g,_,none⟩) u).trans (y k hk)⟩
theorem oM.lo {b b':Nat} {w:World} {v:Value} {rs:List PR} (h:oM b w v rs) (hb:b'≤b):oM b' w v rs:=by
 obtain⟨ao,c,h1,h2⟩:=h;refine⟨ao,c,h1,fun j hj=>?_⟩;obtain⟨g,o,a,l,u,vm,vo,vi,vl,x,y⟩:=h2 j hj;exact⟨g,o,a,bn hb l,u,vm,vo,vi,vl,x.lo hb,y⟩
theorem Bz:(prog.info? 5).map (fun i=>(i.zero,i.size,i.bytes))=some (some (.int .u8 0),1,1):=by kernel_rfl
theorem xJ (c:UInt8) (w:World):
  Calls prog 95 #[.int .u8 (c.toNat:Int)] w fun e w'=>e= .returned (.bool (digit c))∧w=w':=by
 go_enter func95,ntmps95;go_wp2
 all_goals (go_ret;exact⟨ah (by rw[eE];simp[digit];omega),rfl⟩)
theorem uz (c:UInt8) (w:World):
  Calls prog 93 #[.int .u8 (c.toNat:Int)] w fun e w'=>e= .returned (.bool (letter c))∧w=w':=by
 have hc:c.toNat<95∨c.toNat=95∨95<c.toNat:=by omega
 rcases hc with hc|hc|hc
 all_goals
  first|(have h1:95≤c.toNat∧c.toNat≤95:=by omega)|skip
  first|clear hc|skip
  go_enter func93,ntmps93;go_wp2
  all_goals (go_ret;exact⟨ah (by rw[eE];simp[letter];omega),rfl⟩)
theorem abX (s:ByteArray) (i:Nat) (w:World) (_hs:s.size≤maxLen):
  Calls prog 96 #[.string s,.int .i64 (i:Int)] w fun e w'=>e= .returned (.int .u8 ((an s.data.toList i).toNat:Int))∧w=w':=by
 by_cases h:i<s.size
 ·have ha:=aa (aq h);go_enter func96,ntmps96;go_wp2_with fail;go_ret;exact⟨aE (by rw[ha.out]),rfl⟩
 ·have ha:=aa (Bs (l:=s.data.toList) (i:=i) (by rw[ab];omega));go_enter func96,ntmps96;go_wp2_with fail;go_ret;exact⟨aE (by rw[ha.out];rfl),rfl⟩
theorem yS (s:ByteArray) (w:World) (hs:s.size≤maxLen):
  Calls prog 75 #[.string s] w fun e w'=>e= .returned (.bool (dO s.data.toList))∧w=w':=by
 unfold maxLen at hs;have h0:vc false s.data.toList 0=dO s.data.toList:=rfl;have H0:=aa h0;clear h0;go_enter func75,ntmps75;go_wp2_with fail;go_loop [3] (fun t=> ∃k:Nat,k≤s.size∧t= .int .i64 k∧Hid (vc false s.data.toList k=dO s.data.toList)) (fun t=>s.size-(intOf t).toNat)
 case atStart=>exact⟨0,aT _,rfl,H0.out⟩
 case round=>
  obtain⟨k,hk,rfl,gJ⟩:=hrel;clear H0;by_cases au:k<s.size
  ·by_cases lI:k=0
   ·subst lI;cases hl:letter s[0]
    all_goals
     go_wp2_with (first|(go_at_call 93;refine(uz _ _).mono ?_;rintro e w' ⟨rfl,rfl⟩)|(go_at_call 95;refine(xJ _ _).mono ?_;rintro e w' ⟨rfl,rfl⟩))
    ·go_ret;exact⟨ah (by rw[←gJ.out,EN au hl (by simp) (.inl rfl)]),rfl⟩
    ·go_round
     case rel=>exact⟨1,by omega,by go_num,(sC au (.inl hl)).trans gJ.out⟩
     case measure=>simp[intOf];omega
   ·have hkp:1≤k:=by omega
    have HK:=aa lI;clear lI;cases hl:letter s[k]<;>cases hd:digit s[k]
    all_goals
     go_wp2_with (first|(go_at_call 93;refine(uz _ _).mono ?_;rintro e w' ⟨rfl,rfl⟩)|(go_at_call 95;refine(xJ _ _).mono ?_;rintro e w' ⟨rfl,rfl⟩))
    ·go_ret;exact⟨ah (by rw[←gJ.out,EN au hl (by simp) (.inr hd)]),rfl⟩
    ·go_round
     case rel=>exact⟨k+1,by omega,by go_num,(sC au (.inr (.inr ⟨HK.out,hd⟩))).trans gJ.out⟩
     case measure=>simp[intOf];omega
    ·go_round
     case rel=>exact⟨k+1,by omega,by go_num,(sC au (.inl hl)).trans gJ.out⟩
     case measure=>simp[intOf];omega
    ·go_round
     case rel=>exact⟨k+1,by omega,by go_num,(sC au (.inl hl)).trans gJ.out⟩
     case measure=>simp[intOf];omega
  ·go_wp2_with fail;go_ret;exact⟨ah (by rw[←gJ.out,Ut (by rw[ab];omega),nW];first|done|(cases s.data.toList<;>rfl)),rfl⟩
theorem EP (s:ByteArray) (w:World) (hs:s.size≤maxLen) (uV:s.size≤281474976710656):
  Calls prog 100 #[.string s] w fun e w'=>e= .returned (.string ⟨(s.data.toList.map low).toArray⟩)∧Below w.heap.size w w':=by
 have Wy:=hs;unfold maxLen at Wy;obtain⟨i0,ti,yn,db,ej⟩:=mC Bz;go_enter func100,ntmps100;go_wp2_with (at_make;refine wpList_make_own _ rfl (.const (.int .i64 0)) (.tmp 7) 147 rfl w.heap.size 5 i0 (.int .u8 0) 1 underlying147 ti yn db _ _ _ s.size rfl rfl rfl (by rw[ej];omega) hs (aP _) ?_);intro w1 mD hgr1;have tG:Below w.heap.size w w1:=(aS _ _).grown hgr1 (aP _) (by simp);have afm:w.heap.size<w1.heap.size:=(mD.lt w.heap.size rfl).2;go_wp2_with fail;go_loopw [3,4] (fun v i wr=> ∃k:Nat,k≤s.size∧i= .int .i64 k∧v= .slice (some ⟨w.heap.size,0,none⟩) k s.size∧wr.ownsRow w.heap.size 5 1 (.slice (some ⟨w.heap.size,0,none⟩) k s.size) k (cellsOf (rE s.data.toList k))∧Below w.heap.size w wr∧w.heap.size<wr.heap.size) (fun _ i _=>s.size-(intOf i).toNat)
 case atStart=>exact⟨0,aT _,rfl,rfl,mD,tG,afm⟩
 case round=>
  obtain⟨k,hk,rfl,rfl,aL,bN,jf⟩:=hrel;clear mD hgr1 tG afm;by_cases au:k<s.size
  ·have nU:k<s.data.toList.length:=by rw[ab];exact au
   have htk:cellsOf (rE s.data.toList (k+1))=cellsOf (rE s.data.toList k)++[.int .u8 ((low s[k]).toNat:Int)]:=by
    rw[J0 _ _ nU,gl,fM];rfl
   have HT:=aa htk;clear htk;by_cases Sa:65≤s[k].toNat∧s[k].toNat≤90
   ·have HU:=aa (TY _ Sa);obtain⟨Sb,K9⟩:=Sa;go_wp2_with (at_builtin;refine py rfl (.tmp 26) (.tmp 28) 147 rfl w.heap.size 5 (.int .u8 0) 1 1 Bz underlying147 w.heap.size k s.size _ rfl aL [.int .u8 ((s[k].toNat:Int)+32)] rfl rfl (zU rfl) (by omega) ?_);intro w2 kL pM;have HO:=aa kL;have HB:=aa (bN.grown pM (jt jf) (by intro g hg;cases hg;exact aP _));have abl:=gO jf pM.size;clear kL pM aL bN;go_wp2_with fail;go_roundw
    case rel=>exact⟨k+1,by omega,by go_num,rfl,by rw[HT.out,HU.out];exact HO.out,HB.out,abl⟩
    case measure=>simp[intOf];omega
   ·have HU:=aa (TZ _ Sa);rcases(show s[k].toNat<65∨(65≤s[k].toNat∧90<s[k].toNat)from by omega)with hu|⟨Sb,K9⟩
    all_goals
     go_wp2_with (at_builtin;refine py rfl (.tmp 26) (.tmp 28) 147 rfl w.heap.size 5 (.int .u8 0) 1 1 Bz underlying147 w.heap.size k s.size _ rfl aL [.int .u8 (s[k].toNat:Int)] rfl rfl (zU rfl) (by omega) ?_);intro w2 kL pM;have HO:=aa kL;have HB:=aa (bN.grown pM (jt jf) (by intro g hg;cases hg;exact aP _));have abl:=gO jf pM.size;clear kL pM aL bN;go_wp2_with fail;go_roundw
     case rel=>exact⟨k+1,by omega,by go_num,rfl,by rw[HT.out,HU.out];exact HO.out,HB.out,abl⟩
     case measure=>simp[intOf];omega
  ·have tX:rE s.data.toList k=s.data.toList.map low:=by rw[rE,DC (by rw[ab];omega)]
   have hlk:k=(s.data.toList.map low).length:=by rw[kG,ab];omega
   rw[tX]at aL;have IV:=ku (P:=prog) (sb aL) 147 9 5 k s.size hlk underlying147 underlying5 underlying9;have HB:=aa bN;clear tX hlk aL bN;go_wp2_with fail;go_ret;exact⟨rfl,HB.out⟩
theorem Uw (s:ByteArray) (w:World) (hs:s.size≤maxLen):
  Calls prog 74 #[.string s] w fun e w'=>e= .returned (.tuple #[.string (km s.data.toList),.bool (word s.data.toList)])∧Below w.heap.size w w':=by
 have Wy:=hs;unfold maxLen at Wy;by_cases ZK:20<s.size
 ·have hw:word s.data.toList=false:=EM (by rw[ab];omega);have AJ:km s.data.toList=⟨#[]⟩:=by simp[km,hw]
  rw[hw,AJ];clear hw AJ;go_enter func74,ntmps74;go_wp2_with fail;go_ret2;exact⟨rfl,aS _ _⟩
 ·have hwo:km s.data.toList=(if xp (s.data.toList.map low)then⟨(s.data.toList.map low).toArray⟩else⟨#[]⟩):=rfl;have hw:word s.data.toList=xp (s.data.toList.map low):=rfl;go_enter func74,ntmps74;have HO:=aa hwo;have HW:=aa hw;clear hwo hw;go_wp2_with fail;refine(EP s _ hs (by omega)).mono ?_;rintro e w1 ⟨rfl,hb⟩;generalize s.data.toList.map low=L at HO HW ⊢
  have HB:=aa hb;clear hb;cases hk:xp L
  ·have bC: ∀k,k∈Wx→(L==k)=false:=by
    intro k PA;cases hb:L==k
    ·rfl
    ·have:L=k:=by simpa using hb
     subst this;simp[xp]at hk;exact absurd PA hk
   simp only[Wx,gq,kE,iN,yB,forall_eq]at bC;obtain⟨h1,h2,h3,h4,h5,h6,h7,h8,h9,Dn,h11,ZK,h13,h14,h15,h16,h17,h18,h19,h20,h21,h22,h23⟩:=bC;have HK:=aa hk;clear hk;go_wp2_with fail;go_ret2;exact⟨Gb (by rw[HO.out,HK.out];rfl) (by rw[HW.out,HK.out]),HB.out⟩
  ·have hm:L∈Wx:=by simpa [xp]using hk
   simp only[Wx,gq,kE,iN]at hm;have HK:=aa hk;clear hk;rcases hm with rfl|rfl|rfl|rfl|rfl|rfl|rfl|rfl|rfl|rfl|rfl|rfl|rfl|rfl|rfl|rfl|rfl|rfl|rfl|rfl|rfl|rfl|rfl
   all_goals
    go_wp2_with fail;go_ret2;exact⟨Gb (by rw[HO.out,HK.out];rfl) (by rw[HW.out,HK.out]),HB.out⟩
def AS (b:Bool) (k:Int):Int:=if b=true then k else 0
theorem Yp (w:World) (b:Bool) (k:Int):Calls prog 71 #[.bool b,.int .i64 k] w fun e w'=>e= .returned (.int .i64 (AS b k))∧w=w':=by
 cases b
 all_goals
  go_enter func71,ntmps71;go_wp2_with fail;go_ret;exact⟨rfl,rfl⟩
theorem jG (Sc:o.guard=none) (ty:TypeId) (x:Operand) (ho:o.op= .box ty x)
  (cs:Array Value) (hx:a.eval x= .agg cs) (hc: ∀u∈cs.toList,u.oneCell'=true)
  (h: ∀W,aH W w.heap.size ty cs→Below w.heap.size w W→W.heap.size=w.heap.size+1→wpList P ops Q rest (a.put o.dst (.pointer (some ⟨w.heap.size,0,none⟩))) W):wpList P ops Q (o::rest) a w:=by
 refine wpList_plain Sc fun K hK=>?_
 have hn:=h (w.alloc (.cells cs ty)) (aH.new w ty cs) ((aS _ w).alloc (aP _) _) (by simp);unfold Oper.wp execOp;simp only[ho,hx,vA,Bf,A7];simp[go_sem,Value.cells];exact hK _ _ hn
