import Derived.Test.YtcdoilkjmjbgmaaGreatDoorS00
import Derived.WalkKit
import Derived.WalkSpells
import Derived.WalkLawsBesides
import Derived.Lib.Hide
import Derived.Test.YtcdoilkjmjbgmaaGreatDoorProg
import Derived.Laws.Rows
/- Part of the proof of YtcdoilkjmjbgmaaGreatDoorCardY: Mem PlA LexA LexB TrP Blk TrC RefA TvD TsBx Still. -/
set_option maxRecDepth 100000
set_option maxHeartbeats 4000000
set_option linter.unusedVariables false
set_option linter.unusedSimpArgs false
namespace Go.Proofs.YtcdoilkjmjbgmaaGreatDoor
open Go.RowKit
open Go.Proofs.Tryz
variable {a:Act} {b g B g' base size n cap p i k b':Nat} {w w' w0 WY W:World} {l:List UInt8} {P:Program} {ops:Array Oper} {rest:List Oper} {o:Oper} {Q:Exit→Act→World→Prop} {t' e t ty:TypeId} {cs' cs A:Array Value} {v u m:Value} {xs:List Value} {s:ByteArray} {col:Bool} {c:UInt8} {ss:List ByteArray}
theorem ar {a b:Bool} (h:a=b):Ending.returned (.bool a)= .returned (.bool b):=by rw[h]
theorem aH {k:IntKind} {a b:Int} (h:a=b):Ending.returned (.int k a)= .returned (.int k b):=by rw[h]
theorem gl (s:ByteArray) (k:Nat) (h:k<s.data.toList.length):s.data.toList[k]=s[k]'(by simpa using h):=by simp[ByteArray.getElem_eq_getElem_data]
theorem af (s:ByteArray):s.data.toList.length=s.size:=by simp
theorem mk_data (s:ByteArray):(⟨s.data.toList.toArray⟩:ByteArray)=s:=by cases s;simp
def eA (w:World) (g:Nat) (l:List UInt8):Prop:=
 ∀j (hj:j<l.length),w.cell? ⟨g,j,none⟩=some (.int .u8 (l[j].toNat:Int))∧w.frozen? ⟨g,j,none⟩=false
theorem eA.cell {w:World} {g:Nat} {l:List UInt8} (h:eA w g l) {j:Nat} (hj:j<l.length):w.cell? ⟨g,j,none⟩=some (.int .u8 (l[j].toNat:Int)):=(h j hj).1
theorem eA.free (h:eA w g l) {j:Nat} (hj:j<l.length):w.frozen? ⟨g,j,none⟩=false:=(h j hj).2
theorem eA.below (h:eA w g l) (hb:Below B w w') (hg:g<B):eA w' g l:=
 fun j hj=>⟨(hb.cell (p:=⟨g,j,none⟩) hg).trans (h j hj).1,(hb.frozen (p:=⟨g,j,none⟩) hg).trans (h j hj).2⟩
theorem eA.drew {w:World} {g:Nat} {l:List UInt8} (h:eA w g l):eA w.drew g l:=h
theorem eA.dz (h:eA w g l) {k:Nat} (hk:k<l.length) (c:UInt8):eA (w.setCell ⟨g,k,none⟩ (.int .u8 (c.toNat:Int))) g (l.set k c):=by
 intro j hj;refine⟨?_,(World.frozen?_setCell _ _ _ _).trans (h j (by simpa using hj)).2⟩;by_cases e:j=k
 ·subst e;rw[D7 _ _ _ (h j (by simpa using hj)).1];simp
 ·rw[mQ _ _ _ _ (by simp),(h j (by simpa using hj)).1];rw[List.getElem_set_ne (Ne.symm e)]
theorem jI 
  (hg:o.guard=none) (x:Operand) (src dst e:TypeId) (ye:o.op=Op.convert src dst x) (s:ByteArray) (hx:a.eval x= .string s)
  (hs:P.underlying src=some .string) (hd:P.underlying dst=some (.slice e)) (he:P.underlying e=some (.int .u8))
  (hK: ∀cap w',s.size≤cap→eA w' w.heap.size s.data.toList→Below w.heap.size w w'→w.heap.size<w'.heap.size→wpList P ops Q rest (a.put o.dst (.slice (some ⟨w.heap.size,0,none⟩) s.size cap)) w'):
  wpList P ops Q (o::rest) a w:=by
 refine wpList_plain hg fun K hK'=>?_
 have aaY:=run_bytes_of_string (P:=P) w src dst e s hs hd he;unfold Oper.wp;simp only[execOp,ye,hx,vy,aaY,AZ,yA];refine hK' _ _ (hK _ _ (grownCap_ge w s.size 0 e) ?_ ((aU _ _).drew.alloc (aS _) _) (by simp));intro j hj;have KR:j<s.data.size:=by simpa using hj
 refine⟨?_,?_⟩
 ·rw[show w.heap.size=w.drew.heap.size from rfl,World.cell?_alloc_mark,bytesRow_at s _ j KR];simp
 ·rw[show w.heap.size=w.drew.heap.size from rfl,World.frozen?_alloc_mark];have h2:s.data.size=s.size:=rfl;have:j<(bytesRow s (grownCap w s.size 0 e)).size:=by simp[bytesRow];omega
  simp;omega
theorem nW (h:eA w g l) (src dst e:TypeId) (n cap:Nat) (hn:n=l.length) (hs:P.underlying src=some (.slice e)) (he:P.underlying e=some (.int .u8)) (hd:P.underlying dst=some .string):
  (convert src dst (.slice (some ⟨g,0,none⟩) n cap)).run P w= .ok (.string ⟨l.toArray⟩) w:=by
 subst hn;refine run_convert_bytes_back w src dst e _ cap l hs he hd fun j hj=>?_
 rw[lE,mr];exact(h j hj).1
def aM (w:World) (g:Nat) (t:TypeId) (cs:Array Value):Prop:=w.heap[g]? =some (.cells cs t (0,0))
section
variable {w w':World} {g:Nat} {t:TypeId} {cs:Array Value}
theorem aM.lt (h:aM w g t cs):g<w.heap.size:=by
 rcases dE g w.heap.size with aA|lW
 ·exact aA
 ·unfold aM at h;rw[AW lW]at h;cases h
theorem aM.cell (h:aM w g t cs) (i:Nat):w.cell? ⟨g,i,none⟩=cs[i]? :=cell_of_row w g i cs t (0,0) h
theorem aM.frozen (h:aM w g t cs) (i:Nat):w.frozen? ⟨g,i,none⟩=false:=by
 unfold aM at h;simp[World.frozen?,h]
theorem aM.new (w:World) (t:TypeId) (cs:Array Value):aM (w.alloc (.cells cs t)) w.heap.size t cs:=heap_alloc_new w _
theorem aM.drew (h:aM w g t cs):aM w.drew g t cs:=h
theorem aM.drewN (h:aM w g t cs) (n:Nat):aM (w.drewN n) g t cs:=h
theorem aM.alloc (h:aM w g t cs) (o:Obj):aM (w.alloc o) g t cs:=(Below.heap_alloc w o g h.lt).trans h
theorem aM.dz (h:aM w g t cs) (i:Nat) (u:Value):aM (w.setCell ⟨g,i,none⟩ u) g t (cs.setIfInBounds i u):=by
 unfold aM at h ⊢
 simp[World.setCell,Array.getElem?_modify,h]
theorem aM.Hf (h:aM w g t cs) {p:Addr} (hp:g≠p.block) (u:Value):aM (w.setCell p u) g t cs:=(AY w p u g hp).trans h
theorem aM.below (h:aM w g t cs) (hb:Below B w w') (hg:g<B):aM w' g t cs:=(hb.block g hg).trans h
theorem aM.grown {row:Option Nat} (h:aM w g t cs) (hb:w.grownBy w' row) (hg:some g≠row):aM w' g t cs:=(hb.block g h.lt hg).trans h
theorem aM.ne_ (h:aM w g t cs) (h':aM w g' t' cs') (bW:t≠t'):g≠g':=by
 rintro rfl;unfold aM at h h';rw[h]at h';injection h' with h'
 injection h' with _ ht
 exact bW ht
theorem cW (h:w.ownsRow base e size v n xs) (hg:aM w g t cs) (bW:e≠t):v.ownBlock≠some g:=by
 rcases h.2 with⟨rfl,_⟩|⟨g',cap,cur,rfl,_,hh,_⟩
 ·simp[Value.ownBlock]
 ·intro he;have:g'=g:=by simpa [Value.ownBlock]using he
  subst this;exact aM.ne_ (t:=e) hh hg bW rfl
end
theorem ee {row:Option Nat} (h:w0.grownBy w row) (h':w.grownBy w' row):w0.grownBy w' row:=
 ⟨h'.os.trans h.os,h'.tape.trans h.tape,h'.output.trans h.output,bR h.size h'.size,fun k hk bW=>(h'.block k (iv hk h.size) bW).trans (h.block k hk bW)⟩
theorem ib 
  (hg:o.guard=none) (s x:Operand) (t:TypeId) (ye:o.op=Op.call {callee:=Callee.builtin Builtin.append,args:=#[s,x],argTypes:=#[t,t]})
  (base:Nat) (e:TypeId) (z:Value) (size bytes:Nat) (mz:(P.info? e).map (fun i=>(i.zero,i.size,i.bytes))=some (some z,size,bytes)) (h1:P.underlying t=some (.slice e)) (Ll:z.cells.size=size) (iI:0<size)
  (v:Value) (n:Nat) (xs:List Value) (hs:a.eval s=v) (aP:w0.ownsRow base e size v n xs) (us:List Value) (Zv:us.length=size)
  (hx:a.eval x= .slice (some ⟨w0.heap.size,0,none⟩) 1 1) (R6: ∀u∈us,u.oneCell'=true) (ud:n+1≤maxLen) (hb:(n+1)*bytes≤140737488355328) (cT:base≤w0.heap.size)
  (hK: ∀v' w',w'.ownsRow base e size v' (n+1) (xs++us)→w0.grownBy w' v.ownBlock→wpList P ops Q rest (a.put o.dst v') w'):
  wpList P ops Q (o::rest) a (w0.alloc (.cells us.toArray e)):=by
 obtain⟨i,hi,hz,Pf,KS⟩:=lF mz;refine wpList_append_own _ hg s x t ye base e i z size bytes h1 hi hz Pf KS Ll iI v n xs hs (aP.alloc _) ⟨w0.heap.size,0,none⟩ 1 1 us hx (by omega) ?_ R6 ud hb (by simp;omega) ?_
 ·intro j u hu;have hj:j<us.length:=(AV.1 hu).1;rw[lE,mr,xf _ _ _ _ rfl];simpa using hu
 ·intro v' w' ho jm _;exact hK v' w' ho (ee (yl w0 _ _) jm)
theorem oV 
  (hg:o.guard=none) (s x:Operand) (t:TypeId) (ye:o.op=Op.call {callee:=Callee.builtin Builtin.append,args:=#[s,x],argTypes:=#[t,t]})
  (base:Nat) (e:TypeId) (z:Value) (size bytes:Nat) (mz:(P.info? e).map (fun i=>(i.zero,i.size,i.bytes))=some (some z,size,bytes)) (h1:P.underlying t=some (.slice e))
  (g k cap:Nat) (xs:List Value) (hs:a.eval s= .slice (some ⟨g,0,none⟩) k cap) (aP:w0.ownsRow base e size (.slice (some ⟨g,0,none⟩) k cap) k xs) (us:List Value) (Zv:us.length=size)
  (hx:a.eval x= .slice (some ⟨w0.heap.size,0,none⟩) 1 1) (R6: ∀u∈us,u.oneCell'=true) (hk:k+1≤cap)
  (hK: ∀w',w'.ownsRow base e size (.slice (some ⟨g,0,none⟩) (k+1) cap) (k+1) (xs++us)→w0.grownBy w' (some g)→wpList P ops Q rest (a.put o.dst (.slice (some ⟨g,0,none⟩) (k+1) cap)) w'):
  wpList P ops Q (o::rest) a (w0.alloc (.cells us.toArray e)):=by
 obtain⟨i,hi,hz,Pf,KS⟩:=lF mz;refine wpList_append_fits _ hg s x t ye base e i size h1 hi Pf g k cap xs hs (aP.alloc _) ⟨w0.heap.size,0,none⟩ 1 1 us hx (by omega) ?_ R6 hk ?_
 ·intro j u hu;have hj:j<us.length:=(AV.1 hu).1;rw[lE,mr,xf _ _ _ _ rfl];simpa using hu
 ·intro w' ho jm;exact hK w' ho (ee (yl w0 _ _) jm)
theorem zL (h:u.oneCell'=true): ∀x∈[u],x.oneCell'=true:=by intro x hx;simp at hx;subst hx;exact h
def cellsOf (l:List UInt8):List Value:=l.map fun c=>.int .u8 (c.toNat:Int)
theorem fP (l m:List UInt8):cellsOf (l++m)=cellsOf l++cellsOf m:=by simp[cellsOf]
theorem rU (h:w.ownsRow base e 1 (.slice (some ⟨g,0,none⟩) n cap) n (cellsOf l)):eA w g l:=by
 have hn:l.length=n:=by have:=h.1;simpa [cellsOf]using this
 intro j hj;refine⟨?_,h.frozenAt j⟩;rw[h.cellAt j (by omega)];simp[cellsOf,hj]
theorem fu (h:Below w.heap.size w w') (row:Option Nat):w.grownBy w' row:=⟨h.os,h.tape,h.output,h.size,fun i hi _=>h.block i hi⟩
theorem aG (h:w.ownsRow base e size v n xs) (hp:aM w p t cs) (bW:e≠t) (u:Value):(w.setCell ⟨p,i,none⟩ u).ownsRow base e size v n xs:=by
 refine⟨h.1,?_⟩;rcases h.2 with hn|⟨g,cap,cur,rfl,h1,h2,h3,h4,h5,h6⟩
 ·exact .inl hn
 ·refine .inr ⟨g,cap,cur,rfl,h1,?_,h3,h4,h5,h6⟩;have XJ:g≠p:=aM.ne_ (t:=e) h2 hp bW;exact(AY w ⟨p,i,none⟩ u g XJ).trans h2
theorem bJ (h:w.ownsRow base e size v k xs) (hb:Below w.heap.size w w'):w'.ownsRow base e size v k xs:=
 h.kept (fu hb none) (by cases v.ownBlock<;>simp)
theorem cr (h:w.ownsRow b e size v n xs) (hb:b'≤b):w.ownsRow b' e size v n xs:=by
 refine⟨h.1,?_⟩;rcases h.2 with hn|⟨g,cap,cur,rfl,h1,h2⟩
 ·exact .inl hn
 ·exact .inr ⟨g,cap,cur,rfl,bR hb h1,h2⟩
theorem Below.le (h:Below B w w'):w.heap.size≤w'.heap.size:=h.size
def letter (c:UInt8):Bool:=(97≤c.toNat&&c.toNat≤122)||(65≤c.toNat&&c.toNat≤90)||c.toNat==95
def digit (c:UInt8):Bool:=48≤c.toNat&&c.toNat≤57
def bn (abC:Bool) (c:UInt8):Bool:=letter c||digit c||(abC&&c.toNat==58)
def low (c:UInt8):UInt8:=if 65≤c.toNat∧c.toNat≤90 then c+32 else c
def kL (l:List UInt8) (k:Nat):List UInt8:=(l.take k).map low++l.drop k
theorem Mm (l:List UInt8):kL l 0=l:=by simp[kL]
theorem P8 (l:List UInt8) {k:Nat} (h:l.length≤k):kL l k=l.map low:=by
 simp[kL,Dq h,tY h]
theorem Ew (l:List UInt8) (k:Nat):(kL l k).length=l.length:=by simp[kL];omega
theorem IW (l:List UInt8) (k:Nat) (h:k<l.length):(kL l k)[k]'(by rw[Ew];exact h)=l[k]:=by
 simp only[kL];rw[List.getElem_append_right (by simp;omega)];simp[mS (jk h)]
theorem BT (l:List UInt8) (k:Nat) (h:k<l.length):kL l (k+1)=(kL l k).set k (low l[k]):=by
 have h0:k-((l.take k).map low).length=0:=by simp;omega
 have h1:(l.drop k).set 0 (low l[k])=low l[k]::l.drop (k+1):=by rw[o5 h];rfl
 unfold kL;rw[List.set_append_right _ _ (by simp;omega),h0,h1,jO h,nQ,sY];rfl
theorem Mo (l:List UInt8) (k:Nat) (h:k<l.length) (hl:low l[k]=l[k]):kL l (k+1)=kL l k:=by
 rw[BT l k h,hl]
 conv=>lhs;rw[←IW l k h]
 exact List.set_getElem_self _
theorem TJ (c:UInt8) (h:65≤c.toNat∧c.toNat≤90):((low c).toNat:Int)=(c.toNat:Int)+32:=by
 rw[low,az h,UInt8.toNat_add];simp;omega
theorem TK (c:UInt8) (h: ¬(65≤c.toNat∧c.toNat≤90)):low c=c:=by rw[low,ah h]
def ag (p:UInt8→Bool) (l:List UInt8) (i:Nat):Nat:=i+((l.drop i).takeWhile p).length
theorem iu {p:UInt8→Bool} (h:i<l.length) (hp:p l[i]=true):ag p l (i+1)=ag p l i:=by
 unfold ag;rw[o5 h,qN,az hp];simp;omega
theorem wG {p:UInt8→Bool} (h:i<l.length) (hp:p l[i]=false):ag p l i=i:=by
 unfold ag;rw[o5 h,qN,ah (by simp[hp])];simp
theorem bP {p:UInt8→Bool} (h:l.length≤i):ag p l i=i:=by
 unfold ag;rw[tY h];simp
theorem gz {p:UInt8→Bool} (h:k<s.size) (hp:p s[k]=true):ag p s.data.toList (k+1)=ag p s.data.toList k:=
 iu (by simpa using h) (by rw[gl];exact hp)
theorem gA {p:UInt8→Bool} (h:k<s.size) (hp:p s[k]=false):ag p s.data.toList k=k:=
 wG (by simpa using h) (by rw[gl];exact hp)
theorem aW (p:UInt8→Bool) (l:List UInt8) (i:Nat):i≤ag p l i:=by unfold ag;omega
theorem bK (p:UInt8→Bool) (l:List UInt8) (i:Nat) (h:i≤l.length):ag p l i≤l.length:=by
 unfold ag;have:=(List.takeWhile_prefix p (l:=l.drop i)).length_le;simp at this;omega
def rn (l:List UInt8) (k:Nat):List UInt8:=(l.take k).map low
theorem JN (l:List UInt8) (k:Nat) (h:k<l.length):rn l (k+1)=rn l k++[low l[k]]:=by
 rw[rn,jO h,nQ];rfl
def Wm:List (List UInt8):=[[97,110,100],[98,111,111,108],[98,121],[103,114,111,117,112,95,108,101,102,116],[103,114,111,117,112,95,114,105,103,104,116],[105,103,110,111,114,105,110,103],[111,102,102,115,101,116],[111,110],[111,114],[117,110,108,101,115,115],[119,105,116,104,111,117,116],[97,118,103],[98,111,116,116,111,109,107],[99,111,117,110,116],[99,111,117,110,116,95,118,97,108,117,101,115],[103,114,111,117,112],[109,97,120],[109,105,110],[113,117,97,110,116,105,108,101],[115,116,100,100,101,118],[115,116,100,118,97,114],[115,117,109],[116,111,112,107]]
def xh (l:List UInt8):Bool:=Wm.contains l
theorem Ul (h:xh l=true):l.length≤12:=by
 have fH: ∀k∈Wm,k.length≤12:=by decide
 exact fH l (by simpa [xh]using h)
def word (l:List UInt8):Bool:=xh (l.map low)
theorem Ex (h:12<l.length):word l=false:=by
 cases hw:word l
 ·rfl
 ·have:=Ul hw;simp at this;omega
def dM (l:List UInt8):Bool:=match l with|[]=>false|c::r=>letter c&&(c::r).all (bn false)
def Bs (l:List UInt8):Bool:=match l with|[]=>false|c::r=> !digit c&&(c::r).all (bn true)
theorem nK (p:UInt8→Bool): ∀l:List UInt8,((l.takeWhile p).length==l.length)=l.all p
 |[]=>rfl
 |c::r=>by
  have ih:=nK p r;cases hp:p c
  ·simp[hp]
  ·simpa [qN,hp]using ih
theorem JO (p:UInt8→Bool) (l:List UInt8):(ag p l 0==l.length)=l.all p:=by
 rw[←nK];simp[ag]
def u7 (col:Bool) (l:List UInt8) (k:Nat):Bool:=if k=0 then(if col then Bs l else dM l)else(l.drop k).all (bn col)
theorem tG (h:letter c=true):bn col c=true:=by simp[bn,h]
theorem GA (h:digit c=true):bn col c=true:=by simp[bn,h]
theorem GB (h:letter c=true):digit c=false:=by
 simp[letter,digit]at*;omega
theorem Um (h:k=l.length):u7 col l k= !l.isEmpty:=by
 cases l with
 |nil=>subst h;cases col<;>rfl
 |cons c r=>
  have:k≠0:=by simp at h;omega
  rw[u7,ah this,tY (by omega)];rfl
theorem Un (col:Bool) (c:UInt8) (r:List UInt8):u7 col (c::r) 1=r.all (bn col):=by simp[u7]
theorem su (h:k<s.size) (hc:letter s[k]=true∨(col=true∧s[k].toNat=58)∨(k≠0∧digit s[k]=true)):u7 col s.data.toList (k+1)=u7 col s.data.toList k:=by
 have hk:k<s.data.toList.length:=by rw[af];exact h
 have hg:s.data.toList[k]=s[k]:=gl s k hk;have hn:bn col s[k]=true:=by
  rcases hc with h|⟨h1,h2⟩|⟨_,h⟩
  ·exact tG h
  ·simp[bn,h1,h2]
  ·exact GA h
 by_cases h0:k=0
 ·subst h0;cases hl:s.data.toList with
  |nil=>rw[hl]at hk;simp at hk
  |cons c r=>
   have bf:c=s[0]:=by rw[←hg];simp[hl]
   rw[Un,u7,az rfl];rw[←bf]at hn hc;cases col
   ·have aA:letter c=true:=by rcases hc with h|⟨h,_⟩|⟨h,_⟩<;>simp_all
    simp[dM,aA,hn]
   ·have hd:digit c=false:=by
     rcases hc with h|⟨_,h⟩|⟨h,_⟩
     ·exact GB h
     ·simp[digit,h]
     ·simp at h
    simp[Bs,hd,hn]
 ·rw[u7,u7,ah (by omega),ah h0,o5 hk,hg,List.all_cons,hn,mx]
theorem Ey (h:k<s.size) (hl:letter s[k]=false) (hc:col=true→s[k].toNat≠58) (hd:k=0∨digit s[k]=false):u7 col s.data.toList k=false:=by
 have hk:k<s.data.toList.length:=by rw[af];exact h
 have hg:s.data.toList[k]=s[k]:=gl s k hk;by_cases h0:k=0
 ·subst h0;cases lg:s.data.toList with
  |nil=>rw[lg]at hk;simp at hk
  |cons c r=>
   have bf:c=s[0]:=by rw[←hg];simp[lg]
   rw[u7,az rfl];rw[←bf]at hl hc;cases col
   ·simp[dM,hl]
   ·have:=hc rfl;cases hd:digit c<;>simp[Bs,bn,hl,hd,this]
 ·rw[u7,ah h0,o5 hk,hg,List.all_cons];have hd':digit s[k]=false:=hd.resolve_left h0;have:bn col s[k]=false:=by
   cases col
   ·simp[bn,hl,hd']
   ·simp[bn,hl,hd',hc rfl]
  rw[this,qX]
def au (l:List UInt8) (i:Nat):UInt8:=l.getD i 0
theorem ay (h:i<s.size):au s.data.toList i=s[i]:=by
 have hk:i<s.data.toList.length:=by rw[af];exact h
 rw[←gl s i hk,au,lf,lJ hk];rfl
theorem Bm (h:l.length≤i):au l i=0:=by
 rw[au,lf,D9 h];rfl
theorem cz (c:UInt8) (w:World):
  Calls prog 135 #[.int .u8 (c.toNat:Int)] w fun e w'=>e= .returned (.bool (digit c))∧w=w':=by
 go_enter func135,ntmps135;go_wp2
 all_goals (go_ret;exact⟨ar (by rw[eo];simp[digit];omega),rfl⟩)
theorem bw (c:UInt8) (w:World):
  Calls prog 118 #[.int .u8 (c.toNat:Int)] w fun e w'=>e= .returned (.bool (letter c))∧w=w':=by
 go_enter func118,ntmps118;go_wp2
 all_goals (go_ret;exact⟨ar (by rw[eo];simp[letter];omega),rfl⟩)
theorem rM (s : ByteArray) (i : Nat) (col : Bool) (w : World) (hs : s.size ≤ maxLen) (hi : i ≤ maxLen) :
    Calls prog 119 #[.string s,.int .i64 (i:Int),.bool col] w fun e w'=>e= .returned (.int .i64 (ag (bn col) s.data.toList i:Nat))∧w=w':=by
  unfold maxLen at hs hi
  go_enter func119,ntmps119
  go_wp2_with fail
  go_loop [1] (fun t=> ∃k:Nat,k≤9223372036854775807∧t= .int .i64 k∧Hid (ag (bn col) s.data.toList k=ag (bn col) s.data.toList i)) (fun t=>s.size-(intOf t).toNat)
  case atStart=>exact⟨i,hi,rfl,rfl⟩
  case round =>
    obtain⟨k,hk,rfl,gM⟩:=hrel
    by_cases aA:k<s.size
    · cases hl : letter s[k] <;> cases hd : digit s[k] <;> cases col
      all_goals
        go_wp2_with (first|(go_at_call 118;refine(bw _ _).mono ?_;rintro e w' ⟨rfl,rfl⟩)|(go_at_call 135;refine(cz _ _).mono ?_;rintro e w' ⟨rfl,rfl⟩))
      all_goals first
        | (go_ret; exact ⟨aH (by rw [← gM.out, gA aA (by simp [bn, *]; try (rename_i h; simp at h; omega))]), rfl⟩)
        | (go_round
           case rel=>exact⟨k+1,by omega,by go_num,(gz aA (by simp[bn, *];try(rename_i h;simp at h;omega))).trans gM⟩
           case measure=>simp[intOf];omega)
    · go_wp2_with fail
      go_ret
      exact⟨aH (by rw[←gM.out,bP (by simpa using aA)]),rfl⟩
theorem Ez (s:ByteArray) (w:World) (hs:s.size≤maxLen):
  Calls prog 117 #[.string s] w fun e w'=>e= .returned (.string ⟨(s.data.toList.map low).toArray⟩)∧Below w.heap.size w w':=by
 unfold maxLen at hs;go_enter func117,ntmps117;go_wp2_with (with_reducible refine jI rfl (.tmp 6) 9 147 5 rfl s rfl underlying9 underlying147 underlying5 ?_);intro cap w1 ue aY tA aeH;go_wp2_with fail;go_loopw [10] (fun i wr=> ∃k:Nat,k≤s.size∧i= .int .i64 k∧eA wr w.heap.size (kL s.data.toList k)∧Below w.heap.size w wr∧w.heap.size<wr.heap.size) (fun i _=>s.size-(intOf i).toNat)
 case atStart=>exact⟨0,aV _,rfl,by rw[Mm];exact aY,tA,aeH⟩
 case round=>
  obtain⟨k,hk,rfl,hb,bO,iI⟩:=hrel;by_cases aA:k<s.size
  ·have qJ:k<s.data.toList.length:=by rw[af];exact aA
   have aaZ:k<(kL s.data.toList k).length:=by rw[Ew];exact qJ
   have hc:wr.cell? ⟨w.heap.size,k,none⟩=some (.int .u8 (s[k].toNat:Int)):=by
    rw[hb.cell aaZ,IW _ _ qJ,gl]
   have hf:wr.frozen? ⟨w.heap.size,k,none⟩=false:=hb.free aaZ;by_cases RN:65≤s[k].toNat∧s[k].toNat≤90
   ·have Ib:=hb.dz aaZ (low s[k]);rw[TJ _ RN]at Ib;have Pg:eA (wr.setCell ⟨w.heap.size,k,none⟩ (.int .u8 ((s[k].toNat:Int)+32))) w.heap.size (kL s.data.toList (k+1)):=by
     rw[BT _ _ qJ,gl];exact Ib
    have HN:=ae Pg;have HB:=ae bO;clear Ib Pg hb aY bO tA;obtain⟨RO,KT⟩:=RN;go_wp2_with fail;go_roundw
    case rel=>exact⟨k+1,by omega,by go_num,HN,HB.setCell (aS _) _,by simpa using iI⟩
    case measure=>simp[intOf];omega
   ·have Pg:eA wr w.heap.size (kL s.data.toList (k+1)):=by
     rw[Mo _ _ qJ (by rw[gl];exact TK _ RN)];exact hb
    have HN:=ae Pg;have HB:=ae bO;clear Pg hb aY bO tA;rcases(show s[k].toNat<65∨(65≤s[k].toNat∧90<s[k].toNat)from by omega)with hu|⟨RO,KT⟩
    all_goals
     go_wp2_with fail;go_roundw
     case rel=>exact⟨k+1,by omega,by go_num,HN,HB,iI⟩
     case measure=>simp[intOf];omega
  ·have uT:k=s.size:=by omega
   have hlen:s.data.toList.length=s.size:=af s;rw[P8 _ (by omega)]at hb;have II:=nW (P:=prog) hb 147 9 5 s.size cap (by simp) underlying147 underlying5 underlying9;have HB:=ae bO;clear hlen uT hb bO;go_wp2_with fail;go_ret;exact⟨rfl,HB⟩
theorem F0 {t:ByteArray} {a b:Bool} (h:s=t) (h':a=b):Ending.returned (.tuple #[.string s,.bool a])= .returned (.tuple #[.string t,.bool b]):=by rw[h,h']
def kr (l:List UInt8):ByteArray:=if word l then⟨(l.map low).toArray⟩else⟨#[]⟩
theorem zT (w:World):Calls prog 105 #[.string ⟨#[]⟩] w fun e w'=>e= .returned (.bool false)∧w=w':=by
 go_enter func105,ntmps105;go_wp2_with fail;go_ret;exact⟨rfl,rfl⟩
theorem yM (s:ByteArray) (w:World) (hs:s.size≤maxLen):
  Calls prog 105 #[.string s] w fun e w'=>e= .returned (.bool (dM s.data.toList))∧w=w':=by
 cases hl:s.data.toList with
 |nil=>
  have:s=⟨#[]⟩:=by rw[←mk_data s,hl]
  subst this;exact zT w
 |cons c r=>
  have iI:0<s.size:=by rw[←af,hl];simp
  have hc:s[0]=c:=by rw[←gl s 0 (by rw[hl];simp)];simp[hl]
  have gM:=JO (bn false) s.data.toList;rw[af]at gM;have bW:(s.toList==[])=false:=by rw[nM,hl];rfl
  have mu:dM s.data.toList=(letter c&&s.data.toList.all (bn false)):=by rw[hl];rfl
  rw[←hl,mu,←gM,←hc];have Wn:=hs;unfold maxLen at Wn;clear mu hc gM hl;cases aA:letter s[0]
  all_goals
   go_enter func105,ntmps105;go_wp2_with (first|(go_at_call 118;refine(bw _ _).mono ?_;rintro e w' ⟨rfl,rfl⟩)|(go_at_call 119;refine(rM s 0 false _ hs (by decide)).mono ?_;rintro e w' ⟨rfl,rfl⟩));go_ret;exact⟨ar (by rw[eo];simp;try omega),rfl⟩
theorem Uo (s:ByteArray) (w:World) (hs:s.size≤maxLen):
  Calls prog 103 #[.string s] w fun e w'=>e= .returned (.tuple #[.string (kr s.data.toList),.bool (word s.data.toList)])∧Below w.heap.size w w':=by
 have Wn:=hs;unfold maxLen at Wn;by_cases h12:12<s.size
 ·have hw:word s.data.toList=false:=Ex (by rw[af];exact h12);have AD:kr s.data.toList=⟨#[]⟩:=by simp[kr,hw]
  rw[hw,AD];clear hw AD;go_enter func103,ntmps103;go_wp2_with fail;go_ret2;exact⟨rfl,aU _ _⟩
 ·have hwo:kr s.data.toList=(if xh (s.data.toList.map low)then⟨(s.data.toList.map low).toArray⟩else⟨#[]⟩):=rfl;have hw:word s.data.toList=xh (s.data.toList.map low):=rfl;go_enter func103,ntmps103;have HO:=ae hwo;have HW:=ae hw;clear hwo hw;go_wp2_with fail;refine(Ez s _ hs).mono ?_;rintro e w1 ⟨rfl,hb⟩;generalize s.data.toList.map low=L at HO HW ⊢
  have HB:=ae hb;clear hb;cases hk:xh L
  ·have bW: ∀k,k∈Wm→(L==k)=false:=by
    intro k Ph;cases hb:L==k
    ·rfl
    ·have:L=k:=by simpa using hb
     subst this;simp[xh]at hk;exact absurd Ph hk
   simp only[Wm,gL,ll,iX,yu,forall_eq]at bW;obtain⟨h1,h2,h3,h4,h5,h6,h7,h8,h9,Hg,h11,h12,h13,h14,h15,h16,h17,h18,h19,h20,h21,h22,h23⟩:=bW;have HK:=ae hk;clear hk;go_wp2_with fail;go_ret2;exact⟨F0 (by rw[HO.out,HK.out];rfl) (by rw[HW.out,HK.out]),HB.out⟩
  ·have hm:L∈Wm:=by simpa [xh]using hk
   simp only[Wm,gL,ll,iX]at hm;have HK:=ae hk;clear hk;rcases hm with rfl|rfl|rfl|rfl|rfl|rfl|rfl|rfl|rfl|rfl|rfl|rfl|rfl|rfl|rfl|rfl|rfl|rfl|rfl|rfl|rfl|rfl|rfl
   all_goals
    go_wp2_with fail;go_ret2;exact⟨F0 (by rw[HO.out,HK.out];rfl) (by rw[HW.out,HK.out]),HB.out⟩
structure PM where
 name:ByteArray
 op:Int
 value:ByteArray
structure PR where
 kind:Int
 kids:Int
 op:ByteArray
 text:ByteArray
 ms:List PM
 bU:ByteArray
 step:ByteArray
 off:ByteArray
 tim:ByteArray
 bool:Bool
 given:Bool
 on:Bool
 mls:List ByteArray
 card:Int
 inc:List ByteArray
 without:Bool
 labels:List ByteArray
theorem wH (w:World) (g:Nat) (cs:Array Value):w.grownBy (w.setRow g cs) (some g):=by
 refine⟨by simp,by simp,by simp,by simp,fun k hk bW=>setRow_other w g k cs ?_⟩;rintro rfl;exact bW rfl
theorem cG (Pj:o.guard=none) (ty:TypeId) (x:Operand) (ho:o.op= .load ty x)
  (g:Nat) (hx:a.eval x= .pointer (some ⟨g,0,none⟩)) {t:TypeId} {cs:Array Value} {fs:Array Field} (hb:aM w g t cs)
  (hu:P.underlying ty=some (.struct fs)) (hi:(P.info? ty).map (·.size)=some cs.size)
  (h:wpList P ops Q rest (a.put o.dst (.agg cs)) w):wpList P ops Q (o::rest) a w:=
 wpList_load_row Pj ty x ho g hx t cs (0,0) _ hb hu rfl hi h
theorem ax (Pj:o.guard=none) (ty:TypeId) (x y:Operand) (ho:o.op= .store ty x y)
  (g:Nat) (cells:Array Value) (hx:a.eval x= .pointer (some ⟨g,0,none⟩)) (hy:a.eval y= .agg cells)
  {t:TypeId} {WZ:Array Value} (hb:aM w g t WZ) (hi:(P.info? ty).map (·.size)=some cells.size)
  (hold:WZ.size=cells.size) (h1:cells.toList.all (·.oneCell')=true)
  (h: ∀W,aM W g t cells→w.grownBy W (some g)→wpList P ops Q rest (a.put o.dst undef) W):wpList P ops Q (o::rest) a w:=
 wpList_store_row Pj ty x y ho g cells hx hy t WZ hb hi hold (by rw[←Array.all_toList];exact h1) (h _ (setRow_heap w g WZ cells t (0,0) hb) (wH w g cells))
theorem bh {fn:Func} {p:Tmp} (h:fn.results= #[.cell p ty]) {tmps:Array Value} {w:World} {g:Nat} {t:TypeId} {cs:Array Value} {fs:Array Field}
  (hp:tmps.getD p undef= .pointer (some ⟨g,0,none⟩)) (hb:aM w g t cs) (hu:P.underlying ty=some (.struct fs)) (hi:(P.info? ty).map (·.size)=some cs.size):
  (results fn tmps).run P w= .ok (.agg cs) w:=
 results_cell_row h tmps w g t cs (0,0) _ hp hb hu rfl hi
theorem ef (hb:Below B w w') (hg:w'.grownBy WY (some g)) (hB:B≤w'.heap.size) (hl:B≤g):Below B w WY:=
 hb.grown hg hB (fun k hk=>by injection hk with hk;omega)
theorem vT (h:w.ownsRow base e size v n xs) (hg:w.grownBy w' (some g)) (hb:aM w g t cs) (bW:e≠t):w'.ownsRow base e size v n xs:=
 h.kept hg (.inr (cW h hb bW))
def kt (w:World) (k:Int) (e:Ending) (w':World):Prop:=e= .returned (.int .i64 k)∧Below w.heap.size w w'
def aF (w:World) (b:Bool) (e:Ending) (w':World):Prop:=e= .returned (.bool b)∧Below w.heap.size w w'
def cO (b:Nat) (w:World) (v:Value) (ss:List ByteArray):Prop:=
 ∃ao c,v= .slice ao ss.length c∧ ∀j (h:j<ss.length),∃g o,ao=some ⟨g,o,none⟩∧b≤g∧g<w.heap.size∧w.cell? ⟨g,o+j,none⟩=some (.string ss[j])
def fV (b:Nat) (w:World) (v:Value) (ms:List PM):Prop:=
 ∃ao c,v= .slice ao ms.length c∧ ∀j (h:j<ms.length),∃g o,ao=some ⟨g,o,none⟩∧b≤g∧g<w.heap.size∧w.cell? ⟨g,o+j*3,none⟩=some (.string ms[j].name)∧w.cell? ⟨g,o+j*3+1,none⟩=some (.int .i64 ms[j].op)∧w.cell? ⟨g,o+j*3+2,none⟩=some (.string ms[j].value)
theorem cO.below (h:cO b w v ss) (hb:Below w.heap.size w w'):cO b w' v ss:=by
 obtain⟨ao,c,h1,h2⟩:=h;refine⟨ao,c,h1,fun j hj=>?_⟩;obtain⟨g,o,a,l,u,x⟩:=h2 j hj;exact⟨g,o,a,l,iv u hb.size,(hb.cell (p:=⟨g,_,none⟩) u).trans x⟩
theorem fV.below {ms:List PM} (h:fV b w v ms) (hb:Below w.heap.size w w'):fV b w' v ms:=by
 obtain⟨ao,c,h1,h2⟩:=h;refine⟨ao,c,h1,fun j hj=>?_⟩;obtain⟨g,o,a,l,u,x,y,z⟩:=h2 j hj;exact⟨g,o,a,l,iv u hb.size,(hb.cell (p:=⟨g,_,none⟩) u).trans x,(hb.cell (p:=⟨g,_,none⟩) u).trans y,(hb.cell (p:=⟨g,_,none⟩) u).trans z⟩
theorem cO.lo (h:cO b w v ss) (hb:b'≤b):cO b' w v ss:=by
 obtain⟨ao,c,h1,h2⟩:=h;refine⟨ao,c,h1,fun j hj=>?_⟩;obtain⟨g,o,a,l,u⟩:=h2 j hj;exact⟨g,o,a,bR hb l,u⟩
theorem fV.lo {ms:List PM} (h:fV b w v ms) (hb:b'≤b):fV b' w v ms:=by
 obtain⟨ao,c,h1,h2⟩:=h;refine⟨ao,c,h1,fun j hj=>?_⟩;obtain⟨g,o,a,l,u⟩:=h2 j hj;exact⟨g,o,a,bR hb l,u⟩
theorem cO.Hf (h:cO b w v ss) {p:Addr} (hp:p.block<b) (u:Value):cO b (w.setCell p u) v ss:=by
 obtain⟨ao,c,h1,h2⟩:=h;refine⟨ao,c,h1,fun j hj=>?_⟩;obtain⟨g,o,a,l,k,x⟩:=h2 j hj;exact⟨g,o,a,l,by simpa using k,by rw[mQ _ _ _ _ (by intro e;rw[e]at hp;simp only at hp;omega)];exact x⟩
theorem fV.Hf {b:Nat} {w:World} {v:Value} {ms:List PM} (h:fV b w v ms) {p:Addr} (hp:p.block<b) (u:Value):fV b (w.setCell p u) v ms:=by
 obtain⟨ao,c,h1,h2⟩:=h;refine⟨ao,c,h1,fun j hj=>?_⟩;obtain⟨g,o,a,l,k,x,y,z⟩:=h2 j hj;have Hf: ∀n,(w.setCell p u).cell? ⟨g,n,none⟩=w.cell? ⟨g,n,none⟩:=fun n=>mQ _ _ _ _ (by intro e;rw[e]at hp;simp only at hp;omega)
 exact⟨g,o,a,l,by simpa using k,(Hf _).trans x,(Hf _).trans y,(Hf _).trans z⟩
def jM (r:PR) (m o i l:Value):Value:=
 .agg #[.int .i64 r.kind,.int .i64 r.kids,.string r.op,.string r.text,m,.string r.bU,.string r.step,.string r.off,.string r.tim,.bool r.bool,.bool r.given,.bool r.on,o,.int .i64 r.card,i,.bool r.without,l]
def et (r:PR) (m o i l:Value):Array Value:=#[.int .i64 r.kind,.int .i64 r.kids,.string r.op,.string r.text,m,.string r.bU,.string r.step,.string r.off,.string r.tim,.bool r.bool,.bool r.given,.bool r.on,o,.int .i64 r.card,i,.bool r.without,l]
theorem aI {r:PR} {o i l:Value} (h:aM W g t A) (e:A=et r m o i l):
  W.cell? ⟨g,0,none⟩=some (.int .i64 r.kind)∧W.cell? ⟨g,1,none⟩=some (.int .i64 r.kids)∧W.cell? ⟨g,2,none⟩=some (.string r.op)∧W.cell? ⟨g,3,none⟩=some (.string r.text)∧W.cell? ⟨g,4,none⟩=some m∧W.cell? ⟨g,5,none⟩=some (.string r.bU)∧W.cell? ⟨g,6,none⟩=some (.string r.step)∧W.cell? ⟨g,7,none⟩=some (.string r.off)∧W.cell? ⟨g,8,none⟩=some (.string r.tim)∧W.cell? ⟨g,9,none⟩=some (.bool r.bool)∧W.cell? ⟨g,10,none⟩=some (.bool r.given)∧W.cell? ⟨g,11,none⟩=some (.bool r.on)∧W.cell? ⟨g,12,none⟩=some o∧W.cell? ⟨g,13,none⟩=some (.int .i64 r.card)∧W.cell? ⟨g,14,none⟩=some i∧W.cell? ⟨g,15,none⟩=some (.bool r.without)∧W.cell? ⟨g,16,none⟩=some l:=by
 subst e;exact⟨h.cell 0,h.cell 1,h.cell 2,h.cell 3,h.cell 4,h.cell 5,h.cell 6,h.cell 7,h.cell 8,h.cell 9,h.cell 10,h.cell 11,h.cell 12,h.cell 13,h.cell 14,h.cell 15,h.cell 16⟩
def nc (r:PR) (m o i l:Value):List Value:=
 [.int .i64 r.kind,.int .i64 r.kids,.string r.op,.string r.text,m,.string r.bU,.string r.step,.string r.off,.string r.tim,.bool r.bool,.bool r.given,.bool r.on,o,.int .i64 r.card,i,.bool r.without,l]
def bA (b:Nat) (w:World) (r:PR) (m o i l:Value):Prop:=fV b w m r.ms∧cO b w o r.mls∧cO b w i r.inc∧cO b w l r.labels
theorem bA.below {b:Nat} {w w':World} {r:PR} {m o i l:Value} (h:bA b w r m o i l) (hb:Below w.heap.size w w'):bA b w' r m o i l:=
 ⟨h.1.below hb,h.2.1.below hb,h.2.2.1.below hb,h.2.2.2.below hb⟩
theorem bA.lo {b b':Nat} {w:World} {r:PR} {m o i l:Value} (h:bA b w r m o i l) (hb:b'≤b):bA b' w r m o i l:=
 ⟨h.1.lo hb,h.2.1.lo hb,h.2.2.1.lo hb,h.2.2.2.lo hb⟩
def jr (b:Nat) (w:World) (v:Value) (rs:List PR):Prop:=
 ∃ao c,v= .slice ao rs.length c∧ ∀j (h:j<rs.length),∃g o,ao=some ⟨g,o,none⟩∧b≤g∧g<w.heap.size∧ ∃vm vo vi vl,bA b w rs[j] vm vo vi vl∧ ∀k (hk:k<17),w.cell? ⟨g,o+j*17+k,none⟩=some ((nc rs[j] vm vo vi vl)[k]'(by simp[nc];omega))
theorem jr.below {b:Nat} {w w':World} {v:Value} {rs:List PR} (h:jr b w v rs) (hb:Below w.heap.size w w'):jr b w' v rs:=by
 obtain⟨ao,c,h1,h2⟩:=h;refine⟨ao,c,h1,fun j hj=>?_⟩;obtain⟨g,o,a,l,u,vm,vo,vi,vl,x,y⟩:=h2 j hj;exact⟨g,o,a,l,iv u hb.size,vm,vo,vi,vl,x.below hb,fun k hk=>(hb.cell (p:=⟨g,_,none⟩) u).trans (y k hk)⟩
theorem jr.lo {b b':Nat} {w:World} {v:Value} {rs:List PR} (h:jr b w v rs) (hb:b'≤b):jr b' w v rs:=by
 obtain⟨ao,c,h1,h2⟩:=h;refine⟨ao,c,h1,fun j hj=>?_⟩;obtain⟨g,o,a,l,u,vm,vo,vi,vl,x,y⟩:=h2 j hj;exact⟨g,o,a,bR hb l,u,vm,vo,vi,vl,x.lo hb,y⟩
theorem Bt:(prog.info? 5).map (fun i=>(i.zero,i.size,i.bytes))=some (some (.int .u8 0),1,1):=by kernel_rfl
theorem xC (c:UInt8) (w:World):
  Calls prog 95 #[.int .u8 (c.toNat:Int)] w fun e w'=>e= .returned (.bool (digit c))∧w=w':=by
 go_enter func95,ntmps95;go_wp2
 all_goals (go_ret;exact⟨ar (by rw[eo];simp[digit];omega),rfl⟩)
theorem uj (c:UInt8) (w:World):
  Calls prog 93 #[.int .u8 (c.toNat:Int)] w fun e w'=>e= .returned (.bool (letter c))∧w=w':=by
 have hc:c.toNat<95∨c.toNat=95∨95<c.toNat:=by omega
 rcases hc with hc|hc|hc
 all_goals
  first|(have h1:95≤c.toNat∧c.toNat≤95:=by omega)|skip
  first|clear hc|skip
  go_enter func93,ntmps93;go_wp2
  all_goals (go_ret;exact⟨ar (by rw[eo];simp[letter];omega),rfl⟩)
theorem abD (s:ByteArray) (i:Nat) (w:World) (_hs:s.size≤maxLen):
  Calls prog 96 #[.string s,.int .i64 (i:Int)] w fun e w'=>e= .returned (.int .u8 ((au s.data.toList i).toNat:Int))∧w=w':=by
 by_cases h:i<s.size
 ·have ha:=ae (ay h);go_enter func96,ntmps96;go_wp2_with fail;go_ret;exact⟨aH (by rw[ha.out]),rfl⟩
 ·have ha:=ae (Bm (l:=s.data.toList) (i:=i) (by rw[af];omega));go_enter func96,ntmps96;go_wp2_with fail;go_ret;exact⟨aH (by rw[ha.out];rfl),rfl⟩
theorem yN (s:ByteArray) (w:World) (hs:s.size≤maxLen):
  Calls prog 75 #[.string s] w fun e w'=>e= .returned (.bool (dM s.data.toList))∧w=w':=by
 unfold maxLen at hs;have h0:u7 false s.data.toList 0=dM s.data.toList:=rfl;have H0:=ae h0;clear h0;go_enter func75,ntmps75;go_wp2_with fail;go_loop [3] (fun t=> ∃k:Nat,k≤s.size∧t= .int .i64 k∧Hid (u7 false s.data.toList k=dM s.data.toList)) (fun t=>s.size-(intOf t).toNat)
 case atStart=>exact⟨0,aV _,rfl,H0.out⟩
 case round=>
  obtain⟨k,hk,rfl,gM⟩:=hrel;clear H0;by_cases aA:k<s.size
  ·by_cases lK:k=0
   ·subst lK;cases hl:letter s[0]
    all_goals
     go_wp2_with (first|(go_at_call 93;refine(uj _ _).mono ?_;rintro e w' ⟨rfl,rfl⟩)|(go_at_call 95;refine(xC _ _).mono ?_;rintro e w' ⟨rfl,rfl⟩))
    ·go_ret;exact⟨ar (by rw[←gM.out,Ey aA hl (by simp) (.inl rfl)]),rfl⟩
    ·go_round
     case rel=>exact⟨1,by omega,by go_num,(su aA (.inl hl)).trans gM.out⟩
     case measure=>simp[intOf];omega
   ·have hkp:1≤k:=by omega
    have HK:=ae lK;clear lK;cases hl:letter s[k]<;>cases hd:digit s[k]
    all_goals
     go_wp2_with (first|(go_at_call 93;refine(uj _ _).mono ?_;rintro e w' ⟨rfl,rfl⟩)|(go_at_call 95;refine(xC _ _).mono ?_;rintro e w' ⟨rfl,rfl⟩))
    ·go_ret;exact⟨ar (by rw[←gM.out,Ey aA hl (by simp) (.inr hd)]),rfl⟩
    ·go_round
     case rel=>exact⟨k+1,by omega,by go_num,(su aA (.inr (.inr ⟨HK.out,hd⟩))).trans gM.out⟩
     case measure=>simp[intOf];omega
    ·go_round
     case rel=>exact⟨k+1,by omega,by go_num,(su aA (.inl hl)).trans gM.out⟩
     case measure=>simp[intOf];omega
    ·go_round
     case rel=>exact⟨k+1,by omega,by go_num,(su aA (.inl hl)).trans gM.out⟩
     case measure=>simp[intOf];omega
  ·go_wp2_with fail;go_ret;exact⟨ar (by rw[←gM.out,Um (by rw[af];omega),nM];first|done|(cases s.data.toList<;>rfl)),rfl⟩
theorem EA (s:ByteArray) (w:World) (hs:s.size≤maxLen) (uP:s.size≤281474976710656):
  Calls prog 100 #[.string s] w fun e w'=>e= .returned (.string ⟨(s.data.toList.map low).toArray⟩)∧Below w.heap.size w w':=by
 have Wn:=hs;unfold maxLen at Wn;obtain⟨i0,s9,Dg,de,ej⟩:=lF Bt;go_enter func100,ntmps100;go_wp2_with (at_make;refine wpList_make_own _ rfl (.const (.int .i64 0)) (.tmp 7) 147 rfl w.heap.size 5 i0 (.int .u8 0) 1 underlying147 s9 Dg de _ _ _ s.size rfl rfl rfl (by rw[ej];omega) hs (aS _) ?_);intro w1 mA hgr1;have tA:Below w.heap.size w w1:=(aU _ _).grown hgr1 (aS _) (by simp);have XK:w.heap.size<w1.heap.size:=(mA.lt w.heap.size rfl).2;go_wp2_with fail;go_loopw [3,4] (fun v i wr=> ∃k:Nat,k≤s.size∧i= .int .i64 k∧v= .slice (some ⟨w.heap.size,0,none⟩) k s.size∧wr.ownsRow w.heap.size 5 1 (.slice (some ⟨w.heap.size,0,none⟩) k s.size) k (cellsOf (rn s.data.toList k))∧Below w.heap.size w wr∧w.heap.size<wr.heap.size) (fun _ i _=>s.size-(intOf i).toNat)
 case atStart=>exact⟨0,aV _,rfl,rfl,mA,tA,XK⟩
 case round=>
  obtain⟨k,hk,rfl,rfl,aP,bO,iI⟩:=hrel;clear mA hgr1 tA XK;by_cases aA:k<s.size
  ·have qJ:k<s.data.toList.length:=by rw[af];exact aA
   have htk:cellsOf (rn s.data.toList (k+1))=cellsOf (rn s.data.toList k)++[.int .u8 ((low s[k]).toNat:Int)]:=by
    rw[JN _ _ qJ,gl,fP];rfl
   have HT:=ae htk;clear htk;by_cases RN:65≤s[k].toNat∧s[k].toNat≤90
   ·have HU:=ae (TJ _ RN);obtain⟨RO,KT⟩:=RN;go_wp2_with (at_builtin;refine oV rfl (.tmp 26) (.tmp 28) 147 rfl w.heap.size 5 (.int .u8 0) 1 1 Bt underlying147 w.heap.size k s.size _ rfl aP [.int .u8 ((s[k].toNat:Int)+32)] rfl rfl (zL rfl) (by omega) ?_);intro w2 kM pb;have HO:=ae kM;have HB:=ae (bO.grown pb (jk iI) (by intro g hg;cases hg;exact aS _));have ab0:=iv iI pb.size;clear kM pb aP bO;go_wp2_with fail;go_roundw
    case rel=>exact⟨k+1,by omega,by go_num,rfl,by rw[HT.out,HU.out];exact HO.out,HB.out,ab0⟩
    case measure=>simp[intOf];omega
   ·have HU:=ae (TK _ RN);rcases(show s[k].toNat<65∨(65≤s[k].toNat∧90<s[k].toNat)from by omega)with hu|⟨RO,KT⟩
    all_goals
     go_wp2_with (at_builtin;refine oV rfl (.tmp 26) (.tmp 28) 147 rfl w.heap.size 5 (.int .u8 0) 1 1 Bt underlying147 w.heap.size k s.size _ rfl aP [.int .u8 (s[k].toNat:Int)] rfl rfl (zL rfl) (by omega) ?_);intro w2 kM pb;have HO:=ae kM;have HB:=ae (bO.grown pb (jk iI) (by intro g hg;cases hg;exact aS _));have ab0:=iv iI pb.size;clear kM pb aP bO;go_wp2_with fail;go_roundw
     case rel=>exact⟨k+1,by omega,by go_num,rfl,by rw[HT.out,HU.out];exact HO.out,HB.out,ab0⟩
     case measure=>simp[intOf];omega
  ·have uT:rn s.data.toList k=s.data.toList.map low:=by rw[rn,Dq (by rw[af];omega)]
   have hlk:k=(s.data.toList.map low).length:=by rw[ln,af];omega
   rw[uT]at aP;have II:=nW (P:=prog) (rU aP) 147 9 5 k s.size hlk underlying147 underlying5 underlying9;have HB:=ae bO;clear uT hlk aP bO;go_wp2_with fail;go_ret;exact⟨rfl,HB.out⟩
theorem Up (s:ByteArray) (w:World) (hs:s.size≤maxLen):
  Calls prog 74 #[.string s] w fun e w'=>e= .returned (.tuple #[.string (kr s.data.toList),.bool (word s.data.toList)])∧Below w.heap.size w w':=by
 have Wn:=hs;unfold maxLen at Wn;by_cases h12:20<s.size
 ·have hw:word s.data.toList=false:=Ex (by rw[af];omega);have AD:kr s.data.toList=⟨#[]⟩:=by simp[kr,hw]
  rw[hw,AD];clear hw AD;go_enter func74,ntmps74;go_wp2_with fail;go_ret2;exact⟨rfl,aU _ _⟩
 ·have hwo:kr s.data.toList=(if xh (s.data.toList.map low)then⟨(s.data.toList.map low).toArray⟩else⟨#[]⟩):=rfl;have hw:word s.data.toList=xh (s.data.toList.map low):=rfl;go_enter func74,ntmps74;have HO:=ae hwo;have HW:=ae hw;clear hwo hw;go_wp2_with fail;refine(EA s _ hs (by omega)).mono ?_;rintro e w1 ⟨rfl,hb⟩;generalize s.data.toList.map low=L at HO HW ⊢
  have HB:=ae hb;clear hb;cases hk:xh L
  ·have bW: ∀k,k∈Wm→(L==k)=false:=by
    intro k Ph;cases hb:L==k
    ·rfl
    ·have:L=k:=by simpa using hb
     subst this;simp[xh]at hk;exact absurd Ph hk
   simp only[Wm,gL,ll,iX,yu,forall_eq]at bW;obtain⟨h1,h2,h3,h4,h5,h6,h7,h8,h9,Hg,h11,h12,h13,h14,h15,h16,h17,h18,h19,h20,h21,h22,h23⟩:=bW;have HK:=ae hk;clear hk;go_wp2_with fail;go_ret2;exact⟨F0 (by rw[HO.out,HK.out];rfl) (by rw[HW.out,HK.out]),HB.out⟩
  ·have hm:L∈Wm:=by simpa [xh]using hk
   simp only[Wm,gL,ll,iX]at hm;have HK:=ae hk;clear hk;rcases hm with rfl|rfl|rfl|rfl|rfl|rfl|rfl|rfl|rfl|rfl|rfl|rfl|rfl|rfl|rfl|rfl|rfl|rfl|rfl|rfl|rfl|rfl|rfl
   all_goals
    go_wp2_with fail;go_ret2;exact⟨F0 (by rw[HO.out,HK.out];rfl) (by rw[HW.out,HK.out]),HB.out⟩
def AM (b:Bool) (k:Int):Int:=if b=true then k else 0
theorem Yd (w:World) (b:Bool) (k:Int):Calls prog 71 #[.bool b,.int .i64 k] w fun e w'=>e= .returned (.int .i64 (AM b k))∧w=w':=by
 cases b
 all_goals
  go_enter func71,ntmps71;go_wp2_with fail;go_ret;exact⟨rfl,rfl⟩
theorem jG (Pj:o.guard=none) (ty:TypeId) (x:Operand) (ho:o.op= .box ty x)
  (cs:Array Value) (hx:a.eval x= .agg cs) (hc: ∀u∈cs.toList,u.oneCell'=true)
  (h: ∀W,aM W w.heap.size ty cs→Below w.heap.size w W→W.heap.size=w.heap.size+1→wpList P ops Q rest (a.put o.dst (.pointer (some ⟨w.heap.size,0,none⟩))) W):wpList P ops Q (o::rest) a w:=by
 refine wpList_plain Pj fun K hK=>?_
 have hn:=h (w.alloc (.cells cs ty)) (aM.new w ty cs) ((aU _ w).alloc (aS _) _) (by simp);unfold Oper.wp execOp;simp only[ho,hx,vy,yA,AZ];simp[go_sem,Value.cells];exact hK _ _ hn
def jz (ops : Array Oper) : List Oper → Act → Option Act
  | [], a => some a
  | o :: rest, a =>
    bif Region.wanted o (yielded ops a.tmps) then
      match o.op with
      | .move x => jz ops rest (a.put o.dst (a.eval x))
      | .assign x => jz ops rest (a.put o.dst (a.eval x))
      | .pick c t f =>
        match a.eval c with
        | .bool b => jz ops rest (a.put o.dst (bif b then a.eval t else a.eval f))
        | _ => none
      | _ => none
    else jz ops rest (a.put o.dst undef)
theorem put_defers (a:Act) (d:Option Tmp) (v:Value):(a.put d v).defers=a.defers:=by cases d<;>rfl
theorem gu {P : Program} {ops : Array Oper} {Q : Exit → Act → World → Prop} {w : World} : ∀ (rest : List Oper) (a a' : Act), jz ops rest a = some a' → (a'.defers = a.defers → Q .normal a' w) → wpList P ops Q rest a w
  | [], a, a', h, hQ => by
    simp only[jz,yp]at h
    subst h
    exact hQ rfl
  | o :: rest, a, a', h, hQ => by
    rw[jz]at h
    cases hw:Region.wanted o (yielded ops a.tmps)with
    | false =>
      rw[hw,cond_false]at h
      exact wpList_skip hw (gu rest _ a' h fun e=>hQ (by rw[e,put_defers]))
    | true =>
      rw[hw,cond_true]at h
      refine wpList_step fun K hK=>?_
      rw[az hw]
      split at h
      · rename_i x ho
        have:=hK _ w (gu rest _ a' h fun e=>hQ (by rw[e,put_defers]))
        unfold Oper.wp execOp
        simp only[ho]
        simpa [go_sem]using this
      · rename_i x ho
        have:=hK _ w (gu rest _ a' h fun e=>hQ (by rw[e,put_defers]))
        unfold Oper.wp execOp
        simp only[ho]
        simpa [go_sem]using this
      · rename_i c t f ho
        split at h
        · rename_i b hb
          have:=hK _ w (gu rest _ a' h fun e=>hQ (by rw[e,put_defers]))
          unfold Oper.wp execOp
          simp only[ho,hb]
          cases b
          · simpa [go_sem] using this
          · simpa [go_sem] using this
        · cases h
      · cases h
theorem bq (r:Nat) (v:Value)
  (_hw:Region.wanted o (yielded ops a.tmps)=false) (h:(jz ops (o::rest) a).map (fun a'=>a'.tmps.getD r undef)=some v)
  (hQ: ∀a',a'.tmps.getD r undef=v→a'.defers=a.defers→Q .normal a' w):wpList P ops Q (o::rest) a w:=by
 cases hs:jz ops (o::rest) a with
 |none=>rw[hs]at h;cases h
 |some a'=>
  rw[hs]at h;injection h with h
  exact gu _ _ a' hs fun e=>hQ a' h e
