import Derived.WalkKit
import Derived.WalkSpells
import Derived.WalkLawsBesides
import Derived.Lib.Hide
/- Part of the proof of YtibcjfjacielbaaGreatDoorCardP: Mem PlA. -/
set_option maxRecDepth 100000
set_option maxHeartbeats 4000000
set_option linter.unusedVariables false
set_option linter.unusedSimpArgs false
namespace Go.Proofs.YtibcjfjacielbaaGreatDoor
open Go.RowKit
theorem ret_bool {a b:Bool} (h:a=b):Ending.returned (.bool a)= .returned (.bool b):=by rw[h]
theorem ret_int {k:IntKind} {a b:Int} (h:a=b):Ending.returned (.int k a)= .returned (.int k b):=by rw[h]
theorem ret_str {a b:ByteArray} (h:a=b):Ending.returned (.string a)= .returned (.string b):=by rw[h]
theorem gl (s:ByteArray) (k:Nat) (h:k<s.data.toList.length):s.data.toList[k]=s[k]'(by simpa using h):=by simp[ByteArray.getElem_eq_getElem_data]
theorem len_data (s:ByteArray):s.data.toList.length=s.size:=by simp
theorem mk_data (s:ByteArray):(⟨s.data.toList.toArray⟩:ByteArray)=s:=by cases s;simp
def BytesAt (w:World) (g:Nat) (l:List UInt8):Prop:=
 ∀j (hj:j<l.length),w.cell? ⟨g,j,none⟩=some (.int .u8 (l[j].toNat:Int))∧w.frozen? ⟨g,j,none⟩=false
theorem BytesAt.cell {w:World} {g:Nat} {l:List UInt8} (h:BytesAt w g l) {j:Nat} (hj:j<l.length):w.cell? ⟨g,j,none⟩=some (.int .u8 (l[j].toNat:Int)):=(h j hj).1
theorem BytesAt.free {w:World} {g:Nat} {l:List UInt8} (h:BytesAt w g l) {j:Nat} (hj:j<l.length):w.frozen? ⟨g,j,none⟩=false:=(h j hj).2
theorem BytesAt.set_ {w:World} {g:Nat} {l:List UInt8} (h:BytesAt w g l) {k:Nat} (hk:k<l.length) (c:UInt8):BytesAt (w.setCell ⟨g,k,none⟩ (.int .u8 (c.toNat:Int))) g (l.set k c):=by
 intro j hj;refine⟨?_,(World.frozen?_setCell _ _ _ _).trans (h j (by simpa using hj)).2⟩;by_cases e:j=k
 ·subst e;rw[World.cell?_setCell_same _ _ _ (h j (by simpa using hj)).1];simp
 ·rw[World.cell?_setCell_other _ _ _ _ (by simp),(h j (by simpa using hj)).1];rw[List.getElem_set_ne (Ne.symm e)]
theorem wpList_bytes_of_string {P:Program} {w:World} {ops:Array Oper} {rest:List Oper} {o:Oper} {a:Act} {Q:Exit→Act→World→Prop}
  (hg:o.guard=none) (x:Operand) (src dst e:TypeId) (hop:o.op=Op.convert src dst x) (s:ByteArray) (hx:a.eval x= .string s)
  (hs:P.underlying src=some .string) (hd:P.underlying dst=some (.slice e)) (he:P.underlying e=some (.int .u8))
  (hK: ∀cap w',s.size≤cap→BytesAt w' w.heap.size s.data.toList→Below w.heap.size w w'→w.heap.size<w'.heap.size→wpList P ops Q rest (a.put o.dst (.slice (some ⟨w.heap.size,0,none⟩) s.size cap)) w'):
  wpList P ops Q (o::rest) a w:=by
 refine wpList_plain hg fun K hK'=>?_
 have hrun:=run_bytes_of_string (P:=P) w src dst e s hs hd he;unfold Oper.wp;simp only[execOp,hop,hx,Sem.run_bind,hrun,Result.andThen_ok,Sem.run_pure];refine hK' _ _ (hK _ _ (grownCap_ge w s.size 0 e) ?_ ((Below.refl _ _).drew.alloc (Nat.le_refl _) _) (by simp));intro j hj;have hj':j<s.data.size:=by simpa using hj
 refine⟨?_,?_⟩
 ·rw[show w.heap.size=w.drew.heap.size from rfl,World.cell?_alloc_mark,bytesRow_at s _ j hj'];simp
 ·rw[show w.heap.size=w.drew.heap.size from rfl,World.frozen?_alloc_mark];have h2:s.data.size=s.size:=rfl;have:j<(bytesRow s (grownCap w s.size 0 e)).size:=by simp[bytesRow];omega
  simp;omega
theorem run_string_of {P:Program} {w:World} {g:Nat} {l:List UInt8} (h:BytesAt w g l) (src dst e:TypeId) (n cap:Nat) (hn:n=l.length) (hs:P.underlying src=some (.slice e)) (he:P.underlying e=some (.int .u8)) (hd:P.underlying dst=some .string):
  (convert src dst (.slice (some ⟨g,0,none⟩) n cap)).run P w= .ok (.string ⟨l.toArray⟩) w:=by
 subst hn;refine run_convert_bytes_back w src dst e _ cap l hs he hd fun j hj=>?_
 rw[Addr.add_lit,Nat.zero_add];exact(h j hj).1
def Blk (w:World) (g:Nat) (t:TypeId) (cs:Array Value):Prop:=w.heap[g]? =some (.cells cs t (0,0))
section
variable {w w':World} {g:Nat} {t:TypeId} {cs:Array Value}
theorem Blk.lt (h:Blk w g t cs):g<w.heap.size:=by
 rcases Nat.lt_or_ge g w.heap.size with hlt|hge
 ·exact hlt
 ·unfold Blk at h;rw[Array.getElem?_eq_none hge]at h;cases h
theorem Blk.cell (h:Blk w g t cs) (i:Nat):w.cell? ⟨g,i,none⟩=cs[i]? :=cell_of_row w g i cs t (0,0) h
theorem Blk.frozen (h:Blk w g t cs) (i:Nat):w.frozen? ⟨g,i,none⟩=false:=by
 unfold Blk at h;simp[World.frozen?,h]
theorem Blk.new (w:World) (t:TypeId) (cs:Array Value):Blk (w.alloc (.cells cs t)) w.heap.size t cs:=heap_alloc_new w _
theorem Blk.drew (h:Blk w g t cs):Blk w.drew g t cs:=h
theorem Blk.drewN (h:Blk w g t cs) (n:Nat):Blk (w.drewN n) g t cs:=h
theorem Blk.alloc (h:Blk w g t cs) (o:Obj):Blk (w.alloc o) g t cs:=(Below.heap_alloc w o g h.lt).trans h
theorem Blk.set_ (h:Blk w g t cs) (i:Nat) (u:Value):Blk (w.setCell ⟨g,i,none⟩ u) g t (cs.setIfInBounds i u):=by
 unfold Blk at h ⊢
 simp[World.setCell,Array.getElem?_modify,h]
theorem Blk.far (h:Blk w g t cs) {p:Addr} (hp:g≠p.block) (u:Value):Blk (w.setCell p u) g t cs:=(Below.heap_setCell w p u g hp).trans h
theorem Blk.below {B:Nat} (h:Blk w g t cs) (hb:Below B w w') (hg:g<B):Blk w' g t cs:=(hb.block g hg).trans h
theorem Blk.grown {row:Option Nat} (h:Blk w g t cs) (hb:w.grownBy w' row) (hg:some g≠row):Blk w' g t cs:=(hb.block g h.lt hg).trans h
theorem Blk.ne_ {g':Nat} {t':TypeId} {cs':Array Value} (h:Blk w g t cs) (h':Blk w g' t' cs') (hne:t≠t'):g≠g':=by
 rintro rfl;unfold Blk at h h';rw[h]at h';injection h' with h'
 injection h' with _ ht
 exact hne ht
theorem own_blk_ne {base:Nat} {e:TypeId} {size n:Nat} {v:Value} {xs:List Value} (h:w.ownsRow base e size v n xs) (hg:Blk w g t cs) (hne:e≠t):v.ownBlock≠some g:=by
 rcases h.2 with⟨rfl,_⟩|⟨g',cap,cur,rfl,_,hh,_⟩
 ·simp[Value.ownBlock]
 ·intro he;have:g'=g:=by simpa [Value.ownBlock]using he
  subst this;exact Blk.ne_ (t:=e) hh hg hne rfl
end
theorem grow_trans {w0 w w':World} {row:Option Nat} (h:w0.grownBy w row) (h':w.grownBy w' row):w0.grownBy w' row:=
 ⟨h'.os.trans h.os,h'.tape.trans h.tape,h'.output.trans h.output,Nat.le_trans h.size h'.size,fun k hk hne=>(h'.block k (Nat.lt_of_lt_of_le hk h.size) hne).trans (h.block k hk hne)⟩
theorem wpList_push {P:Program} {w0:World} {ops:Array Oper} {rest:List Oper} {o:Oper} {a:Act} {Q:Exit→Act→World→Prop}
  (hg:o.guard=none) (s x:Operand) (t:TypeId) (hop:o.op=Op.call {callee:=Callee.builtin Builtin.append,args:=#[s,x],argTypes:=#[t,t]})
  (base:Nat) (e:TypeId) (z:Value) (size bytes:Nat) (hinfo:(P.info? e).map (fun i=>(i.zero,i.size,i.bytes))=some (some z,size,bytes)) (h1:P.underlying t=some (.slice e)) (hzs:z.cells.size=size) (hsz:0<size)
  (v:Value) (n:Nat) (xs:List Value) (hs:a.eval s=v) (hown:w0.ownsRow base e size v n xs) (us:List Value) (hus:us.length=size)
  (hx:a.eval x= .slice (some ⟨w0.heap.size,0,none⟩) 1 1) (h1c: ∀u∈us,u.oneCell'=true) (hmax:n+1≤maxLen) (hb:(n+1)*bytes≤140737488355328) (hbase:base≤w0.heap.size)
  (hK: ∀v' w',w'.ownsRow base e size v' (n+1) (xs++us)→w0.grownBy w' v.ownBlock→wpList P ops Q rest (a.put o.dst v') w'):
  wpList P ops Q (o::rest) a (w0.alloc (.cells us.toArray e)):=by
 obtain⟨i,hi,hz,hsi,hby⟩:=info_parts hinfo;refine wpList_append_own _ hg s x t hop base e i z size bytes h1 hi hz hsi hby hzs hsz v n xs hs (hown.alloc _) ⟨w0.heap.size,0,none⟩ 1 1 us hx (by omega) ?_ h1c hmax hb (by simp;omega) ?_
 ·intro j u hu;have hj:j<us.length:=(List.getElem?_eq_some_iff.1 hu).1;rw[Addr.add_lit,Nat.zero_add,World.cell?_alloc_at _ _ _ _ rfl];simpa using hu
 ·intro v' w' ho hgr _;exact hK v' w' ho (grow_trans (World.grownBy_alloc w0 _ _) hgr)
theorem one1 {u:Value} (h:u.oneCell'=true): ∀x∈[u],x.oneCell'=true:=by intro x hx;simp at hx;subst hx;exact h
def cellsOf (l:List UInt8):List Value:=l.map fun c=>.int .u8 (c.toNat:Int)
theorem cellsOf_append (l m:List UInt8):cellsOf (l++m)=cellsOf l++cellsOf m:=by simp[cellsOf]
theorem bytesAt_of_own {w:World} {base:Nat} {e:TypeId} {g n cap:Nat} {l:List UInt8} (h:w.ownsRow base e 1 (.slice (some ⟨g,0,none⟩) n cap) n (cellsOf l)):BytesAt w g l:=by
 have hn:l.length=n:=by have:=h.1;simpa [cellsOf]using this
 intro j hj;refine⟨?_,h.frozenAt j⟩;rw[h.cellAt j (by omega)];simp[cellsOf,hj]
theorem grown_below {w w':World} (h:Below w.heap.size w w') (row:Option Nat):w.grownBy w' row:=⟨h.os,h.tape,h.output,h.size,fun i hi _=>h.block i hi⟩
theorem own_setBlk {w:World} {base:Nat} {e t:TypeId} {size n:Nat} {v:Value} {xs:List Value} {p i:Nat} {cs:Array Value} (h:w.ownsRow base e size v n xs) (hp:Blk w p t cs) (hne:e≠t) (u:Value):(w.setCell ⟨p,i,none⟩ u).ownsRow base e size v n xs:=by
 refine⟨h.1,?_⟩;rcases h.2 with hn|⟨g,cap,cur,rfl,h1,h2,h3,h4,h5,h6⟩
 ·exact .inl hn
 ·refine .inr ⟨g,cap,cur,rfl,h1,?_,h3,h4,h5,h6⟩;have hne2:g≠p:=Blk.ne_ (t:=e) h2 hp hne;exact(Below.heap_setCell w ⟨p,i,none⟩ u g hne2).trans h2
theorem own_belowE {w w':World} {base:Nat} {e:TypeId} {size:Nat} {v:Value} {k:Nat} {xs:List Value} (h:w.ownsRow base e size v k xs) (hb:Below w.heap.size w w'):w'.ownsRow base e size v k xs:=
 h.kept (grown_below hb none) (by cases v.ownBlock<;>simp)
theorem own_mono {w:World} {b b':Nat} {e:TypeId} {size n:Nat} {v:Value} {xs:List Value} (h:w.ownsRow b e size v n xs) (hb:b'≤b):w.ownsRow b' e size v n xs:=by
 refine⟨h.1,?_⟩;rcases h.2 with hn|⟨g,cap,cur,rfl,h1,h2⟩
 ·exact .inl hn
 ·exact .inr ⟨g,cap,cur,rfl,Nat.le_trans hb h1,h2⟩
def letter (c:UInt8):Bool:=(97≤c.toNat&&c.toNat≤122)||(65≤c.toNat&&c.toNat≤90)||c.toNat==95
def digit (c:UInt8):Bool:=48≤c.toNat&&c.toNat≤57
def nameCh (colons:Bool) (c:UInt8):Bool:=letter c||digit c||(colons&&c.toNat==58)
def low (c:UInt8):UInt8:=if 65≤c.toNat∧c.toNat≤90 then c+32 else c
def lowTo (l:List UInt8) (k:Nat):List UInt8:=(l.take k).map low++l.drop k
theorem lowTo_zero (l:List UInt8):lowTo l 0=l:=by simp[lowTo]
theorem lowTo_all (l:List UInt8) {k:Nat} (h:l.length≤k):lowTo l k=l.map low:=by
 simp[lowTo,List.take_of_length_le h,List.drop_eq_nil_of_le h]
theorem lowTo_len (l:List UInt8) (k:Nat):(lowTo l k).length=l.length:=by simp[lowTo];omega
theorem lowTo_at (l:List UInt8) (k:Nat) (h:k<l.length):(lowTo l k)[k]'(by rw[lowTo_len];exact h)=l[k]:=by
 simp only[lowTo];rw[List.getElem_append_right (by simp;omega)];simp[Nat.min_eq_left (Nat.le_of_lt h)]
theorem lowTo_succ (l:List UInt8) (k:Nat) (h:k<l.length):lowTo l (k+1)=(lowTo l k).set k (low l[k]):=by
 have h0:k-((l.take k).map low).length=0:=by simp;omega
 have h1:(l.drop k).set 0 (low l[k])=low l[k]::l.drop (k+1):=by rw[List.drop_eq_getElem_cons h];rfl
 unfold lowTo;rw[List.set_append_right _ _ (by simp;omega),h0,h1,List.take_succ_eq_append_getElem h,List.map_append,List.append_assoc];rfl
theorem lowTo_same (l:List UInt8) (k:Nat) (h:k<l.length) (hl:low l[k]=l[k]):lowTo l (k+1)=lowTo l k:=by
 rw[lowTo_succ l k h,hl]
 conv=>lhs;rw[←lowTo_at l k h]
 exact List.set_getElem_self _
theorem low_up (c:UInt8) (h:65≤c.toNat∧c.toNat≤90):((low c).toNat:Int)=(c.toNat:Int)+32:=by
 rw[low,if_pos h,UInt8.toNat_add];simp;omega
theorem low_id (c:UInt8) (h: ¬(65≤c.toNat∧c.toNat≤90)):low c=c:=by rw[low,if_neg h]
def spanEnd (p:UInt8→Bool) (l:List UInt8) (i:Nat):Nat:=i+((l.drop i).takeWhile p).length
theorem spanEnd_step {p:UInt8→Bool} {l:List UInt8} {i:Nat} (h:i<l.length) (hp:p l[i]=true):spanEnd p l (i+1)=spanEnd p l i:=by
 unfold spanEnd;rw[List.drop_eq_getElem_cons h,List.takeWhile_cons,if_pos hp];simp;omega
theorem spanEnd_stop {p:UInt8→Bool} {l:List UInt8} {i:Nat} (h:i<l.length) (hp:p l[i]=false):spanEnd p l i=i:=by
 unfold spanEnd;rw[List.drop_eq_getElem_cons h,List.takeWhile_cons,if_neg (by simp[hp])];simp
theorem spanEnd_end {p:UInt8→Bool} {l:List UInt8} {i:Nat} (h:l.length≤i):spanEnd p l i=i:=by
 unfold spanEnd;rw[List.drop_eq_nil_of_le h];simp
theorem spanEnd_stepB {p:UInt8→Bool} {s:ByteArray} {k:Nat} (h:k<s.size) (hp:p s[k]=true):spanEnd p s.data.toList (k+1)=spanEnd p s.data.toList k:=
 spanEnd_step (by simpa using h) (by rw[gl];exact hp)
theorem spanEnd_stopB {p:UInt8→Bool} {s:ByteArray} {k:Nat} (h:k<s.size) (hp:p s[k]=false):spanEnd p s.data.toList k=k:=
 spanEnd_stop (by simpa using h) (by rw[gl];exact hp)
theorem spanEnd_ge (p:UInt8→Bool) (l:List UInt8) (i:Nat):i≤spanEnd p l i:=by unfold spanEnd;omega
theorem spanEnd_le (p:UInt8→Bool) (l:List UInt8) (i:Nat) (h:i≤l.length):spanEnd p l i≤l.length:=by
 unfold spanEnd;have:=(List.takeWhile_prefix p (l:=l.drop i)).length_le;simp at this;omega
def kws:List (List UInt8):=[[97,110,100],[98,111,111,108],[98,121],[103,114,111,117,112,95,108,101,102,116],[103,114,111,117,112,95,114,105,103,104,116],[105,103,110,111,114,105,110,103],[111,102,102,115,101,116],[111,110],[111,114],[117,110,108,101,115,115],[119,105,116,104,111,117,116],[97,118,103],[98,111,116,116,111,109,107],[99,111,117,110,116],[99,111,117,110,116,95,118,97,108,117,101,115],[103,114,111,117,112],[109,97,120],[109,105,110],[113,117,97,110,116,105,108,101],[115,116,100,100,101,118],[115,116,100,118,97,114],[115,117,109],[116,111,112,107]]
def isKw (l:List UInt8):Bool:=kws.contains l
theorem isKw_len {l:List UInt8} (h:isKw l=true):l.length≤12:=by
 have hall: ∀k∈kws,k.length≤12:=by decide
 exact hall l (by simpa [isKw]using h)
def word (l:List UInt8):Bool:=isKw (l.map low)
theorem word_long {l:List UInt8} (h:12<l.length):word l=false:=by
 cases hw:word l
 ·rfl
 ·have:=isKw_len hw;simp at this;omega
def isLabel (l:List UInt8):Bool:=match l with|[]=>false|c::r=>letter c&&(c::r).all (nameCh false)
theorem takeWhile_len_all (p:UInt8→Bool): ∀l:List UInt8,((l.takeWhile p).length==l.length)=l.all p
 |[]=>rfl
 |c::r=>by
  have ih:=takeWhile_len_all p r;cases hp:p c
  ·simp[hp]
  ·simpa [List.takeWhile_cons,hp]using ih
theorem spanEnd_all (p:UInt8→Bool) (l:List UInt8):(spanEnd p l 0==l.length)=l.all p:=by
 rw[←takeWhile_len_all];simp[spanEnd]
theorem nameCh_letter {col:Bool} {c:UInt8} (h:letter c=true):nameCh col c=true:=by simp[nameCh,h]
def atB (l:List UInt8) (i:Nat):UInt8:=l.getD i 0
theorem atB_lt {s:ByteArray} {i:Nat} (h:i<s.size):atB s.data.toList i=s[i]:=by
 have hk:i<s.data.toList.length:=by rw[len_data];exact h
 rw[←gl s i hk,atB,List.getD_eq_getElem?_getD,List.getElem?_eq_getElem hk];rfl
end Go.Proofs.YtibcjfjacielbaaGreatDoor
