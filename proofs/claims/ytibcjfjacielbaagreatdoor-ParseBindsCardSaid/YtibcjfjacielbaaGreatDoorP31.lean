import Derived.Shelf.SlicesE.Clone
import Derived.Shelf.SlicesQ.Equal
import Derived.Shelf.SlicesQ.IndexFunc
import Derived.Shelf.SlicesE.IndexFunc
import Derived.Test.YtibcjfjacielbaaGreatDoorP05
/- Part of the proof of YtibcjfjacielbaaGreatDoorCardP: ShelfC TrE. -/
set_option maxRecDepth 100000
set_option maxHeartbeats 4000000
set_option linter.unusedVariables false
set_option linter.unusedSimpArgs false
namespace Go.Proofs
open Go.Shelf
def Tryz.cloneM_ren:Go.Shelf.Ren:=⟨fun|41=>104|n=>n,fun|22=>32|23=>38|4=>4|n=>n,fun|n=>n⟩
theorem Tryz.cloneM:Go.Proofs.SlLaysE0.n41 Tryz.prog Tryz.cloneM_ren:={
 mixed:=by kernel_rfl
 f41:=⟨Tryz.f104.name,by decide,Tryz.func104.trans (congrArg some (by kernel_rfl))⟩
 t4:=Tryz.underlying4
 a4:=Tryz.isAgg4
 z4:=Tryz.sizeOf4
 v4:=Tryz.zeroValue4
 t22:=Tryz.underlying32
 a22:=Tryz.isAgg32
 z22:=Tryz.sizeOf32
 v22:=Tryz.zeroValue32}
def Tryz.cloneS_ren:Go.Shelf.Ren:=⟨fun|41=>106|n=>n,fun|22=>22|23=>9|4=>4|n=>n,fun|n=>n⟩
theorem Tryz.cloneS:Go.Proofs.SlLaysE0.n41 Tryz.prog Tryz.cloneS_ren:={
 mixed:=by kernel_rfl
 f41:=⟨Tryz.f106.name,by decide,Tryz.func106.trans (congrArg some (by kernel_rfl))⟩
 t4:=Tryz.underlying4
 a4:=Tryz.isAgg4
 z4:=Tryz.sizeOf4
 v4:=Tryz.zeroValue4
 t22:=Tryz.underlying22
 a22:=Tryz.isAgg22
 z22:=Tryz.sizeOf22
 v22:=Tryz.zeroValue22}
end Go.Proofs
set_option linter.unusedVariables false
set_option linter.unusedSimpArgs false
namespace Go.Proofs.YtibcjfjacielbaaGreatDoor
open Go.RowKit
theorem flat_get {α β:Type} (f:α→List β) (k:Nat) (hk: ∀x,(f x).length=k): ∀(l:List α) (j i:Nat) (hj:j<l.length),i<k→(l.flatMap f)[j*k+i]? =(f l[j])[i]?
 |x::l,0,i,_,hi=>by
  rw[List.flatMap_cons,Nat.zero_mul,Nat.zero_add,List.getElem?_append_left (by rw[hk];exact hi)];rfl
 |x::l,j+1,i,hj,hi=>by
  rw[List.flatMap_cons,Nat.succ_mul,List.getElem?_append_right (by rw[hk];omega),hk,show j*k+k+i-k=j*k+i by omega];exact flat_get f k hk l j i (by simpa using hj) hi
theorem flat_len {α β:Type} (f:α→List β) (k:Nat) (hk: ∀x,(f x).length=k) (l:List α):(l.flatMap f).length=l.length*k:=by
 induction l with
 |nil=>simp
 |cons x l ih=>rw[List.flatMap_cons,List.length_append,hk,ih,List.length_cons,Nat.succ_mul];omega
theorem flat_cells {α:Type} (f:α→List Value) (k:Nat) (hk: ∀x,(f x).length=k) (k0:0<k) (l:List α) (w:World) (g o:Nat) (h: ∀j (hj:j<l.length) i,i<k→w.cell? ⟨g,o+j*k+i,none⟩=(f l[j])[i]?):
  ∀n u,(l.flatMap f)[n]? =some u→w.cell? ⟨g,o+n,none⟩=some u:=fun n u hn=>by
 have hl:=(List.getElem?_eq_some_iff.1 hn).1;rw[flat_len f k hk]at hl;have hj:n/k<l.length:=Nat.div_lt_of_lt_mul (by rw[Nat.mul_comm];exact hl);have hi:n%k<k:=Nat.mod_lt _ k0;have hn2:n/k*k+n%k=n:=by rw[Nat.mul_comm];exact Nat.div_add_mod n k
 have h1:=h (n/k) hj (n%k) hi;have h2:=flat_get f k hk l (n/k) (n%k) hj hi;rw[hn2,hn]at h2;rw[Nat.add_assoc,hn2,←h2]at h1;exact h1
theorem own_flat {α:Type} (f:α→List Value) (k:Nat) (hk: ∀x,(f x).length=k) (l:List α) {w:World} {b:Nat} {e:TypeId} {v:Value} (h:w.ownsRow b e k v l.length (l.flatMap f)):
  ∃ao c,v= .slice ao l.length c∧ ∀j (hj:j<l.length),∃g o,ao=some ⟨g,o,none⟩∧b≤g∧g<w.heap.size∧ ∀i,i<k→w.cell? ⟨g,o+j*k+i,none⟩=(f l[j])[i]? :=by
 obtain⟨_,h⟩:=h;rcases h with⟨rfl,hn⟩|⟨g,cap,cur,rfl,hb,hh,hn,_,hcs,hx⟩
 ·exact⟨none,0,by rw[hn],fun j hj=>absurd hj (by omega)⟩
 ·refine⟨some ⟨g,0,none⟩,cap,rfl,fun j hj=>⟨g,0,rfl,hb,(Array.getElem?_eq_some_iff.1 hh).1,fun i hi=>?_⟩⟩;have h2:=flat_get f k hk l j i hj hi;rw[←hx]at h2;have hlt:j*k+i<l.length*k:=by
   have:=Nat.mul_le_mul_right k (show j+1≤l.length from hj);rw[Nat.succ_mul]at this;omega
  rw[List.getElem?_take_of_lt hlt]at h2;rw[←h2,Nat.zero_add];unfold World.cell?;rw[hh];simp
def matC (m:PM):List Value:=[.string m.name,.int .i64 m.op,.string m.value]
def strC (s:ByteArray):List Value:=[.string s]
theorem MatS.of_own {b:Nat} {w:World} {e:TypeId} {v:Value} {ms:List PM} (h:w.ownsRow b e 3 v ms.length (ms.flatMap matC)):MatS b w v ms:=by
 obtain⟨ao,c,h1,h2⟩:=own_flat matC 3 (fun _=>rfl) ms h;refine⟨ao,c,h1,fun j hj=>?_⟩;obtain⟨g,o,a,l,u,x⟩:=h2 j hj;exact⟨g,o,a,l,u,x 0 (by omega),x 1 (by omega),x 2 (by omega)⟩
theorem StrS.of_own {b:Nat} {w:World} {e:TypeId} {v:Value} {ss:List ByteArray} (h:w.ownsRow b e 1 v ss.length (ss.flatMap strC)):StrS b w v ss:=by
 obtain⟨ao,c,h1,h2⟩:=own_flat strC 1 (fun _=>rfl) ss h;refine⟨ao,c,h1,fun j hj=>?_⟩;obtain⟨g,o,a,l,u,x⟩:=h2 j hj;have:=x 0 (by omega);rw[Nat.mul_one,Nat.add_zero]at this;exact⟨g,o,a,l,u,this⟩
def CloneM (w:World) (ms:List PM) (e:Ending) (w':World):Prop:= ∃v,e= .returned v∧w'.ownsRow w.heap.size 38 3 v ms.length (ms.flatMap matC)∧Below w.heap.size w w'
def CloneS (w:World) (ss:List ByteArray) (e:Ending) (w':World):Prop:= ∃v,e= .returned v∧w'.ownsRow w.heap.size 9 1 v ss.length (ss.flatMap strC)∧Below w.heap.size w w'
theorem info_mat:(Tryz.prog.info? 38).map (fun i=>(i.zero,i.size,i.bytes))=some (some (.agg #[.string ⟨#[]⟩,.int .i64 0,.string ⟨#[]⟩]),3,40):=by kernel_rfl
theorem info_str:(Tryz.prog.info? 9).map (fun i=>(i.zero,i.size,i.bytes))=some (some (.string ⟨#[]⟩),1,16):=by kernel_rfl
theorem clone_mat_zero (a:Addr) (c:Nat) (w:World):Calls Tryz.prog 104 #[.slice (some a) 0 c] w (CloneM w []):=by
 have q: ∀(w:World) (a:Option Addr) (n c n' c':Nat),(binOp .eql 32 (.slice a n c) (.slice none n' c')).run Tryz.prog w= .ok (.bool a.isNone) w:=fun w a n c n' c'=>Lib.run_eql_slice_nil w _ _ a n c n' c' Tryz.underlying32
 obtain⟨i0,hi,hz0,hz1,hz2⟩:=info_parts info_mat;go_enter Tryz.func104,Tryz.ntmps104;go_wp2_with (at_builtin;refine wpList_append_own _ rfl _ _ 32 rfl w.heap.size 38 i0 _ 3 40 Tryz.underlying32 hi hz0 hz1 hz2 rfl (by decide) _ _ _ rfl (World.ownsRow_made w #[] 0 (Nat.le_refl _) (Nat.zero_le _) (by simp)) a 0 c [] rfl ?qc1 ?qc2 ?qc3 ?qc4 ?qc5 ?qc6 ?_)
 case qc1=>rfl
 case qc2=>intro j u hj;simp at hj
 case qc3=>intro u hu;cases hu
 case qc4=>unfold maxLen;omega
 case qc5=>omega
 case qc6=>simp
 intro v' w1 hown hgrow _;go_wp2;go_ret;exact⟨v',rfl,by simpa using hown,((Below.refl _ w).alloc (Nat.le_refl _) _).grown hgrow (by simp) (by intro k hk;simp[Value.ownBlock]at hk;omega)⟩
theorem clone_str_zero (a:Addr) (c:Nat) (w:World):Calls Tryz.prog 106 #[.slice (some a) 0 c] w (CloneS w []):=by
 have q: ∀(w:World) (a:Option Addr) (n c n' c':Nat),(binOp .eql 22 (.slice a n c) (.slice none n' c')).run Tryz.prog w= .ok (.bool a.isNone) w:=fun w a n c n' c'=>Lib.run_eql_slice_nil w _ _ a n c n' c' Tryz.underlying22
 obtain⟨i0,hi,hz0,hz1,hz2⟩:=info_parts info_str;go_enter Tryz.func106,Tryz.ntmps106;go_wp2_with (at_builtin;refine wpList_append_own _ rfl _ _ 22 rfl w.heap.size 9 i0 _ 1 16 Tryz.underlying22 hi hz0 hz1 hz2 rfl (by decide) _ _ _ rfl (World.ownsRow_made w #[] 0 (Nat.le_refl _) (Nat.zero_le _) (by simp)) a 0 c [] rfl ?qc1 ?qc2 ?qc3 ?qc4 ?qc5 ?qc6 ?_)
 case qc1=>rfl
 case qc2=>intro j u hj;simp at hj
 case qc3=>intro u hu;cases hu
 case qc4=>unfold maxLen;omega
 case qc5=>omega
 case qc6=>simp
 intro v' w1 hown hgrow _;go_wp2;go_ret;exact⟨v',rfl,by simpa using hown,((Below.refl _ w).alloc (Nat.le_refl _) _).grown hgrow (by simp) (by intro k hk;simp[Value.ownBlock]at hk;omega)⟩
theorem clone_mat {b:Nat} {w:World} {v:Value} {ms:List PM} (h:MatS b w v ms) (hn:ms.length≤1099511627776):Calls Tryz.prog 104 #[v] w (CloneM w ms):=by
 obtain⟨ao,c,rfl,hc⟩:=h;cases ao with
 |none=>
  have h0:ms=[]:=by
   cases ms with
   |nil=>rfl
   |cons m ms=>obtain⟨g,o,h,_⟩:=hc 0 (by simp);cases h
  subst h0;refine(AnyE.slices_Clone_nil Tryz.cloneM 0 c w).mono ?_;rintro e w' ⟨rfl,rfl⟩;exact⟨_,rfl,World.ownsRow_nil _ _ _ _,Below.refl _ _⟩
 |some a=>
  obtain⟨i0,hi,hz0,hz1,hz2⟩:=info_parts info_mat;rcases Nat.eq_zero_or_pos ms.length with h0|h0
  ·have h1:ms=[]:=List.length_eq_zero_iff.1 h0;subst h1;exact clone_mat_zero a c w
  ·obtain⟨g,o,he,_⟩:=hc 0 h0;obtain rfl:a=⟨g,o,none⟩:=Option.some.inj he;refine(AnyE.slices_Clone Tryz.cloneM i0 _ 3 40 hi hz0 hz1 hz2 rfl (by decide) Tryz.sizeOf38 g o ms.length c (ms.flatMap matC) w (flat_len matC 3 (fun _=>rfl) ms) (by unfold maxLen;omega) (by omega) (flat_cells matC 3 (fun _=>rfl) (by decide) ms w g o fun j hj i hi=>?_) ?_).mono ?_
   ·obtain⟨g',o',he,_,_,x,y,z⟩:=hc j hj;cases he
    match i,hi with
    |0,_=>exact x
    |1,_=>exact y
    |2,_=>exact z
   ·intro u hu;obtain⟨m,_,hm⟩:=List.mem_flatMap.1 hu;simp only[matC,List.mem_cons,List.not_mem_nil,or_false]at hm;rcases hm with rfl|rfl|rfl<;>rfl
   ·rintro e w' ⟨v',rfl,h1,_,h2⟩;exact⟨v',rfl,h1,h2⟩
theorem clone_str {b:Nat} {w:World} {v:Value} {ss:List ByteArray} (h:StrS b w v ss) (hn:ss.length≤1099511627776):Calls Tryz.prog 106 #[v] w (CloneS w ss):=by
 obtain⟨ao,c,rfl,hc⟩:=h;cases ao with
 |none=>
  have h0:ss=[]:=by
   cases ss with
   |nil=>rfl
   |cons m ms=>obtain⟨g,o,h,_⟩:=hc 0 (by simp);cases h
  subst h0;refine(AnyE.slices_Clone_nil Tryz.cloneS 0 c w).mono ?_;rintro e w' ⟨rfl,rfl⟩;exact⟨_,rfl,World.ownsRow_nil _ _ _ _,Below.refl _ _⟩
 |some a=>
  obtain⟨i0,hi,hz0,hz1,hz2⟩:=info_parts info_str;rcases Nat.eq_zero_or_pos ss.length with h0|h0
  ·have h1:ss=[]:=List.length_eq_zero_iff.1 h0;subst h1;exact clone_str_zero a c w
  ·obtain⟨g,o,he,_⟩:=hc 0 h0;obtain rfl:a=⟨g,o,none⟩:=Option.some.inj he;refine(AnyE.slices_Clone Tryz.cloneS i0 _ 1 16 hi hz0 hz1 hz2 rfl (by decide) Tryz.sizeOf9 g o ss.length c (ss.flatMap strC) w (flat_len strC 1 (fun _=>rfl) ss) (by unfold maxLen;omega) (by omega) (flat_cells strC 1 (fun _=>rfl) (by decide) ss w g o fun j hj i hi=>?_) ?_).mono ?_
   ·obtain⟨g',o',he,_,_,x⟩:=hc j hj;cases he
    match i,hi with
    |0,_=>rw[Nat.mul_one];exact x
   ·intro u hu;obtain⟨m,_,hm⟩:=List.mem_flatMap.1 hu;simp only[strC,List.mem_cons,List.not_mem_nil,or_false]at hm;rw[hm];rfl
   ·rintro e w' ⟨v',rfl,h1,_,h2⟩;exact⟨v',rfl,h1,h2⟩
end Go.Proofs.YtibcjfjacielbaaGreatDoor
